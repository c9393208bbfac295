/-
  DERIVED. GIVEN WITH THE SEED: THE CARDS: each row of YtmpomocahgcebaaDoorRows.lean that lists a variable, with what it lists TIED to the program's text (the seventh form; the later family's looks); each row that meets fmt, with fmt's text TOLD by the authors' own Lean function (tested against real Go, not proved from fmt's source: count such statements apart). THE CARD IS WHAT COUNTS. Prove the row's statement (the work); the ties are given (YtmpomocahgcebaaDoorTie.lean); close each card by the builder's one call (the guide's Derived/Test/ToyasCard.lean, 'card_holds'). Laid BY PROGRAM, IN A SANDBOX (cutbox-door.mjs). By AI agents, Wed Nov 11 2026. No macro, syntax, notation, axiom, sorry.
-/
import Derived.Test.YtmpomocahgcebaaDoorRows
import GoSem.ClaimSeven
namespace Go.Proofs.YtmpomocahgcebaaDoor
namespace Rows

/-- THE TIED CARD OF 'rentkeep1.OddsAdd'. -/
def oddsAddCard : Claim7 := { stood := { row := oddsAddRow, standIns := [], harness := (true, "b15a316b1e8cfd0f918b5ca7709558ab42947bb5981d30112299c6d30a55af8d"), looks := false }, kinds := [], alts := [], laidByText := true, laidKinds := [.data, .pinned], laidTests := true, laidLooks := .later }
def OddsAddCardSaid : Prop := Claim7.holds Tryd.pinned (.plain (OpenSpec.ofChange oddsAddSpec)) oddsAddCard

/-- THE TIED CARD OF 'rentkeep1.BillsSettle'. -/
def billsSettleCard : Claim7 := { stood := { row := billsSettleRow, standIns := [], harness := (true, "b15a316b1e8cfd0f918b5ca7709558ab42947bb5981d30112299c6d30a55af8d"), looks := false }, kinds := [], alts := [], laidByText := true, laidKinds := [.data, .pinned], laidTests := true, laidLooks := .later }
def BillsSettleCardSaid : Prop := Claim7.holds Tryd.pinned (.plain (OpenSpec.ofChange billsSettleSpec)) billsSettleCard

/-- THE TIED CARD OF 'rentlaw1.RateChecks'. -/
def rateChecksCard : Claim7 := { stood := { row := rateChecksRow, standIns := [], harness := (true, "b15a316b1e8cfd0f918b5ca7709558ab42947bb5981d30112299c6d30a55af8d"), looks := false }, kinds := [], alts := [], laidByText := true, laidKinds := [.data, .pinned], laidTests := true, laidLooks := .later }
def RateChecksCardSaid : Prop := Claim7.holds Tryd.pinned (.plain (OpenSpec.ofChange rateChecksSpec)) rateChecksCard

/-- THE TIED CARD OF 'rentlaw1.DivisionsLeast'. -/
def divisionsLeastCard : Claim7 := { stood := { row := divisionsLeastRow, standIns := [], harness := (true, "b15a316b1e8cfd0f918b5ca7709558ab42947bb5981d30112299c6d30a55af8d"), looks := false }, kinds := [], alts := [], laidByText := true, laidKinds := [.data, .pinned], laidTests := true, laidLooks := .later }
def DivisionsLeastCardSaid : Prop := Claim7.holds Tryd.pinned (.plain (OpenSpec.ofChange divisionsLeastSpec)) divisionsLeastCard

/-- THE TIED CARD OF 'rentlaw1.DivisionsStretch'. -/
def divisionsStretchCard : Claim7 := { stood := { row := divisionsStretchRow, standIns := [], harness := (true, "b15a316b1e8cfd0f918b5ca7709558ab42947bb5981d30112299c6d30a55af8d"), looks := false }, kinds := [], alts := [], laidByText := true, laidKinds := [.data, .pinned], laidTests := true, laidLooks := .later }
def DivisionsStretchCardSaid : Prop := Claim7.holds Tryd.pinned (.plain (OpenSpec.ofChange divisionsStretchSpec)) divisionsStretchCard

/-- THE TIED CARD OF 'rentlaw1.DivisionsCost'. -/
def divisionsCostCard : Claim7 := { stood := { row := divisionsCostRow, standIns := [], harness := (true, "b15a316b1e8cfd0f918b5ca7709558ab42947bb5981d30112299c6d30a55af8d"), looks := false }, kinds := [], alts := [], laidByText := true, laidKinds := [.data, .pinned], laidTests := true, laidLooks := .later }
def DivisionsCostCardSaid : Prop := Claim7.holds Tryd.pinned (.plain (OpenSpec.ofChange divisionsCostSpec)) divisionsCostCard

/-- THE TIED CARD OF 'rentkeep1.ClashesMean'. -/
def clashesMeanCard : Claim7 := { stood := { row := clashesMeanRow, standIns := [], harness := (true, "b15a316b1e8cfd0f918b5ca7709558ab42947bb5981d30112299c6d30a55af8d"), looks := false }, kinds := [], alts := [], laidByText := true, laidKinds := [.data, .pinned], laidTests := true, laidLooks := .later }
def ClashesMeanCardSaid : Prop := Claim7.holds Tryd.pinned (.plain (OpenSpec.ofChange clashesMeanSpec)) clashesMeanCard

/-- THE TIED CARD OF 'rentlaw1.CodesTake'. -/
def codesTakeCard : Claim7 := { stood := { row := codesTakeRow, standIns := [], harness := (true, "b15a316b1e8cfd0f918b5ca7709558ab42947bb5981d30112299c6d30a55af8d"), looks := false }, kinds := [], alts := [], laidByText := true, laidKinds := [.data, .pinned], laidTests := true, laidLooks := .later }
def CodesTakeCardSaid : Prop := Claim7.holds Tryd.pinned (.plain (OpenSpec.ofChange codesTakeSpec)) codesTakeCard

/-- THE TIED CARD OF 'rentlaw1.PartsCost'. -/
def partsCostCard : Claim7 := { stood := { row := partsCostRow, standIns := [], harness := (true, "b15a316b1e8cfd0f918b5ca7709558ab42947bb5981d30112299c6d30a55af8d"), looks := false }, kinds := [], alts := [], laidByText := true, laidKinds := [.data, .pinned], laidTests := true, laidLooks := .later }
def PartsCostCardSaid : Prop := Claim7.holds Tryd.pinned (.plain (OpenSpec.ofChange partsCostSpec)) partsCostCard

/-- THE TIED CARD OF 'rentlaw1.TaxesAdd'. -/
def taxesAddCard : Claim7 := { stood := { row := taxesAddRow, standIns := [], harness := (true, "b15a316b1e8cfd0f918b5ca7709558ab42947bb5981d30112299c6d30a55af8d"), looks := false }, kinds := [], alts := [], laidByText := true, laidKinds := [.data, .pinned], laidTests := true, laidLooks := .later }
def TaxesAddCardSaid : Prop := Claim7.holds Tryd.pinned (.plain (OpenSpec.ofChange taxesAddSpec)) taxesAddCard

/-- THE TIED CARD OF 'rentkeep1.NothingIsCheaper'. -/
def nothingIsCheaperCard : Claim7 := { stood := { row := nothingIsCheaperRow, standIns := [], harness := (true, "b15a316b1e8cfd0f918b5ca7709558ab42947bb5981d30112299c6d30a55af8d"), looks := false }, kinds := [], alts := [], laidByText := true, laidKinds := [.data, .pinned], laidTests := true, laidLooks := .later }
def NothingIsCheaperCardSaid : Prop := Claim7.holds Tryd.pinned (.plain (OpenSpec.ofChange nothingIsCheaperSpec)) nothingIsCheaperCard

/-- THE SECOND FORM's CARD OF 'rentkeep1.OddsAdd'. -/
def oddsAddUptoCard : Claim7 := { stood := { row := oddsAddUptoRow, standIns := [], harness := (true, "b15a316b1e8cfd0f918b5ca7709558ab42947bb5981d30112299c6d30a55af8d"), looks := false }, kinds := [], alts := [], laidByText := true, laidKinds := [.data, .pinned], laidTests := true, laidLooks := .later }
def OddsAddUptoCardSaid : Prop := Claim7.holds Tryd.pinned (.plain (OpenSpec.upto oddsAddSpec)) oddsAddUptoCard

/-- THE SECOND FORM's CARD OF 'rentkeep1.BillsSettle'. -/
def billsSettleUptoCard : Claim7 := { stood := { row := billsSettleUptoRow, standIns := [], harness := (true, "b15a316b1e8cfd0f918b5ca7709558ab42947bb5981d30112299c6d30a55af8d"), looks := false }, kinds := [], alts := [], laidByText := true, laidKinds := [.data, .pinned], laidTests := true, laidLooks := .later }
def BillsSettleUptoCardSaid : Prop := Claim7.holds Tryd.pinned (.plain (OpenSpec.upto billsSettleSpec)) billsSettleUptoCard

/-- THE SECOND FORM's CARD OF 'rentlaw1.RateChecks'. -/
def rateChecksUptoCard : Claim7 := { stood := { row := rateChecksUptoRow, standIns := [], harness := (true, "b15a316b1e8cfd0f918b5ca7709558ab42947bb5981d30112299c6d30a55af8d"), looks := false }, kinds := [], alts := [], laidByText := true, laidKinds := [.data, .pinned], laidTests := true, laidLooks := .later }
def RateChecksUptoCardSaid : Prop := Claim7.holds Tryd.pinned (.plain (OpenSpec.upto rateChecksSpec)) rateChecksUptoCard

/-- THE SECOND FORM's CARD OF 'rentlaw1.DivisionsLeast'. -/
def divisionsLeastUptoCard : Claim7 := { stood := { row := divisionsLeastUptoRow, standIns := [], harness := (true, "b15a316b1e8cfd0f918b5ca7709558ab42947bb5981d30112299c6d30a55af8d"), looks := false }, kinds := [], alts := [], laidByText := true, laidKinds := [.data, .pinned], laidTests := true, laidLooks := .later }
def DivisionsLeastUptoCardSaid : Prop := Claim7.holds Tryd.pinned (.plain (OpenSpec.upto divisionsLeastSpec)) divisionsLeastUptoCard

/-- THE SECOND FORM's CARD OF 'rentlaw1.DivisionsStretch'. -/
def divisionsStretchUptoCard : Claim7 := { stood := { row := divisionsStretchUptoRow, standIns := [], harness := (true, "b15a316b1e8cfd0f918b5ca7709558ab42947bb5981d30112299c6d30a55af8d"), looks := false }, kinds := [], alts := [], laidByText := true, laidKinds := [.data, .pinned], laidTests := true, laidLooks := .later }
def DivisionsStretchUptoCardSaid : Prop := Claim7.holds Tryd.pinned (.plain (OpenSpec.upto divisionsStretchSpec)) divisionsStretchUptoCard

/-- THE SECOND FORM's CARD OF 'rentlaw1.DivisionsCost'. -/
def divisionsCostUptoCard : Claim7 := { stood := { row := divisionsCostUptoRow, standIns := [], harness := (true, "b15a316b1e8cfd0f918b5ca7709558ab42947bb5981d30112299c6d30a55af8d"), looks := false }, kinds := [], alts := [], laidByText := true, laidKinds := [.data, .pinned], laidTests := true, laidLooks := .later }
def DivisionsCostUptoCardSaid : Prop := Claim7.holds Tryd.pinned (.plain (OpenSpec.upto divisionsCostSpec)) divisionsCostUptoCard

/-- THE SECOND FORM's CARD OF 'rentkeep1.ClashesMean'. -/
def clashesMeanUptoCard : Claim7 := { stood := { row := clashesMeanUptoRow, standIns := [], harness := (true, "b15a316b1e8cfd0f918b5ca7709558ab42947bb5981d30112299c6d30a55af8d"), looks := false }, kinds := [], alts := [], laidByText := true, laidKinds := [.data, .pinned], laidTests := true, laidLooks := .later }
def ClashesMeanUptoCardSaid : Prop := Claim7.holds Tryd.pinned (.plain (OpenSpec.upto clashesMeanSpec)) clashesMeanUptoCard

/-- THE SECOND FORM's CARD OF 'rentlaw1.CodesTake'. -/
def codesTakeUptoCard : Claim7 := { stood := { row := codesTakeUptoRow, standIns := [], harness := (true, "b15a316b1e8cfd0f918b5ca7709558ab42947bb5981d30112299c6d30a55af8d"), looks := false }, kinds := [], alts := [], laidByText := true, laidKinds := [.data, .pinned], laidTests := true, laidLooks := .later }
def CodesTakeUptoCardSaid : Prop := Claim7.holds Tryd.pinned (.plain (OpenSpec.upto codesTakeSpec)) codesTakeUptoCard

/-- THE SECOND FORM's CARD OF 'rentlaw1.PartsCost'. -/
def partsCostUptoCard : Claim7 := { stood := { row := partsCostUptoRow, standIns := [], harness := (true, "b15a316b1e8cfd0f918b5ca7709558ab42947bb5981d30112299c6d30a55af8d"), looks := false }, kinds := [], alts := [], laidByText := true, laidKinds := [.data, .pinned], laidTests := true, laidLooks := .later }
def PartsCostUptoCardSaid : Prop := Claim7.holds Tryd.pinned (.plain (OpenSpec.upto partsCostSpec)) partsCostUptoCard

/-- THE SECOND FORM's CARD OF 'rentlaw1.TaxesAdd'. -/
def taxesAddUptoCard : Claim7 := { stood := { row := taxesAddUptoRow, standIns := [], harness := (true, "b15a316b1e8cfd0f918b5ca7709558ab42947bb5981d30112299c6d30a55af8d"), looks := false }, kinds := [], alts := [], laidByText := true, laidKinds := [.data, .pinned], laidTests := true, laidLooks := .later }
def TaxesAddUptoCardSaid : Prop := Claim7.holds Tryd.pinned (.plain (OpenSpec.upto taxesAddSpec)) taxesAddUptoCard

/-- THE SECOND FORM's CARD OF 'rentkeep1.NothingIsCheaper'. -/
def nothingIsCheaperUptoCard : Claim7 := { stood := { row := nothingIsCheaperUptoRow, standIns := [], harness := (true, "b15a316b1e8cfd0f918b5ca7709558ab42947bb5981d30112299c6d30a55af8d"), looks := false }, kinds := [], alts := [], laidByText := true, laidKinds := [.data, .pinned], laidTests := true, laidLooks := .later }
def NothingIsCheaperUptoCardSaid : Prop := Claim7.holds Tryd.pinned (.plain (OpenSpec.upto nothingIsCheaperSpec)) nothingIsCheaperUptoCard
end Rows
end Go.Proofs.YtmpomocahgcebaaDoor
