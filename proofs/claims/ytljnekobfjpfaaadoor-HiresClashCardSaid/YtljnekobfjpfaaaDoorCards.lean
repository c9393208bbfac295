/-
  DERIVED. GIVEN WITH THE SEED: THE CARDS: each row of YtljnekobfjpfaaaDoorRows.lean that lists a variable, with what it lists TIED to the program's text (the seventh form; the later family's looks); each row that meets fmt, with fmt's text TOLD by the authors' own Lean function (tested against real Go, not proved from fmt's source: count such statements apart). THE CARD IS WHAT COUNTS. Prove the row's statement (the work); the ties are given (YtljnekobfjpfaaaDoorTie.lean); close each card by the builder's one call (the guide's Derived/Test/ToyasCard.lean, 'card_holds'). Laid BY PROGRAM, IN A SANDBOX (cutbox-door.mjs). By AI agents, Wed Nov 11 2026. No macro, syntax, notation, axiom, sorry.
-/
import Derived.Test.YtljnekobfjpfaaaDoorRows
import GoSem.ClaimSeven
namespace Go.Proofs.YtljnekobfjpfaaaDoor
namespace Rows

/-- THE TIED CARD OF 'rentlaw1.HireStarts'. -/
def hireStartsCard : Claim7 := { stood := { row := hireStartsRow, standIns := [], harness := (true, "7e0d1489cd3ad22ae519921cde8f35870e8c20009007214b61aef65fbc529d2c"), looks := false }, kinds := [], alts := [], laidByText := true, laidKinds := [.data, .pinned], laidTests := true, laidLooks := .later }
def HireStartsCardSaid : Prop := Claim7.holds Tryd.pinned (.plain (OpenSpec.ofChange hireStartsSpec)) hireStartsCard

/-- THE TIED CARD OF 'rentlaw1.CancelsCost'. -/
def cancelsCostCard : Claim7 := { stood := { row := cancelsCostRow, standIns := [], harness := (true, "7e0d1489cd3ad22ae519921cde8f35870e8c20009007214b61aef65fbc529d2c"), looks := false }, kinds := [], alts := [], laidByText := true, laidKinds := [.data, .pinned], laidTests := true, laidLooks := .later }
def CancelsCostCardSaid : Prop := Claim7.holds Tryd.pinned (.plain (OpenSpec.ofChange cancelsCostSpec)) cancelsCostCard

/-- THE TIED CARD OF 'rentlaw1.OddsExact'. -/
def oddsExactCard : Claim7 := { stood := { row := oddsExactRow, standIns := [], harness := (true, "7e0d1489cd3ad22ae519921cde8f35870e8c20009007214b61aef65fbc529d2c"), looks := false }, kinds := [], alts := [], laidByText := true, laidKinds := [.data, .pinned], laidTests := true, laidLooks := .later }
def OddsExactCardSaid : Prop := Claim7.holds Tryd.pinned (.plain (OpenSpec.ofChange oddsExactSpec)) oddsExactCard

/-- THE TIED CARD OF 'rentlaw1.DriversMay'. -/
def driversMayCard : Claim7 := { stood := { row := driversMayRow, standIns := [], harness := (true, "7e0d1489cd3ad22ae519921cde8f35870e8c20009007214b61aef65fbc529d2c"), looks := false }, kinds := [], alts := [], laidByText := true, laidKinds := [.data, .pinned], laidTests := true, laidLooks := .later }
def DriversMayCardSaid : Prop := Claim7.holds Tryd.pinned (.plain (OpenSpec.ofChange driversMaySpec)) driversMayCard

/-- THE TIED CARD OF 'rentlaw1.HireChecks'. -/
def hireChecksCard : Claim7 := { stood := { row := hireChecksRow, standIns := [], harness := (true, "7e0d1489cd3ad22ae519921cde8f35870e8c20009007214b61aef65fbc529d2c"), looks := false }, kinds := [], alts := [], laidByText := true, laidKinds := [.data, .pinned], laidTests := true, laidLooks := .later }
def HireChecksCardSaid : Prop := Claim7.holds Tryd.pinned (.plain (OpenSpec.ofChange hireChecksSpec)) hireChecksCard

/-- THE TIED CARD OF 'rentlaw1.HiresAt'. -/
def hiresAtCard : Claim7 := { stood := { row := hiresAtRow, standIns := [], harness := (true, "7e0d1489cd3ad22ae519921cde8f35870e8c20009007214b61aef65fbc529d2c"), looks := false }, kinds := [], alts := [], laidByText := true, laidKinds := [.data, .pinned], laidTests := true, laidLooks := .later }
def HiresAtCardSaid : Prop := Claim7.holds Tryd.pinned (.plain (OpenSpec.ofChange hiresAtSpec)) hiresAtCard

/-- THE TIED CARD OF 'rentlaw1.HireSums'. -/
def hireSumsCard : Claim7 := { stood := { row := hireSumsRow, standIns := [], harness := (true, "7e0d1489cd3ad22ae519921cde8f35870e8c20009007214b61aef65fbc529d2c"), looks := false }, kinds := [], alts := [], laidByText := true, laidKinds := [.data, .pinned], laidTests := true, laidLooks := .later }
def HireSumsCardSaid : Prop := Claim7.holds Tryd.pinned (.plain (OpenSpec.ofChange hireSumsSpec)) hireSumsCard

/-- THE TIED CARD OF 'rentlaw1.HiresClash'. -/
def hiresClashCard : Claim7 := { stood := { row := hiresClashRow, standIns := [], harness := (true, "7e0d1489cd3ad22ae519921cde8f35870e8c20009007214b61aef65fbc529d2c"), looks := false }, kinds := [], alts := [], laidByText := true, laidKinds := [.data, .pinned], laidTests := true, laidLooks := .later }
def HiresClashCardSaid : Prop := Claim7.holds Tryd.pinned (.plain (OpenSpec.ofChange hiresClashSpec)) hiresClashCard

/-- THE TIED CARD OF 'rentlaw1.HireBills'. -/
def hireBillsCard : Claim7 := { stood := { row := hireBillsRow, standIns := [], harness := (true, "7e0d1489cd3ad22ae519921cde8f35870e8c20009007214b61aef65fbc529d2c"), looks := false }, kinds := [], alts := [], laidByText := true, laidKinds := [.data, .pinned], laidTests := true, laidLooks := .later }
def HireBillsCardSaid : Prop := Claim7.holds Tryd.pinned (.plain (OpenSpec.ofChange hireBillsSpec)) hireBillsCard

/-- THE SECOND FORM's CARD OF 'rentlaw1.HireStarts'. -/
def hireStartsUptoCard : Claim7 := { stood := { row := hireStartsUptoRow, standIns := [], harness := (true, "7e0d1489cd3ad22ae519921cde8f35870e8c20009007214b61aef65fbc529d2c"), looks := false }, kinds := [], alts := [], laidByText := true, laidKinds := [.data, .pinned], laidTests := true, laidLooks := .later }
def HireStartsUptoCardSaid : Prop := Claim7.holds Tryd.pinned (.plain (OpenSpec.upto hireStartsSpec)) hireStartsUptoCard

/-- THE SECOND FORM's CARD OF 'rentlaw1.CancelsCost'. -/
def cancelsCostUptoCard : Claim7 := { stood := { row := cancelsCostUptoRow, standIns := [], harness := (true, "7e0d1489cd3ad22ae519921cde8f35870e8c20009007214b61aef65fbc529d2c"), looks := false }, kinds := [], alts := [], laidByText := true, laidKinds := [.data, .pinned], laidTests := true, laidLooks := .later }
def CancelsCostUptoCardSaid : Prop := Claim7.holds Tryd.pinned (.plain (OpenSpec.upto cancelsCostSpec)) cancelsCostUptoCard

/-- THE SECOND FORM's CARD OF 'rentlaw1.OddsExact'. -/
def oddsExactUptoCard : Claim7 := { stood := { row := oddsExactUptoRow, standIns := [], harness := (true, "7e0d1489cd3ad22ae519921cde8f35870e8c20009007214b61aef65fbc529d2c"), looks := false }, kinds := [], alts := [], laidByText := true, laidKinds := [.data, .pinned], laidTests := true, laidLooks := .later }
def OddsExactUptoCardSaid : Prop := Claim7.holds Tryd.pinned (.plain (OpenSpec.upto oddsExactSpec)) oddsExactUptoCard

/-- THE SECOND FORM's CARD OF 'rentlaw1.DriversMay'. -/
def driversMayUptoCard : Claim7 := { stood := { row := driversMayUptoRow, standIns := [], harness := (true, "7e0d1489cd3ad22ae519921cde8f35870e8c20009007214b61aef65fbc529d2c"), looks := false }, kinds := [], alts := [], laidByText := true, laidKinds := [.data, .pinned], laidTests := true, laidLooks := .later }
def DriversMayUptoCardSaid : Prop := Claim7.holds Tryd.pinned (.plain (OpenSpec.upto driversMaySpec)) driversMayUptoCard

/-- THE SECOND FORM's CARD OF 'rentlaw1.HireChecks'. -/
def hireChecksUptoCard : Claim7 := { stood := { row := hireChecksUptoRow, standIns := [], harness := (true, "7e0d1489cd3ad22ae519921cde8f35870e8c20009007214b61aef65fbc529d2c"), looks := false }, kinds := [], alts := [], laidByText := true, laidKinds := [.data, .pinned], laidTests := true, laidLooks := .later }
def HireChecksUptoCardSaid : Prop := Claim7.holds Tryd.pinned (.plain (OpenSpec.upto hireChecksSpec)) hireChecksUptoCard

/-- THE SECOND FORM's CARD OF 'rentlaw1.HiresAt'. -/
def hiresAtUptoCard : Claim7 := { stood := { row := hiresAtUptoRow, standIns := [], harness := (true, "7e0d1489cd3ad22ae519921cde8f35870e8c20009007214b61aef65fbc529d2c"), looks := false }, kinds := [], alts := [], laidByText := true, laidKinds := [.data, .pinned], laidTests := true, laidLooks := .later }
def HiresAtUptoCardSaid : Prop := Claim7.holds Tryd.pinned (.plain (OpenSpec.upto hiresAtSpec)) hiresAtUptoCard

/-- THE SECOND FORM's CARD OF 'rentlaw1.HireSums'. -/
def hireSumsUptoCard : Claim7 := { stood := { row := hireSumsUptoRow, standIns := [], harness := (true, "7e0d1489cd3ad22ae519921cde8f35870e8c20009007214b61aef65fbc529d2c"), looks := false }, kinds := [], alts := [], laidByText := true, laidKinds := [.data, .pinned], laidTests := true, laidLooks := .later }
def HireSumsUptoCardSaid : Prop := Claim7.holds Tryd.pinned (.plain (OpenSpec.upto hireSumsSpec)) hireSumsUptoCard

/-- THE SECOND FORM's CARD OF 'rentlaw1.HiresClash'. -/
def hiresClashUptoCard : Claim7 := { stood := { row := hiresClashUptoRow, standIns := [], harness := (true, "7e0d1489cd3ad22ae519921cde8f35870e8c20009007214b61aef65fbc529d2c"), looks := false }, kinds := [], alts := [], laidByText := true, laidKinds := [.data, .pinned], laidTests := true, laidLooks := .later }
def HiresClashUptoCardSaid : Prop := Claim7.holds Tryd.pinned (.plain (OpenSpec.upto hiresClashSpec)) hiresClashUptoCard

/-- THE SECOND FORM's CARD OF 'rentlaw1.HireBills'. -/
def hireBillsUptoCard : Claim7 := { stood := { row := hireBillsUptoRow, standIns := [], harness := (true, "7e0d1489cd3ad22ae519921cde8f35870e8c20009007214b61aef65fbc529d2c"), looks := false }, kinds := [], alts := [], laidByText := true, laidKinds := [.data, .pinned], laidTests := true, laidLooks := .later }
def HireBillsUptoCardSaid : Prop := Claim7.holds Tryd.pinned (.plain (OpenSpec.upto hireBillsSpec)) hireBillsUptoCard
end Rows
end Go.Proofs.YtljnekobfjpfaaaDoor
