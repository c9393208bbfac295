/-
  NARROWER THAN 'FOR EVERY INPUT', by the rows' own cells (each row's printed sentence says how): HireStarts: laid · CancelsCost: laid · OddsExact: laid · DriversMay: laid · HireChecks: laid · HiresAt: laid · HireSums: laid · HiresClash: laid · HireBills: laid.
  DERIVED. THE GIVEN ROWS OF THIS SEAT. 9 by the template 'for every input the law returns true; each argument reads behind the call as it read before'; 0 by the template 'total and deterministic' (their statements: YtljnekobfjpfaaaDoorTotals.lean).
  GIVEN WITH THE SEED: the statements are not yours to turn. If you find one false, say at which input.
  Laid BY PROGRAM, IN A SANDBOX (cutbox-rows.mjs): the forced cells as the released guide's own fill.sh prints them over the translation f096b10155cd633b… (all of the seat's roots in one cut). By AI agents, Wed Nov 11 2026. No macro, syntax, notation, axiom, sorry.
-/
import Derived.Test.YtljnekobfjpfaaaDoorChecked
import GoSem.PinnedTables
import GoSem.Claim
import GoSem.ClaimJoined
import GoSem.ClaimMapViews
import Derived.JoinedTies
import Derived.KernelRfl
namespace Go.Proofs.YtljnekobfjpfaaaDoor
/- THE CELL 'sum', in the pinned program and in every row, IS THE sha256 OF THE DUMP (.gsa) THAT YtljnekobfjpfaaaDoorProg.lean LOADS. Nothing in Lean hashes anything: it is a label: what it is worth is what the hold of that sum in a sandbox is worth. -/
noncomputable def Tryd.pinned : Pinned := { name := "ytljnekobfjpfaaadoor", sum := "f096b10155cd633b87ad5d61f34d943b86ce01ff402410fb4dc6381c2b2b0c7c", checked := Tryd.checked }
namespace Rows
def none {H : Type} : Left H := { results := [], args := [] }

/- WHAT THE LISTED PACKAGE-LEVEL VARIABLES READ AS WHEN THE CALL BEGINS. Each datum BY PROGRAM (the guide's laid-datum.mjs) off the statement by which the dump's own 'gosem.cut.vars' lays the variable. In a bare row this is a premise. The card (YtljnekobfjpfaaaDoorCards.lean) ties it to the program's text. -/
def laid_unicode_utf8_acceptRanges {H : Type} : DataW H := .agg [.agg [.lit (.int .u8 128), .lit (.int .u8 191)], .agg [.lit (.int .u8 160), .lit (.int .u8 191)], .agg [.lit (.int .u8 128), .lit (.int .u8 159)], .agg [.lit (.int .u8 144), .lit (.int .u8 191)], .agg [.lit (.int .u8 128), .lit (.int .u8 143)], .agg [.lit (.int .u8 0), .lit (.int .u8 0)], .agg [.lit (.int .u8 0), .lit (.int .u8 0)], .agg [.lit (.int .u8 0), .lit (.int .u8 0)], .agg [.lit (.int .u8 0), .lit (.int .u8 0)], .agg [.lit (.int .u8 0), .lit (.int .u8 0)], .agg [.lit (.int .u8 0), .lit (.int .u8 0)], .agg [.lit (.int .u8 0), .lit (.int .u8 0)], .agg [.lit (.int .u8 0), .lit (.int .u8 0)], .agg [.lit (.int .u8 0), .lit (.int .u8 0)], .agg [.lit (.int .u8 0), .lit (.int .u8 0)], .agg [.lit (.int .u8 0), .lit (.int .u8 0)]]
/-- One of Go's own tables, pinned by name: the form's constant. -/
def laid_unicode_utf8_first : DataW Unit := Go.Pinned.utf8First

/-- 'rentlaw1.HireStarts': WHATEVER THE INPUT: true; the input reads as it did. -/
def hireStartsSpec : ChangeSpec := { name := "hireStarts", fn := fun _ => fun
  | [d] => { results := [.lit (.bool true)], args := [d] }
  | _ => none }
def hireStartsRow : OpenClaim := { program := "ytljnekobfjpfaaadoor", sum := "f096b10155cd633b87ad5d61f34d943b86ce01ff402410fb4dc6381c2b2b0c7c", func := "forecourt/rentlaw1.HireStarts", spec := "hireStarts", inPlace := ["internal/bytealg.IndexByteString", "internal/bytealg.IndexString"], named := ["unicode/utf8.first", "unicode/utf8.acceptRanges", "internal/bytealg.MaxLen"], apart := false, laid := [("unicode/utf8.acceptRanges", laid_unicode_utf8_acceptRanges), ("unicode/utf8.first", laid_unicode_utf8_first)] }
def HireStartsSaid : Prop := hireStartsRow.holds Tryd.pinned (OpenSpec.ofChange hireStartsSpec)

/-- ITS FALSE NEIGHBOUR: 'it returns false'. Refute it at one input. -/
def hireStartsWrong : ChangeSpec := { name := "hireStarts", fn := fun _ => fun
  | [d] => { results := [.lit (.bool false)], args := [d] }
  | _ => none }
def HireStartsWrongFalsely : Prop := hireStartsRow.holds Tryd.pinned (OpenSpec.ofChange hireStartsWrong)

/-- 'rentlaw1.CancelsCost': WHATEVER THE INPUT: true; the input reads as it did. -/
def cancelsCostSpec : ChangeSpec := { name := "cancelsCost", fn := fun _ => fun
  | [d] => { results := [.lit (.bool true)], args := [d] }
  | _ => none }
def cancelsCostRow : OpenClaim := { program := "ytljnekobfjpfaaadoor", sum := "f096b10155cd633b87ad5d61f34d943b86ce01ff402410fb4dc6381c2b2b0c7c", func := "forecourt/rentlaw1.CancelsCost", spec := "cancelsCost", inPlace := ["internal/bytealg.IndexByteString", "internal/bytealg.IndexString"], named := ["unicode/utf8.first", "unicode/utf8.acceptRanges", "internal/bytealg.MaxLen"], apart := false, laid := [("unicode/utf8.acceptRanges", laid_unicode_utf8_acceptRanges), ("unicode/utf8.first", laid_unicode_utf8_first)] }
def CancelsCostSaid : Prop := cancelsCostRow.holds Tryd.pinned (OpenSpec.ofChange cancelsCostSpec)

/-- ITS FALSE NEIGHBOUR: 'it returns false'. Refute it at one input. -/
def cancelsCostWrong : ChangeSpec := { name := "cancelsCost", fn := fun _ => fun
  | [d] => { results := [.lit (.bool false)], args := [d] }
  | _ => none }
def CancelsCostWrongFalsely : Prop := cancelsCostRow.holds Tryd.pinned (OpenSpec.ofChange cancelsCostWrong)

/-- 'rentlaw1.OddsExact': WHATEVER THE INPUT: true; the input reads as it did. -/
def oddsExactSpec : ChangeSpec := { name := "oddsExact", fn := fun _ => fun
  | [d] => { results := [.lit (.bool true)], args := [d] }
  | _ => none }
def oddsExactRow : OpenClaim := { program := "ytljnekobfjpfaaadoor", sum := "f096b10155cd633b87ad5d61f34d943b86ce01ff402410fb4dc6381c2b2b0c7c", func := "forecourt/rentlaw1.OddsExact", spec := "oddsExact", inPlace := ["internal/bytealg.IndexByteString", "internal/bytealg.IndexString"], named := ["unicode/utf8.first", "unicode/utf8.acceptRanges", "internal/bytealg.MaxLen"], apart := false, laid := [("unicode/utf8.acceptRanges", laid_unicode_utf8_acceptRanges), ("unicode/utf8.first", laid_unicode_utf8_first)] }
def OddsExactSaid : Prop := oddsExactRow.holds Tryd.pinned (OpenSpec.ofChange oddsExactSpec)

/-- ITS FALSE NEIGHBOUR: 'it returns false'. Refute it at one input. -/
def oddsExactWrong : ChangeSpec := { name := "oddsExact", fn := fun _ => fun
  | [d] => { results := [.lit (.bool false)], args := [d] }
  | _ => none }
def OddsExactWrongFalsely : Prop := oddsExactRow.holds Tryd.pinned (OpenSpec.ofChange oddsExactWrong)

/-- 'rentlaw1.DriversMay': WHATEVER THE INPUT: true; the input reads as it did. -/
def driversMaySpec : ChangeSpec := { name := "driversMay", fn := fun _ => fun
  | [d] => { results := [.lit (.bool true)], args := [d] }
  | _ => none }
def driversMayRow : OpenClaim := { program := "ytljnekobfjpfaaadoor", sum := "f096b10155cd633b87ad5d61f34d943b86ce01ff402410fb4dc6381c2b2b0c7c", func := "forecourt/rentlaw1.DriversMay", spec := "driversMay", inPlace := ["internal/bytealg.IndexByteString", "internal/bytealg.IndexString"], unfollowed := true, recurses := true, named := ["unicode/utf8.first", "unicode/utf8.acceptRanges", "internal/bytealg.MaxLen"], apart := false, laid := [("unicode/utf8.acceptRanges", laid_unicode_utf8_acceptRanges), ("unicode/utf8.first", laid_unicode_utf8_first)] }
def DriversMaySaid : Prop := driversMayRow.holds Tryd.pinned (OpenSpec.ofChange driversMaySpec)

/-- ITS FALSE NEIGHBOUR: 'it returns false'. Refute it at one input. -/
def driversMayWrong : ChangeSpec := { name := "driversMay", fn := fun _ => fun
  | [d] => { results := [.lit (.bool false)], args := [d] }
  | _ => none }
def DriversMayWrongFalsely : Prop := driversMayRow.holds Tryd.pinned (OpenSpec.ofChange driversMayWrong)

/-- 'rentlaw1.HireChecks': WHATEVER THE INPUT: true; the input reads as it did. -/
def hireChecksSpec : ChangeSpec := { name := "hireChecks", fn := fun _ => fun
  | [d] => { results := [.lit (.bool true)], args := [d] }
  | _ => none }
def hireChecksRow : OpenClaim := { program := "ytljnekobfjpfaaadoor", sum := "f096b10155cd633b87ad5d61f34d943b86ce01ff402410fb4dc6381c2b2b0c7c", func := "forecourt/rentlaw1.HireChecks", spec := "hireChecks", inPlace := ["internal/bytealg.IndexByteString", "internal/bytealg.IndexString"], unfollowed := true, recurses := true, named := ["unicode/utf8.first", "unicode/utf8.acceptRanges", "internal/bytealg.MaxLen"], apart := false, laid := [("unicode/utf8.acceptRanges", laid_unicode_utf8_acceptRanges), ("unicode/utf8.first", laid_unicode_utf8_first)] }
def HireChecksSaid : Prop := hireChecksRow.holds Tryd.pinned (OpenSpec.ofChange hireChecksSpec)

/-- ITS FALSE NEIGHBOUR: 'it returns false'. Refute it at one input. -/
def hireChecksWrong : ChangeSpec := { name := "hireChecks", fn := fun _ => fun
  | [d] => { results := [.lit (.bool false)], args := [d] }
  | _ => none }
def HireChecksWrongFalsely : Prop := hireChecksRow.holds Tryd.pinned (OpenSpec.ofChange hireChecksWrong)

/-- 'rentlaw1.HiresAt': WHATEVER THE INPUT: true; the input reads as it did. -/
def hiresAtSpec : ChangeSpec := { name := "hiresAt", fn := fun _ => fun
  | [d] => { results := [.lit (.bool true)], args := [d] }
  | _ => none }
def hiresAtRow : OpenClaim := { program := "ytljnekobfjpfaaadoor", sum := "f096b10155cd633b87ad5d61f34d943b86ce01ff402410fb4dc6381c2b2b0c7c", func := "forecourt/rentlaw1.HiresAt", spec := "hiresAt", inPlace := ["internal/bytealg.IndexByteString", "internal/bytealg.IndexString"], unfollowed := true, recurses := true, named := ["unicode/utf8.first", "unicode/utf8.acceptRanges", "internal/bytealg.MaxLen"], apart := false, laid := [("unicode/utf8.acceptRanges", laid_unicode_utf8_acceptRanges), ("unicode/utf8.first", laid_unicode_utf8_first)] }
def HiresAtSaid : Prop := hiresAtRow.holds Tryd.pinned (OpenSpec.ofChange hiresAtSpec)

/-- ITS FALSE NEIGHBOUR: 'it returns false'. Refute it at one input. -/
def hiresAtWrong : ChangeSpec := { name := "hiresAt", fn := fun _ => fun
  | [d] => { results := [.lit (.bool false)], args := [d] }
  | _ => none }
def HiresAtWrongFalsely : Prop := hiresAtRow.holds Tryd.pinned (OpenSpec.ofChange hiresAtWrong)

/-- 'rentlaw1.HireSums': WHATEVER THE INPUT: true; the input reads as it did. -/
def hireSumsSpec : ChangeSpec := { name := "hireSums", fn := fun _ => fun
  | [d] => { results := [.lit (.bool true)], args := [d] }
  | _ => none }
def hireSumsRow : OpenClaim := { program := "ytljnekobfjpfaaadoor", sum := "f096b10155cd633b87ad5d61f34d943b86ce01ff402410fb4dc6381c2b2b0c7c", func := "forecourt/rentlaw1.HireSums", spec := "hireSums", inPlace := ["internal/bytealg.IndexByteString", "internal/bytealg.IndexString"], unfollowed := true, recurses := true, named := ["unicode/utf8.first", "unicode/utf8.acceptRanges", "internal/bytealg.MaxLen"], apart := false, laid := [("unicode/utf8.acceptRanges", laid_unicode_utf8_acceptRanges), ("unicode/utf8.first", laid_unicode_utf8_first)] }
def HireSumsSaid : Prop := hireSumsRow.holds Tryd.pinned (OpenSpec.ofChange hireSumsSpec)

/-- ITS FALSE NEIGHBOUR: 'it returns false'. Refute it at one input. -/
def hireSumsWrong : ChangeSpec := { name := "hireSums", fn := fun _ => fun
  | [d] => { results := [.lit (.bool false)], args := [d] }
  | _ => none }
def HireSumsWrongFalsely : Prop := hireSumsRow.holds Tryd.pinned (OpenSpec.ofChange hireSumsWrong)

/-- 'rentlaw1.HiresClash': WHATEVER THE INPUT: true; the input reads as it did. -/
def hiresClashSpec : ChangeSpec := { name := "hiresClash", fn := fun _ => fun
  | [d] => { results := [.lit (.bool true)], args := [d] }
  | _ => none }
def hiresClashRow : OpenClaim := { program := "ytljnekobfjpfaaadoor", sum := "f096b10155cd633b87ad5d61f34d943b86ce01ff402410fb4dc6381c2b2b0c7c", func := "forecourt/rentlaw1.HiresClash", spec := "hiresClash", inPlace := ["internal/bytealg.IndexByteString", "internal/bytealg.IndexString"], unfollowed := true, recurses := true, named := ["unicode/utf8.first", "unicode/utf8.acceptRanges", "internal/bytealg.MaxLen"], apart := false, laid := [("unicode/utf8.acceptRanges", laid_unicode_utf8_acceptRanges), ("unicode/utf8.first", laid_unicode_utf8_first)] }
def HiresClashSaid : Prop := hiresClashRow.holds Tryd.pinned (OpenSpec.ofChange hiresClashSpec)

/-- ITS FALSE NEIGHBOUR: 'it returns false'. Refute it at one input. -/
def hiresClashWrong : ChangeSpec := { name := "hiresClash", fn := fun _ => fun
  | [d] => { results := [.lit (.bool false)], args := [d] }
  | _ => none }
def HiresClashWrongFalsely : Prop := hiresClashRow.holds Tryd.pinned (OpenSpec.ofChange hiresClashWrong)

/-- 'rentlaw1.HireBills': WHATEVER THE INPUT: true; the input reads as it did. -/
def hireBillsSpec : ChangeSpec := { name := "hireBills", fn := fun _ => fun
  | [d] => { results := [.lit (.bool true)], args := [d] }
  | _ => none }
def hireBillsRow : OpenClaim := { program := "ytljnekobfjpfaaadoor", sum := "f096b10155cd633b87ad5d61f34d943b86ce01ff402410fb4dc6381c2b2b0c7c", func := "forecourt/rentlaw1.HireBills", spec := "hireBills", inPlace := ["internal/bytealg.IndexByteString", "internal/bytealg.IndexString"], unfollowed := true, recurses := true, named := ["unicode/utf8.first", "unicode/utf8.acceptRanges", "internal/bytealg.MaxLen"], apart := false, laid := [("unicode/utf8.acceptRanges", laid_unicode_utf8_acceptRanges), ("unicode/utf8.first", laid_unicode_utf8_first)] }
def HireBillsSaid : Prop := hireBillsRow.holds Tryd.pinned (OpenSpec.ofChange hireBillsSpec)

/-- ITS FALSE NEIGHBOUR: 'it returns false'. Refute it at one input. -/
def hireBillsWrong : ChangeSpec := { name := "hireBills", fn := fun _ => fun
  | [d] => { results := [.lit (.bool false)], args := [d] }
  | _ => none }
def HireBillsWrongFalsely : Prop := hireBillsRow.holds Tryd.pinned (OpenSpec.ofChange hireBillsWrong)

/- THE SECOND FORM. 'bulk': how many values and letters a reading holds, each counted each time it is reached (what is shared counts as often as it is met; a slice's spare places count too). A statement '..UptoSaid' is the law's where the arguments, and the package variables that the reading takes, are together of bulk at most 1048576: NARROWER than '..Said'. Prove '..Said' where nothing that the law and all that it calls make is longer than what came in: it says more and counts as full. Else prove '..UptoSaid'. A law counts once. -/
mutual
def uptoBulk {H : Type} : DataW H → Nat
  | .lit (.string bytes) => bytes.length + 1
  | .lit _ => 1
  | .nil => 1
  | .ptr d => uptoBulk d + 1
  | .slice elems spare => uptoBulkAll elems + uptoBulkAll spare + 1
  | .agg parts => uptoBulkAll parts + 1
  | .iface _ d => uptoBulk d + 1
  | .map entries => uptoBulkEntries entries + 1
  | .held _ => 1
def uptoBulkAll {H : Type} : List (DataW H) → Nat
  | [] => 0
  | d :: r => uptoBulk d + uptoBulkAll r
def uptoBulkEntries {H : Type} : List (Lit × DataW H) → Nat
  | [] => 0
  | x :: r => uptoBulkEntry x + uptoBulkEntries r
def uptoBulkEntry {H : Type} : Lit × DataW H → Nat
  | (.string bytes, d) => bytes.length + uptoBulk d + 1
  | (_, d) => uptoBulk d + 1
 end
def uptoSmall : (H : Type) → List (DataW H) → Bool := fun _ ds => decide (uptoBulkAll ds ≤ 1048576)
def OpenSpec.upto (s : _root_.Go.ChangeSpec) : _root_.Go.OpenSpec := { _root_.Go.OpenSpec.ofChange s with cond := some uptoSmall }

/-- 'rentlaw1.HireStarts', WHERE WHAT IT READS IS OF BULK AT MOST 1048576: true; the input reads as it did. -/
def hireStartsUptoRow : OpenClaim := { program := "ytljnekobfjpfaaadoor", sum := "f096b10155cd633b87ad5d61f34d943b86ce01ff402410fb4dc6381c2b2b0c7c", func := "forecourt/rentlaw1.HireStarts", spec := "hireStarts", inPlace := ["internal/bytealg.IndexByteString", "internal/bytealg.IndexString"], named := ["unicode/utf8.first", "unicode/utf8.acceptRanges", "internal/bytealg.MaxLen"], apart := false, laid := [("unicode/utf8.acceptRanges", laid_unicode_utf8_acceptRanges), ("unicode/utf8.first", laid_unicode_utf8_first)], narrowed := true }
def HireStartsUptoSaid : Prop := hireStartsUptoRow.holds Tryd.pinned (OpenSpec.upto hireStartsSpec)

/-- 'rentlaw1.CancelsCost', WHERE WHAT IT READS IS OF BULK AT MOST 1048576: true; the input reads as it did. -/
def cancelsCostUptoRow : OpenClaim := { program := "ytljnekobfjpfaaadoor", sum := "f096b10155cd633b87ad5d61f34d943b86ce01ff402410fb4dc6381c2b2b0c7c", func := "forecourt/rentlaw1.CancelsCost", spec := "cancelsCost", inPlace := ["internal/bytealg.IndexByteString", "internal/bytealg.IndexString"], named := ["unicode/utf8.first", "unicode/utf8.acceptRanges", "internal/bytealg.MaxLen"], apart := false, laid := [("unicode/utf8.acceptRanges", laid_unicode_utf8_acceptRanges), ("unicode/utf8.first", laid_unicode_utf8_first)], narrowed := true }
def CancelsCostUptoSaid : Prop := cancelsCostUptoRow.holds Tryd.pinned (OpenSpec.upto cancelsCostSpec)

/-- 'rentlaw1.OddsExact', WHERE WHAT IT READS IS OF BULK AT MOST 1048576: true; the input reads as it did. -/
def oddsExactUptoRow : OpenClaim := { program := "ytljnekobfjpfaaadoor", sum := "f096b10155cd633b87ad5d61f34d943b86ce01ff402410fb4dc6381c2b2b0c7c", func := "forecourt/rentlaw1.OddsExact", spec := "oddsExact", inPlace := ["internal/bytealg.IndexByteString", "internal/bytealg.IndexString"], named := ["unicode/utf8.first", "unicode/utf8.acceptRanges", "internal/bytealg.MaxLen"], apart := false, laid := [("unicode/utf8.acceptRanges", laid_unicode_utf8_acceptRanges), ("unicode/utf8.first", laid_unicode_utf8_first)], narrowed := true }
def OddsExactUptoSaid : Prop := oddsExactUptoRow.holds Tryd.pinned (OpenSpec.upto oddsExactSpec)

/-- 'rentlaw1.DriversMay', WHERE WHAT IT READS IS OF BULK AT MOST 1048576: true; the input reads as it did. -/
def driversMayUptoRow : OpenClaim := { program := "ytljnekobfjpfaaadoor", sum := "f096b10155cd633b87ad5d61f34d943b86ce01ff402410fb4dc6381c2b2b0c7c", func := "forecourt/rentlaw1.DriversMay", spec := "driversMay", inPlace := ["internal/bytealg.IndexByteString", "internal/bytealg.IndexString"], unfollowed := true, recurses := true, named := ["unicode/utf8.first", "unicode/utf8.acceptRanges", "internal/bytealg.MaxLen"], apart := false, laid := [("unicode/utf8.acceptRanges", laid_unicode_utf8_acceptRanges), ("unicode/utf8.first", laid_unicode_utf8_first)], narrowed := true }
def DriversMayUptoSaid : Prop := driversMayUptoRow.holds Tryd.pinned (OpenSpec.upto driversMaySpec)

/-- 'rentlaw1.HireChecks', WHERE WHAT IT READS IS OF BULK AT MOST 1048576: true; the input reads as it did. -/
def hireChecksUptoRow : OpenClaim := { program := "ytljnekobfjpfaaadoor", sum := "f096b10155cd633b87ad5d61f34d943b86ce01ff402410fb4dc6381c2b2b0c7c", func := "forecourt/rentlaw1.HireChecks", spec := "hireChecks", inPlace := ["internal/bytealg.IndexByteString", "internal/bytealg.IndexString"], unfollowed := true, recurses := true, named := ["unicode/utf8.first", "unicode/utf8.acceptRanges", "internal/bytealg.MaxLen"], apart := false, laid := [("unicode/utf8.acceptRanges", laid_unicode_utf8_acceptRanges), ("unicode/utf8.first", laid_unicode_utf8_first)], narrowed := true }
def HireChecksUptoSaid : Prop := hireChecksUptoRow.holds Tryd.pinned (OpenSpec.upto hireChecksSpec)

/-- 'rentlaw1.HiresAt', WHERE WHAT IT READS IS OF BULK AT MOST 1048576: true; the input reads as it did. -/
def hiresAtUptoRow : OpenClaim := { program := "ytljnekobfjpfaaadoor", sum := "f096b10155cd633b87ad5d61f34d943b86ce01ff402410fb4dc6381c2b2b0c7c", func := "forecourt/rentlaw1.HiresAt", spec := "hiresAt", inPlace := ["internal/bytealg.IndexByteString", "internal/bytealg.IndexString"], unfollowed := true, recurses := true, named := ["unicode/utf8.first", "unicode/utf8.acceptRanges", "internal/bytealg.MaxLen"], apart := false, laid := [("unicode/utf8.acceptRanges", laid_unicode_utf8_acceptRanges), ("unicode/utf8.first", laid_unicode_utf8_first)], narrowed := true }
def HiresAtUptoSaid : Prop := hiresAtUptoRow.holds Tryd.pinned (OpenSpec.upto hiresAtSpec)

/-- 'rentlaw1.HireSums', WHERE WHAT IT READS IS OF BULK AT MOST 1048576: true; the input reads as it did. -/
def hireSumsUptoRow : OpenClaim := { program := "ytljnekobfjpfaaadoor", sum := "f096b10155cd633b87ad5d61f34d943b86ce01ff402410fb4dc6381c2b2b0c7c", func := "forecourt/rentlaw1.HireSums", spec := "hireSums", inPlace := ["internal/bytealg.IndexByteString", "internal/bytealg.IndexString"], unfollowed := true, recurses := true, named := ["unicode/utf8.first", "unicode/utf8.acceptRanges", "internal/bytealg.MaxLen"], apart := false, laid := [("unicode/utf8.acceptRanges", laid_unicode_utf8_acceptRanges), ("unicode/utf8.first", laid_unicode_utf8_first)], narrowed := true }
def HireSumsUptoSaid : Prop := hireSumsUptoRow.holds Tryd.pinned (OpenSpec.upto hireSumsSpec)

/-- 'rentlaw1.HiresClash', WHERE WHAT IT READS IS OF BULK AT MOST 1048576: true; the input reads as it did. -/
def hiresClashUptoRow : OpenClaim := { program := "ytljnekobfjpfaaadoor", sum := "f096b10155cd633b87ad5d61f34d943b86ce01ff402410fb4dc6381c2b2b0c7c", func := "forecourt/rentlaw1.HiresClash", spec := "hiresClash", inPlace := ["internal/bytealg.IndexByteString", "internal/bytealg.IndexString"], unfollowed := true, recurses := true, named := ["unicode/utf8.first", "unicode/utf8.acceptRanges", "internal/bytealg.MaxLen"], apart := false, laid := [("unicode/utf8.acceptRanges", laid_unicode_utf8_acceptRanges), ("unicode/utf8.first", laid_unicode_utf8_first)], narrowed := true }
def HiresClashUptoSaid : Prop := hiresClashUptoRow.holds Tryd.pinned (OpenSpec.upto hiresClashSpec)

/-- 'rentlaw1.HireBills', WHERE WHAT IT READS IS OF BULK AT MOST 1048576: true; the input reads as it did. -/
def hireBillsUptoRow : OpenClaim := { program := "ytljnekobfjpfaaadoor", sum := "f096b10155cd633b87ad5d61f34d943b86ce01ff402410fb4dc6381c2b2b0c7c", func := "forecourt/rentlaw1.HireBills", spec := "hireBills", inPlace := ["internal/bytealg.IndexByteString", "internal/bytealg.IndexString"], unfollowed := true, recurses := true, named := ["unicode/utf8.first", "unicode/utf8.acceptRanges", "internal/bytealg.MaxLen"], apart := false, laid := [("unicode/utf8.acceptRanges", laid_unicode_utf8_acceptRanges), ("unicode/utf8.first", laid_unicode_utf8_first)], narrowed := true }
def HireBillsUptoSaid : Prop := hireBillsUptoRow.holds Tryd.pinned (OpenSpec.upto hireBillsSpec)

end Rows
end Go.Proofs.YtljnekobfjpfaaaDoor
