/-
  NARROWER THAN 'FOR EVERY INPUT', by the rows' own cells (each row's printed sentence says how): OddsAdd: laid · BillsSettle: laid · RateChecks: laid · DivisionsLeast: laid · DivisionsStretch: laid · DivisionsCost: laid · ClashesMean: laid · CodesTake: laid · PartsCost: laid · TaxesAdd: laid · NothingIsCheaper: laid.
  DERIVED. THE GIVEN ROWS OF THIS SEAT. 11 by the template 'for every input the law returns true; each argument reads behind the call as it read before'; 0 by the template 'total and deterministic' (their statements: YtmpomocahgcebaaDoorTotals.lean).
  GIVEN WITH THE SEED: the statements are not yours to turn. If you find one false, say at which input.
  Laid BY PROGRAM, IN A SANDBOX (cutbox-rows.mjs): the forced cells as the released guide's own fill.sh prints them over the translation bc230b16c2c45197… (all of the seat's roots in one cut). By AI agents, Wed Nov 11 2026. No macro, syntax, notation, axiom, sorry.
-/
import Derived.Test.YtmpomocahgcebaaDoorChecked
import GoSem.PinnedTables
import GoSem.Claim
import GoSem.ClaimJoined
import GoSem.ClaimMapViews
import Derived.JoinedTies
import Derived.KernelRfl
namespace Go.Proofs.YtmpomocahgcebaaDoor
/- THE CELL 'sum', in the pinned program and in every row, IS THE sha256 OF THE DUMP (.gsa) THAT YtmpomocahgcebaaDoorProg.lean LOADS. Nothing in Lean hashes anything: it is a label: what it is worth is what the hold of that sum in a sandbox is worth. -/
noncomputable def Tryd.pinned : Pinned := { name := "ytmpomocahgcebaadoor", sum := "bc230b16c2c45197672f658e9e0b04bf3f45b2febe147c545b2814ad7d9e578a", checked := Tryd.checked }
namespace Rows
def none {H : Type} : Left H := { results := [], args := [] }

/- WHAT THE LISTED PACKAGE-LEVEL VARIABLES READ AS WHEN THE CALL BEGINS. Each datum BY PROGRAM (the guide's laid-datum.mjs) off the statement by which the dump's own 'gosem.cut.vars' lays the variable. In a bare row this is a premise. The card (YtmpomocahgcebaaDoorCards.lean) ties it to the program's text. -/
def laid_unicode_utf8_acceptRanges {H : Type} : DataW H := .agg [.agg [.lit (.int .u8 128), .lit (.int .u8 191)], .agg [.lit (.int .u8 160), .lit (.int .u8 191)], .agg [.lit (.int .u8 128), .lit (.int .u8 159)], .agg [.lit (.int .u8 144), .lit (.int .u8 191)], .agg [.lit (.int .u8 128), .lit (.int .u8 143)], .agg [.lit (.int .u8 0), .lit (.int .u8 0)], .agg [.lit (.int .u8 0), .lit (.int .u8 0)], .agg [.lit (.int .u8 0), .lit (.int .u8 0)], .agg [.lit (.int .u8 0), .lit (.int .u8 0)], .agg [.lit (.int .u8 0), .lit (.int .u8 0)], .agg [.lit (.int .u8 0), .lit (.int .u8 0)], .agg [.lit (.int .u8 0), .lit (.int .u8 0)], .agg [.lit (.int .u8 0), .lit (.int .u8 0)], .agg [.lit (.int .u8 0), .lit (.int .u8 0)], .agg [.lit (.int .u8 0), .lit (.int .u8 0)], .agg [.lit (.int .u8 0), .lit (.int .u8 0)]]
/-- One of Go's own tables, pinned by name: the form's constant. -/
def laid_unicode_utf8_first : DataW Unit := Go.Pinned.utf8First

/-- 'rentkeep1.OddsAdd': WHATEVER THE INPUT: true; the input reads as it did. -/
def oddsAddSpec : ChangeSpec := { name := "oddsAdd", fn := fun _ => fun
  | [d] => { results := [.lit (.bool true)], args := [d] }
  | _ => none }
def oddsAddRow : OpenClaim := { program := "ytmpomocahgcebaadoor", sum := "bc230b16c2c45197672f658e9e0b04bf3f45b2febe147c545b2814ad7d9e578a", func := "forecourt/rentkeep1.OddsAdd", spec := "oddsAdd", inPlace := ["internal/bytealg.IndexByteString", "internal/bytealg.IndexString"], named := ["unicode/utf8.first", "unicode/utf8.acceptRanges", "internal/bytealg.MaxLen"], apart := false, laid := [("unicode/utf8.acceptRanges", laid_unicode_utf8_acceptRanges), ("unicode/utf8.first", laid_unicode_utf8_first)] }
def OddsAddSaid : Prop := oddsAddRow.holds Tryd.pinned (OpenSpec.ofChange oddsAddSpec)

/-- ITS FALSE NEIGHBOUR: 'it returns false'. Refute it at one input. -/
def oddsAddWrong : ChangeSpec := { name := "oddsAdd", fn := fun _ => fun
  | [d] => { results := [.lit (.bool false)], args := [d] }
  | _ => none }
def OddsAddWrongFalsely : Prop := oddsAddRow.holds Tryd.pinned (OpenSpec.ofChange oddsAddWrong)

/-- 'rentkeep1.BillsSettle': WHATEVER THE INPUT: true; the input reads as it did. -/
def billsSettleSpec : ChangeSpec := { name := "billsSettle", fn := fun _ => fun
  | [d] => { results := [.lit (.bool true)], args := [d] }
  | _ => none }
def billsSettleRow : OpenClaim := { program := "ytmpomocahgcebaadoor", sum := "bc230b16c2c45197672f658e9e0b04bf3f45b2febe147c545b2814ad7d9e578a", func := "forecourt/rentkeep1.BillsSettle", spec := "billsSettle", inPlace := ["internal/bytealg.IndexByteString", "internal/bytealg.IndexString"], named := ["unicode/utf8.first", "unicode/utf8.acceptRanges", "internal/bytealg.MaxLen"], apart := false, laid := [("unicode/utf8.acceptRanges", laid_unicode_utf8_acceptRanges), ("unicode/utf8.first", laid_unicode_utf8_first)] }
def BillsSettleSaid : Prop := billsSettleRow.holds Tryd.pinned (OpenSpec.ofChange billsSettleSpec)

/-- ITS FALSE NEIGHBOUR: 'it returns false'. Refute it at one input. -/
def billsSettleWrong : ChangeSpec := { name := "billsSettle", fn := fun _ => fun
  | [d] => { results := [.lit (.bool false)], args := [d] }
  | _ => none }
def BillsSettleWrongFalsely : Prop := billsSettleRow.holds Tryd.pinned (OpenSpec.ofChange billsSettleWrong)

/-- 'rentlaw1.RateChecks': WHATEVER THE INPUT: true; the input reads as it did. -/
def rateChecksSpec : ChangeSpec := { name := "rateChecks", fn := fun _ => fun
  | [d] => { results := [.lit (.bool true)], args := [d] }
  | _ => none }
def rateChecksRow : OpenClaim := { program := "ytmpomocahgcebaadoor", sum := "bc230b16c2c45197672f658e9e0b04bf3f45b2febe147c545b2814ad7d9e578a", func := "forecourt/rentlaw1.RateChecks", spec := "rateChecks", inPlace := ["internal/bytealg.IndexByteString", "internal/bytealg.IndexString"], unfollowed := true, recurses := true, named := ["unicode/utf8.first", "unicode/utf8.acceptRanges", "internal/bytealg.MaxLen"], apart := false, laid := [("unicode/utf8.acceptRanges", laid_unicode_utf8_acceptRanges), ("unicode/utf8.first", laid_unicode_utf8_first)] }
def RateChecksSaid : Prop := rateChecksRow.holds Tryd.pinned (OpenSpec.ofChange rateChecksSpec)

/-- ITS FALSE NEIGHBOUR: 'it returns false'. Refute it at one input. -/
def rateChecksWrong : ChangeSpec := { name := "rateChecks", fn := fun _ => fun
  | [d] => { results := [.lit (.bool false)], args := [d] }
  | _ => none }
def RateChecksWrongFalsely : Prop := rateChecksRow.holds Tryd.pinned (OpenSpec.ofChange rateChecksWrong)

/-- 'rentlaw1.DivisionsLeast': WHATEVER THE INPUT: true; the input reads as it did. -/
def divisionsLeastSpec : ChangeSpec := { name := "divisionsLeast", fn := fun _ => fun
  | [d] => { results := [.lit (.bool true)], args := [d] }
  | _ => none }
def divisionsLeastRow : OpenClaim := { program := "ytmpomocahgcebaadoor", sum := "bc230b16c2c45197672f658e9e0b04bf3f45b2febe147c545b2814ad7d9e578a", func := "forecourt/rentlaw1.DivisionsLeast", spec := "divisionsLeast", inPlace := ["internal/bytealg.IndexByteString", "internal/bytealg.IndexString"], unfollowed := true, recurses := true, named := ["unicode/utf8.first", "unicode/utf8.acceptRanges", "internal/bytealg.MaxLen"], apart := false, laid := [("unicode/utf8.acceptRanges", laid_unicode_utf8_acceptRanges), ("unicode/utf8.first", laid_unicode_utf8_first)] }
def DivisionsLeastSaid : Prop := divisionsLeastRow.holds Tryd.pinned (OpenSpec.ofChange divisionsLeastSpec)

/-- ITS FALSE NEIGHBOUR: 'it returns false'. Refute it at one input. -/
def divisionsLeastWrong : ChangeSpec := { name := "divisionsLeast", fn := fun _ => fun
  | [d] => { results := [.lit (.bool false)], args := [d] }
  | _ => none }
def DivisionsLeastWrongFalsely : Prop := divisionsLeastRow.holds Tryd.pinned (OpenSpec.ofChange divisionsLeastWrong)

/-- 'rentlaw1.DivisionsStretch': WHATEVER THE INPUT: true; the input reads as it did. -/
def divisionsStretchSpec : ChangeSpec := { name := "divisionsStretch", fn := fun _ => fun
  | [d] => { results := [.lit (.bool true)], args := [d] }
  | _ => none }
def divisionsStretchRow : OpenClaim := { program := "ytmpomocahgcebaadoor", sum := "bc230b16c2c45197672f658e9e0b04bf3f45b2febe147c545b2814ad7d9e578a", func := "forecourt/rentlaw1.DivisionsStretch", spec := "divisionsStretch", inPlace := ["internal/bytealg.IndexByteString", "internal/bytealg.IndexString"], unfollowed := true, recurses := true, named := ["unicode/utf8.first", "unicode/utf8.acceptRanges", "internal/bytealg.MaxLen"], apart := false, laid := [("unicode/utf8.acceptRanges", laid_unicode_utf8_acceptRanges), ("unicode/utf8.first", laid_unicode_utf8_first)] }
def DivisionsStretchSaid : Prop := divisionsStretchRow.holds Tryd.pinned (OpenSpec.ofChange divisionsStretchSpec)

/-- ITS FALSE NEIGHBOUR: 'it returns false'. Refute it at one input. -/
def divisionsStretchWrong : ChangeSpec := { name := "divisionsStretch", fn := fun _ => fun
  | [d] => { results := [.lit (.bool false)], args := [d] }
  | _ => none }
def DivisionsStretchWrongFalsely : Prop := divisionsStretchRow.holds Tryd.pinned (OpenSpec.ofChange divisionsStretchWrong)

/-- 'rentlaw1.DivisionsCost': WHATEVER THE INPUT: true; the input reads as it did. -/
def divisionsCostSpec : ChangeSpec := { name := "divisionsCost", fn := fun _ => fun
  | [d] => { results := [.lit (.bool true)], args := [d] }
  | _ => none }
def divisionsCostRow : OpenClaim := { program := "ytmpomocahgcebaadoor", sum := "bc230b16c2c45197672f658e9e0b04bf3f45b2febe147c545b2814ad7d9e578a", func := "forecourt/rentlaw1.DivisionsCost", spec := "divisionsCost", inPlace := ["internal/bytealg.IndexByteString", "internal/bytealg.IndexString"], unfollowed := true, recurses := true, named := ["unicode/utf8.first", "unicode/utf8.acceptRanges", "internal/bytealg.MaxLen"], apart := false, laid := [("unicode/utf8.acceptRanges", laid_unicode_utf8_acceptRanges), ("unicode/utf8.first", laid_unicode_utf8_first)] }
def DivisionsCostSaid : Prop := divisionsCostRow.holds Tryd.pinned (OpenSpec.ofChange divisionsCostSpec)

/-- ITS FALSE NEIGHBOUR: 'it returns false'. Refute it at one input. -/
def divisionsCostWrong : ChangeSpec := { name := "divisionsCost", fn := fun _ => fun
  | [d] => { results := [.lit (.bool false)], args := [d] }
  | _ => none }
def DivisionsCostWrongFalsely : Prop := divisionsCostRow.holds Tryd.pinned (OpenSpec.ofChange divisionsCostWrong)

/-- 'rentkeep1.ClashesMean': WHATEVER THE INPUT: true; the input reads as it did. -/
def clashesMeanSpec : ChangeSpec := { name := "clashesMean", fn := fun _ => fun
  | [d] => { results := [.lit (.bool true)], args := [d] }
  | _ => none }
def clashesMeanRow : OpenClaim := { program := "ytmpomocahgcebaadoor", sum := "bc230b16c2c45197672f658e9e0b04bf3f45b2febe147c545b2814ad7d9e578a", func := "forecourt/rentkeep1.ClashesMean", spec := "clashesMean", inPlace := ["internal/bytealg.IndexByteString", "internal/bytealg.IndexString"], unfollowed := true, recurses := true, named := ["unicode/utf8.first", "unicode/utf8.acceptRanges", "internal/bytealg.MaxLen"], apart := false, laid := [("unicode/utf8.acceptRanges", laid_unicode_utf8_acceptRanges), ("unicode/utf8.first", laid_unicode_utf8_first)] }
def ClashesMeanSaid : Prop := clashesMeanRow.holds Tryd.pinned (OpenSpec.ofChange clashesMeanSpec)

/-- ITS FALSE NEIGHBOUR: 'it returns false'. Refute it at one input. -/
def clashesMeanWrong : ChangeSpec := { name := "clashesMean", fn := fun _ => fun
  | [d] => { results := [.lit (.bool false)], args := [d] }
  | _ => none }
def ClashesMeanWrongFalsely : Prop := clashesMeanRow.holds Tryd.pinned (OpenSpec.ofChange clashesMeanWrong)

/-- 'rentlaw1.CodesTake': WHATEVER THE INPUT: true; the input reads as it did. -/
def codesTakeSpec : ChangeSpec := { name := "codesTake", fn := fun _ => fun
  | [d] => { results := [.lit (.bool true)], args := [d] }
  | _ => none }
def codesTakeRow : OpenClaim := { program := "ytmpomocahgcebaadoor", sum := "bc230b16c2c45197672f658e9e0b04bf3f45b2febe147c545b2814ad7d9e578a", func := "forecourt/rentlaw1.CodesTake", spec := "codesTake", inPlace := ["internal/bytealg.IndexByteString", "internal/bytealg.IndexString"], unfollowed := true, recurses := true, named := ["unicode/utf8.first", "unicode/utf8.acceptRanges", "internal/bytealg.MaxLen"], apart := false, laid := [("unicode/utf8.acceptRanges", laid_unicode_utf8_acceptRanges), ("unicode/utf8.first", laid_unicode_utf8_first)] }
def CodesTakeSaid : Prop := codesTakeRow.holds Tryd.pinned (OpenSpec.ofChange codesTakeSpec)

/-- ITS FALSE NEIGHBOUR: 'it returns false'. Refute it at one input. -/
def codesTakeWrong : ChangeSpec := { name := "codesTake", fn := fun _ => fun
  | [d] => { results := [.lit (.bool false)], args := [d] }
  | _ => none }
def CodesTakeWrongFalsely : Prop := codesTakeRow.holds Tryd.pinned (OpenSpec.ofChange codesTakeWrong)

/-- 'rentlaw1.PartsCost': WHATEVER THE INPUT: true; the input reads as it did. -/
def partsCostSpec : ChangeSpec := { name := "partsCost", fn := fun _ => fun
  | [d] => { results := [.lit (.bool true)], args := [d] }
  | _ => none }
def partsCostRow : OpenClaim := { program := "ytmpomocahgcebaadoor", sum := "bc230b16c2c45197672f658e9e0b04bf3f45b2febe147c545b2814ad7d9e578a", func := "forecourt/rentlaw1.PartsCost", spec := "partsCost", inPlace := ["internal/bytealg.IndexByteString", "internal/bytealg.IndexString"], unfollowed := true, recurses := true, named := ["unicode/utf8.first", "unicode/utf8.acceptRanges", "internal/bytealg.MaxLen"], apart := false, laid := [("unicode/utf8.acceptRanges", laid_unicode_utf8_acceptRanges), ("unicode/utf8.first", laid_unicode_utf8_first)] }
def PartsCostSaid : Prop := partsCostRow.holds Tryd.pinned (OpenSpec.ofChange partsCostSpec)

/-- ITS FALSE NEIGHBOUR: 'it returns false'. Refute it at one input. -/
def partsCostWrong : ChangeSpec := { name := "partsCost", fn := fun _ => fun
  | [d] => { results := [.lit (.bool false)], args := [d] }
  | _ => none }
def PartsCostWrongFalsely : Prop := partsCostRow.holds Tryd.pinned (OpenSpec.ofChange partsCostWrong)

/-- 'rentlaw1.TaxesAdd': WHATEVER THE INPUT: true; the input reads as it did. -/
def taxesAddSpec : ChangeSpec := { name := "taxesAdd", fn := fun _ => fun
  | [d] => { results := [.lit (.bool true)], args := [d] }
  | _ => none }
def taxesAddRow : OpenClaim := { program := "ytmpomocahgcebaadoor", sum := "bc230b16c2c45197672f658e9e0b04bf3f45b2febe147c545b2814ad7d9e578a", func := "forecourt/rentlaw1.TaxesAdd", spec := "taxesAdd", inPlace := ["internal/bytealg.IndexByteString", "internal/bytealg.IndexString"], unfollowed := true, recurses := true, named := ["unicode/utf8.first", "unicode/utf8.acceptRanges", "internal/bytealg.MaxLen"], apart := false, laid := [("unicode/utf8.acceptRanges", laid_unicode_utf8_acceptRanges), ("unicode/utf8.first", laid_unicode_utf8_first)] }
def TaxesAddSaid : Prop := taxesAddRow.holds Tryd.pinned (OpenSpec.ofChange taxesAddSpec)

/-- ITS FALSE NEIGHBOUR: 'it returns false'. Refute it at one input. -/
def taxesAddWrong : ChangeSpec := { name := "taxesAdd", fn := fun _ => fun
  | [d] => { results := [.lit (.bool false)], args := [d] }
  | _ => none }
def TaxesAddWrongFalsely : Prop := taxesAddRow.holds Tryd.pinned (OpenSpec.ofChange taxesAddWrong)

/-- 'rentkeep1.NothingIsCheaper': WHATEVER THE INPUT: true; the input reads as it did. -/
def nothingIsCheaperSpec : ChangeSpec := { name := "nothingIsCheaper", fn := fun _ => fun
  | [d] => { results := [.lit (.bool true)], args := [d] }
  | _ => none }
def nothingIsCheaperRow : OpenClaim := { program := "ytmpomocahgcebaadoor", sum := "bc230b16c2c45197672f658e9e0b04bf3f45b2febe147c545b2814ad7d9e578a", func := "forecourt/rentkeep1.NothingIsCheaper", spec := "nothingIsCheaper", inPlace := ["internal/bytealg.IndexByteString", "internal/bytealg.IndexString"], unfollowed := true, recurses := true, named := ["unicode/utf8.first", "unicode/utf8.acceptRanges", "internal/bytealg.MaxLen"], apart := false, laid := [("unicode/utf8.acceptRanges", laid_unicode_utf8_acceptRanges), ("unicode/utf8.first", laid_unicode_utf8_first)] }
def NothingIsCheaperSaid : Prop := nothingIsCheaperRow.holds Tryd.pinned (OpenSpec.ofChange nothingIsCheaperSpec)

/-- ITS FALSE NEIGHBOUR: 'it returns false'. Refute it at one input. -/
def nothingIsCheaperWrong : ChangeSpec := { name := "nothingIsCheaper", fn := fun _ => fun
  | [d] => { results := [.lit (.bool false)], args := [d] }
  | _ => none }
def NothingIsCheaperWrongFalsely : Prop := nothingIsCheaperRow.holds Tryd.pinned (OpenSpec.ofChange nothingIsCheaperWrong)

/- THE SECOND FORM. 'bulk': how many values and letters a reading holds, each counted each time it is reached (what is shared counts as often as it is met; a slice's spare places count too). A statement '..UptoSaid' is the law's where the arguments, and the package variables that the reading takes, are together of bulk at most 1048576: NARROWER than '..Said'. Prove '..Said' where nothing that the law and all that it calls make is longer than what came in: it says more and counts as full. Else prove '..UptoSaid'. A law counts once. -/
mutual
def uptoBulk {H : Type} : DataW H → Nat
  | .lit (.string bytes) => bytes.length + 1
  | .lit _ => 1
  | .nil => 1
  | .ptr d => uptoBulk d + 1
  | .slice elems spare => uptoBulkAll elems + uptoBulkAll spare + 1
  | .agg parts => uptoBulkAll parts + 1
  | .iface _ d => uptoBulk d + 1
  | .map entries => uptoBulkEntries entries + 1
  | .held _ => 1
def uptoBulkAll {H : Type} : List (DataW H) → Nat
  | [] => 0
  | d :: r => uptoBulk d + uptoBulkAll r
def uptoBulkEntries {H : Type} : List (Lit × DataW H) → Nat
  | [] => 0
  | x :: r => uptoBulkEntry x + uptoBulkEntries r
def uptoBulkEntry {H : Type} : Lit × DataW H → Nat
  | (.string bytes, d) => bytes.length + uptoBulk d + 1
  | (_, d) => uptoBulk d + 1
 end
def uptoSmall : (H : Type) → List (DataW H) → Bool := fun _ ds => decide (uptoBulkAll ds ≤ 1048576)
def OpenSpec.upto (s : _root_.Go.ChangeSpec) : _root_.Go.OpenSpec := { _root_.Go.OpenSpec.ofChange s with cond := some uptoSmall }

/-- 'rentkeep1.OddsAdd', WHERE WHAT IT READS IS OF BULK AT MOST 1048576: true; the input reads as it did. -/
def oddsAddUptoRow : OpenClaim := { program := "ytmpomocahgcebaadoor", sum := "bc230b16c2c45197672f658e9e0b04bf3f45b2febe147c545b2814ad7d9e578a", func := "forecourt/rentkeep1.OddsAdd", spec := "oddsAdd", inPlace := ["internal/bytealg.IndexByteString", "internal/bytealg.IndexString"], named := ["unicode/utf8.first", "unicode/utf8.acceptRanges", "internal/bytealg.MaxLen"], apart := false, laid := [("unicode/utf8.acceptRanges", laid_unicode_utf8_acceptRanges), ("unicode/utf8.first", laid_unicode_utf8_first)], narrowed := true }
def OddsAddUptoSaid : Prop := oddsAddUptoRow.holds Tryd.pinned (OpenSpec.upto oddsAddSpec)

/-- 'rentkeep1.BillsSettle', WHERE WHAT IT READS IS OF BULK AT MOST 1048576: true; the input reads as it did. -/
def billsSettleUptoRow : OpenClaim := { program := "ytmpomocahgcebaadoor", sum := "bc230b16c2c45197672f658e9e0b04bf3f45b2febe147c545b2814ad7d9e578a", func := "forecourt/rentkeep1.BillsSettle", spec := "billsSettle", inPlace := ["internal/bytealg.IndexByteString", "internal/bytealg.IndexString"], named := ["unicode/utf8.first", "unicode/utf8.acceptRanges", "internal/bytealg.MaxLen"], apart := false, laid := [("unicode/utf8.acceptRanges", laid_unicode_utf8_acceptRanges), ("unicode/utf8.first", laid_unicode_utf8_first)], narrowed := true }
def BillsSettleUptoSaid : Prop := billsSettleUptoRow.holds Tryd.pinned (OpenSpec.upto billsSettleSpec)

/-- 'rentlaw1.RateChecks', WHERE WHAT IT READS IS OF BULK AT MOST 1048576: true; the input reads as it did. -/
def rateChecksUptoRow : OpenClaim := { program := "ytmpomocahgcebaadoor", sum := "bc230b16c2c45197672f658e9e0b04bf3f45b2febe147c545b2814ad7d9e578a", func := "forecourt/rentlaw1.RateChecks", spec := "rateChecks", inPlace := ["internal/bytealg.IndexByteString", "internal/bytealg.IndexString"], unfollowed := true, recurses := true, named := ["unicode/utf8.first", "unicode/utf8.acceptRanges", "internal/bytealg.MaxLen"], apart := false, laid := [("unicode/utf8.acceptRanges", laid_unicode_utf8_acceptRanges), ("unicode/utf8.first", laid_unicode_utf8_first)], narrowed := true }
def RateChecksUptoSaid : Prop := rateChecksUptoRow.holds Tryd.pinned (OpenSpec.upto rateChecksSpec)

/-- 'rentlaw1.DivisionsLeast', WHERE WHAT IT READS IS OF BULK AT MOST 1048576: true; the input reads as it did. -/
def divisionsLeastUptoRow : OpenClaim := { program := "ytmpomocahgcebaadoor", sum := "bc230b16c2c45197672f658e9e0b04bf3f45b2febe147c545b2814ad7d9e578a", func := "forecourt/rentlaw1.DivisionsLeast", spec := "divisionsLeast", inPlace := ["internal/bytealg.IndexByteString", "internal/bytealg.IndexString"], unfollowed := true, recurses := true, named := ["unicode/utf8.first", "unicode/utf8.acceptRanges", "internal/bytealg.MaxLen"], apart := false, laid := [("unicode/utf8.acceptRanges", laid_unicode_utf8_acceptRanges), ("unicode/utf8.first", laid_unicode_utf8_first)], narrowed := true }
def DivisionsLeastUptoSaid : Prop := divisionsLeastUptoRow.holds Tryd.pinned (OpenSpec.upto divisionsLeastSpec)

/-- 'rentlaw1.DivisionsStretch', WHERE WHAT IT READS IS OF BULK AT MOST 1048576: true; the input reads as it did. -/
def divisionsStretchUptoRow : OpenClaim := { program := "ytmpomocahgcebaadoor", sum := "bc230b16c2c45197672f658e9e0b04bf3f45b2febe147c545b2814ad7d9e578a", func := "forecourt/rentlaw1.DivisionsStretch", spec := "divisionsStretch", inPlace := ["internal/bytealg.IndexByteString", "internal/bytealg.IndexString"], unfollowed := true, recurses := true, named := ["unicode/utf8.first", "unicode/utf8.acceptRanges", "internal/bytealg.MaxLen"], apart := false, laid := [("unicode/utf8.acceptRanges", laid_unicode_utf8_acceptRanges), ("unicode/utf8.first", laid_unicode_utf8_first)], narrowed := true }
def DivisionsStretchUptoSaid : Prop := divisionsStretchUptoRow.holds Tryd.pinned (OpenSpec.upto divisionsStretchSpec)

/-- 'rentlaw1.DivisionsCost', WHERE WHAT IT READS IS OF BULK AT MOST 1048576: true; the input reads as it did. -/
def divisionsCostUptoRow : OpenClaim := { program := "ytmpomocahgcebaadoor", sum := "bc230b16c2c45197672f658e9e0b04bf3f45b2febe147c545b2814ad7d9e578a", func := "forecourt/rentlaw1.DivisionsCost", spec := "divisionsCost", inPlace := ["internal/bytealg.IndexByteString", "internal/bytealg.IndexString"], unfollowed := true, recurses := true, named := ["unicode/utf8.first", "unicode/utf8.acceptRanges", "internal/bytealg.MaxLen"], apart := false, laid := [("unicode/utf8.acceptRanges", laid_unicode_utf8_acceptRanges), ("unicode/utf8.first", laid_unicode_utf8_first)], narrowed := true }
def DivisionsCostUptoSaid : Prop := divisionsCostUptoRow.holds Tryd.pinned (OpenSpec.upto divisionsCostSpec)

/-- 'rentkeep1.ClashesMean', WHERE WHAT IT READS IS OF BULK AT MOST 1048576: true; the input reads as it did. -/
def clashesMeanUptoRow : OpenClaim := { program := "ytmpomocahgcebaadoor", sum := "bc230b16c2c45197672f658e9e0b04bf3f45b2febe147c545b2814ad7d9e578a", func := "forecourt/rentkeep1.ClashesMean", spec := "clashesMean", inPlace := ["internal/bytealg.IndexByteString", "internal/bytealg.IndexString"], unfollowed := true, recurses := true, named := ["unicode/utf8.first", "unicode/utf8.acceptRanges", "internal/bytealg.MaxLen"], apart := false, laid := [("unicode/utf8.acceptRanges", laid_unicode_utf8_acceptRanges), ("unicode/utf8.first", laid_unicode_utf8_first)], narrowed := true }
def ClashesMeanUptoSaid : Prop := clashesMeanUptoRow.holds Tryd.pinned (OpenSpec.upto clashesMeanSpec)

/-- 'rentlaw1.CodesTake', WHERE WHAT IT READS IS OF BULK AT MOST 1048576: true; the input reads as it did. -/
def codesTakeUptoRow : OpenClaim := { program := "ytmpomocahgcebaadoor", sum := "bc230b16c2c45197672f658e9e0b04bf3f45b2febe147c545b2814ad7d9e578a", func := "forecourt/rentlaw1.CodesTake", spec := "codesTake", inPlace := ["internal/bytealg.IndexByteString", "internal/bytealg.IndexString"], unfollowed := true, recurses := true, named := ["unicode/utf8.first", "unicode/utf8.acceptRanges", "internal/bytealg.MaxLen"], apart := false, laid := [("unicode/utf8.acceptRanges", laid_unicode_utf8_acceptRanges), ("unicode/utf8.first", laid_unicode_utf8_first)], narrowed := true }
def CodesTakeUptoSaid : Prop := codesTakeUptoRow.holds Tryd.pinned (OpenSpec.upto codesTakeSpec)

/-- 'rentlaw1.PartsCost', WHERE WHAT IT READS IS OF BULK AT MOST 1048576: true; the input reads as it did. -/
def partsCostUptoRow : OpenClaim := { program := "ytmpomocahgcebaadoor", sum := "bc230b16c2c45197672f658e9e0b04bf3f45b2febe147c545b2814ad7d9e578a", func := "forecourt/rentlaw1.PartsCost", spec := "partsCost", inPlace := ["internal/bytealg.IndexByteString", "internal/bytealg.IndexString"], unfollowed := true, recurses := true, named := ["unicode/utf8.first", "unicode/utf8.acceptRanges", "internal/bytealg.MaxLen"], apart := false, laid := [("unicode/utf8.acceptRanges", laid_unicode_utf8_acceptRanges), ("unicode/utf8.first", laid_unicode_utf8_first)], narrowed := true }
def PartsCostUptoSaid : Prop := partsCostUptoRow.holds Tryd.pinned (OpenSpec.upto partsCostSpec)

/-- 'rentlaw1.TaxesAdd', WHERE WHAT IT READS IS OF BULK AT MOST 1048576: true; the input reads as it did. -/
def taxesAddUptoRow : OpenClaim := { program := "ytmpomocahgcebaadoor", sum := "bc230b16c2c45197672f658e9e0b04bf3f45b2febe147c545b2814ad7d9e578a", func := "forecourt/rentlaw1.TaxesAdd", spec := "taxesAdd", inPlace := ["internal/bytealg.IndexByteString", "internal/bytealg.IndexString"], unfollowed := true, recurses := true, named := ["unicode/utf8.first", "unicode/utf8.acceptRanges", "internal/bytealg.MaxLen"], apart := false, laid := [("unicode/utf8.acceptRanges", laid_unicode_utf8_acceptRanges), ("unicode/utf8.first", laid_unicode_utf8_first)], narrowed := true }
def TaxesAddUptoSaid : Prop := taxesAddUptoRow.holds Tryd.pinned (OpenSpec.upto taxesAddSpec)

/-- 'rentkeep1.NothingIsCheaper', WHERE WHAT IT READS IS OF BULK AT MOST 1048576: true; the input reads as it did. -/
def nothingIsCheaperUptoRow : OpenClaim := { program := "ytmpomocahgcebaadoor", sum := "bc230b16c2c45197672f658e9e0b04bf3f45b2febe147c545b2814ad7d9e578a", func := "forecourt/rentkeep1.NothingIsCheaper", spec := "nothingIsCheaper", inPlace := ["internal/bytealg.IndexByteString", "internal/bytealg.IndexString"], unfollowed := true, recurses := true, named := ["unicode/utf8.first", "unicode/utf8.acceptRanges", "internal/bytealg.MaxLen"], apart := false, laid := [("unicode/utf8.acceptRanges", laid_unicode_utf8_acceptRanges), ("unicode/utf8.first", laid_unicode_utf8_first)], narrowed := true }
def NothingIsCheaperUptoSaid : Prop := nothingIsCheaperUptoRow.holds Tryd.pinned (OpenSpec.upto nothingIsCheaperSpec)

end Rows
end Go.Proofs.YtmpomocahgcebaaDoor
