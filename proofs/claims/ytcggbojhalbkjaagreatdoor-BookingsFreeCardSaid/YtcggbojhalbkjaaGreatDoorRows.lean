/-
  NARROWER THAN 'FOR EVERY INPUT', by the rows' own cells (each row's printed sentence says how): QuotesTold: laid · BookingsFree: laid · FleetPlates: laid.
  DERIVED. THE GIVEN ROWS OF THIS SEAT. 3 by the template 'for every input the law returns true; each argument reads behind the call as it read before'; 0 by the template 'total and deterministic' (their statements: YtcggbojhalbkjaaGreatDoorTotals.lean).
  GIVEN WITH THE SEED: the statements are not yours to turn. If you find one false, say at which input.
  Laid BY PROGRAM, IN A SANDBOX (cutbox-rows.mjs): the forced cells as the released guide's own fill.sh prints them over the translation 0e3205556945673c… (all of the seat's roots in one cut). By AI agents, Wed Nov 11 2026. No macro, syntax, notation, axiom, sorry.
-/
import Derived.Test.YtcggbojhalbkjaaGreatDoorChecked
import GoSem.PinnedTables
import GoSem.Claim
import GoSem.ClaimJoined
import GoSem.ClaimMapViews
import Derived.JoinedTies
import Derived.KernelRfl
namespace Go.Proofs.YtcggbojhalbkjaaGreatDoor
/- THE CELL 'sum', in the pinned program and in every row, IS THE sha256 OF THE DUMP (.gsa) THAT YtcggbojhalbkjaaGreatDoorProg.lean LOADS. Nothing in Lean hashes anything: it is a label: what it is worth is what the hold of that sum in a sandbox is worth. -/
noncomputable def Tryz.pinned : Pinned := { name := "ytcggbojhalbkjaagreatdoor", sum := "0e3205556945673c737972b5db58fd1d8c4150369679d53b640f2e697f80084e", checked := Tryz.checked }
namespace Rows
def none {H : Type} : Left H := { results := [], args := [] }

/- WHAT THE LISTED PACKAGE-LEVEL VARIABLES READ AS WHEN THE CALL BEGINS. Each datum BY PROGRAM (the guide's laid-datum.mjs) off the statement by which the dump's own 'gosem.cut.vars' lays the variable. In a bare row this is a premise. The card (YtcggbojhalbkjaaGreatDoorCards.lean) ties it to the program's text. -/
def laid_unicode_utf8_acceptRanges {H : Type} : DataW H := .agg [.agg [.lit (.int .u8 128), .lit (.int .u8 191)], .agg [.lit (.int .u8 160), .lit (.int .u8 191)], .agg [.lit (.int .u8 128), .lit (.int .u8 159)], .agg [.lit (.int .u8 144), .lit (.int .u8 191)], .agg [.lit (.int .u8 128), .lit (.int .u8 143)], .agg [.lit (.int .u8 0), .lit (.int .u8 0)], .agg [.lit (.int .u8 0), .lit (.int .u8 0)], .agg [.lit (.int .u8 0), .lit (.int .u8 0)], .agg [.lit (.int .u8 0), .lit (.int .u8 0)], .agg [.lit (.int .u8 0), .lit (.int .u8 0)], .agg [.lit (.int .u8 0), .lit (.int .u8 0)], .agg [.lit (.int .u8 0), .lit (.int .u8 0)], .agg [.lit (.int .u8 0), .lit (.int .u8 0)], .agg [.lit (.int .u8 0), .lit (.int .u8 0)], .agg [.lit (.int .u8 0), .lit (.int .u8 0)], .agg [.lit (.int .u8 0), .lit (.int .u8 0)]]
/-- One of Go's own tables, pinned by name: the form's constant. -/
def laid_unicode_utf8_first : DataW Unit := Go.Pinned.utf8First

/-- 'rentlaw1.QuotesTold': WHATEVER THE INPUT: true; the input reads as it did. -/
def quotesToldSpec : ChangeSpec := { name := "quotesTold", fn := fun _ => fun
  | [d] => { results := [.lit (.bool true)], args := [d] }
  | _ => none }
def quotesToldRow : OpenClaim := { program := "ytcggbojhalbkjaagreatdoor", sum := "0e3205556945673c737972b5db58fd1d8c4150369679d53b640f2e697f80084e", func := "forecourt/rentlaw1.QuotesTold", spec := "quotesTold", inPlace := ["internal/bytealg.IndexByteString", "internal/bytealg.IndexString"], unfollowed := true, recurses := true, named := ["unicode/utf8.first", "unicode/utf8.acceptRanges", "internal/bytealg.MaxLen"], apart := false, laid := [("unicode/utf8.acceptRanges", laid_unicode_utf8_acceptRanges), ("unicode/utf8.first", laid_unicode_utf8_first)] }
def QuotesToldSaid : Prop := quotesToldRow.holds Tryz.pinned (OpenSpec.ofChange quotesToldSpec)

/-- ITS FALSE NEIGHBOUR: 'it returns false'. Refute it at one input. -/
def quotesToldWrong : ChangeSpec := { name := "quotesTold", fn := fun _ => fun
  | [d] => { results := [.lit (.bool false)], args := [d] }
  | _ => none }
def QuotesToldWrongFalsely : Prop := quotesToldRow.holds Tryz.pinned (OpenSpec.ofChange quotesToldWrong)

/-- 'rentlaw1.BookingsFree': WHATEVER THE INPUT: true; the input reads as it did. -/
def bookingsFreeSpec : ChangeSpec := { name := "bookingsFree", fn := fun _ => fun
  | [d] => { results := [.lit (.bool true)], args := [d] }
  | _ => none }
def bookingsFreeRow : OpenClaim := { program := "ytcggbojhalbkjaagreatdoor", sum := "0e3205556945673c737972b5db58fd1d8c4150369679d53b640f2e697f80084e", func := "forecourt/rentlaw1.BookingsFree", spec := "bookingsFree", inPlace := ["internal/bytealg.IndexByteString", "internal/bytealg.IndexString"], unfollowed := true, recurses := true, named := ["unicode/utf8.first", "unicode/utf8.acceptRanges", "internal/bytealg.MaxLen"], apart := false, laid := [("unicode/utf8.acceptRanges", laid_unicode_utf8_acceptRanges), ("unicode/utf8.first", laid_unicode_utf8_first)] }
def BookingsFreeSaid : Prop := bookingsFreeRow.holds Tryz.pinned (OpenSpec.ofChange bookingsFreeSpec)

/-- ITS FALSE NEIGHBOUR: 'it returns false'. Refute it at one input. -/
def bookingsFreeWrong : ChangeSpec := { name := "bookingsFree", fn := fun _ => fun
  | [d] => { results := [.lit (.bool false)], args := [d] }
  | _ => none }
def BookingsFreeWrongFalsely : Prop := bookingsFreeRow.holds Tryz.pinned (OpenSpec.ofChange bookingsFreeWrong)

/-- 'rentlaw1.FleetPlates': WHATEVER THE INPUT: true; the input reads as it did. -/
def fleetPlatesSpec : ChangeSpec := { name := "fleetPlates", fn := fun _ => fun
  | [d] => { results := [.lit (.bool true)], args := [d] }
  | _ => none }
def fleetPlatesRow : OpenClaim := { program := "ytcggbojhalbkjaagreatdoor", sum := "0e3205556945673c737972b5db58fd1d8c4150369679d53b640f2e697f80084e", func := "forecourt/rentlaw1.FleetPlates", spec := "fleetPlates", inPlace := ["internal/bytealg.abigen_runtime_cmpstring", "internal/bytealg.IndexByteString", "internal/bytealg.IndexString"], unfollowed := true, recurses := true, named := ["unicode/utf8.first", "unicode/utf8.acceptRanges", "internal/bytealg.MaxLen"], apart := false, laid := [("unicode/utf8.acceptRanges", laid_unicode_utf8_acceptRanges), ("unicode/utf8.first", laid_unicode_utf8_first)] }
def FleetPlatesSaid : Prop := fleetPlatesRow.holds Tryz.pinned (OpenSpec.ofChange fleetPlatesSpec)

/-- ITS FALSE NEIGHBOUR: 'it returns false'. Refute it at one input. -/
def fleetPlatesWrong : ChangeSpec := { name := "fleetPlates", fn := fun _ => fun
  | [d] => { results := [.lit (.bool false)], args := [d] }
  | _ => none }
def FleetPlatesWrongFalsely : Prop := fleetPlatesRow.holds Tryz.pinned (OpenSpec.ofChange fleetPlatesWrong)

/- THE SECOND FORM. 'bulk': how many values and letters a reading holds, each counted each time it is reached (what is shared counts as often as it is met; a slice's spare places count too). A statement '..UptoSaid' is the law's where the arguments, and the package variables that the reading takes, are together of bulk at most 1048576: NARROWER than '..Said'. Prove '..Said' where nothing that the law and all that it calls make is longer than what came in: it says more and counts as full. Else prove '..UptoSaid'. A law counts once. -/
mutual
def uptoBulk {H : Type} : DataW H → Nat
  | .lit (.string bytes) => bytes.length + 1
  | .lit _ => 1
  | .nil => 1
  | .ptr d => uptoBulk d + 1
  | .slice elems spare => uptoBulkAll elems + uptoBulkAll spare + 1
  | .agg parts => uptoBulkAll parts + 1
  | .iface _ d => uptoBulk d + 1
  | .map entries => uptoBulkEntries entries + 1
  | .held _ => 1
def uptoBulkAll {H : Type} : List (DataW H) → Nat
  | [] => 0
  | d :: r => uptoBulk d + uptoBulkAll r
def uptoBulkEntries {H : Type} : List (Lit × DataW H) → Nat
  | [] => 0
  | x :: r => uptoBulkEntry x + uptoBulkEntries r
def uptoBulkEntry {H : Type} : Lit × DataW H → Nat
  | (.string bytes, d) => bytes.length + uptoBulk d + 1
  | (_, d) => uptoBulk d + 1
 end
def uptoSmall : (H : Type) → List (DataW H) → Bool := fun _ ds => decide (uptoBulkAll ds ≤ 1048576)
def OpenSpec.upto (s : _root_.Go.ChangeSpec) : _root_.Go.OpenSpec := { _root_.Go.OpenSpec.ofChange s with cond := some uptoSmall }

/-- 'rentlaw1.QuotesTold', WHERE WHAT IT READS IS OF BULK AT MOST 1048576: true; the input reads as it did. -/
def quotesToldUptoRow : OpenClaim := { program := "ytcggbojhalbkjaagreatdoor", sum := "0e3205556945673c737972b5db58fd1d8c4150369679d53b640f2e697f80084e", func := "forecourt/rentlaw1.QuotesTold", spec := "quotesTold", inPlace := ["internal/bytealg.IndexByteString", "internal/bytealg.IndexString"], unfollowed := true, recurses := true, named := ["unicode/utf8.first", "unicode/utf8.acceptRanges", "internal/bytealg.MaxLen"], apart := false, laid := [("unicode/utf8.acceptRanges", laid_unicode_utf8_acceptRanges), ("unicode/utf8.first", laid_unicode_utf8_first)], narrowed := true }
def QuotesToldUptoSaid : Prop := quotesToldUptoRow.holds Tryz.pinned (OpenSpec.upto quotesToldSpec)

/-- 'rentlaw1.BookingsFree', WHERE WHAT IT READS IS OF BULK AT MOST 1048576: true; the input reads as it did. -/
def bookingsFreeUptoRow : OpenClaim := { program := "ytcggbojhalbkjaagreatdoor", sum := "0e3205556945673c737972b5db58fd1d8c4150369679d53b640f2e697f80084e", func := "forecourt/rentlaw1.BookingsFree", spec := "bookingsFree", inPlace := ["internal/bytealg.IndexByteString", "internal/bytealg.IndexString"], unfollowed := true, recurses := true, named := ["unicode/utf8.first", "unicode/utf8.acceptRanges", "internal/bytealg.MaxLen"], apart := false, laid := [("unicode/utf8.acceptRanges", laid_unicode_utf8_acceptRanges), ("unicode/utf8.first", laid_unicode_utf8_first)], narrowed := true }
def BookingsFreeUptoSaid : Prop := bookingsFreeUptoRow.holds Tryz.pinned (OpenSpec.upto bookingsFreeSpec)

/-- 'rentlaw1.FleetPlates', WHERE WHAT IT READS IS OF BULK AT MOST 1048576: true; the input reads as it did. -/
def fleetPlatesUptoRow : OpenClaim := { program := "ytcggbojhalbkjaagreatdoor", sum := "0e3205556945673c737972b5db58fd1d8c4150369679d53b640f2e697f80084e", func := "forecourt/rentlaw1.FleetPlates", spec := "fleetPlates", inPlace := ["internal/bytealg.abigen_runtime_cmpstring", "internal/bytealg.IndexByteString", "internal/bytealg.IndexString"], unfollowed := true, recurses := true, named := ["unicode/utf8.first", "unicode/utf8.acceptRanges", "internal/bytealg.MaxLen"], apart := false, laid := [("unicode/utf8.acceptRanges", laid_unicode_utf8_acceptRanges), ("unicode/utf8.first", laid_unicode_utf8_first)], narrowed := true }
def FleetPlatesUptoSaid : Prop := fleetPlatesUptoRow.holds Tryz.pinned (OpenSpec.upto fleetPlatesSpec)

end Rows
end Go.Proofs.YtcggbojhalbkjaaGreatDoor
