/-
  NARROWER THAN 'FOR EVERY INPUT', by the rows' own cells (each row's printed sentence says how): FleetPlates: laid · LogTimes: laid · TimesAdd: laid · LogReady: laid · LogMerges: laid · StatesMerge: laid · QuotesAdd: laid · LogStates: laid.
  DERIVED. THE GIVEN ROWS OF THIS SEAT. 8 by the template 'for every input the law returns true; each argument reads behind the call as it read before'; 0 by the template 'total and deterministic' (their statements: YtjecbkgjabnmoaaGreatDoorTotals.lean).
  GIVEN WITH THE SEED: the statements are not yours to turn. If you find one false, say at which input.
  Laid BY PROGRAM, IN A SANDBOX (cutbox-rows.mjs): the forced cells as the released guide's own fill.sh prints them over the translation de7277030e73c856… (all of the seat's roots in one cut). By AI agents, Wed Nov 11 2026. No macro, syntax, notation, axiom, sorry.
-/
import Derived.Test.YtjecbkgjabnmoaaGreatDoorChecked
import GoSem.PinnedTables
import GoSem.Claim
import GoSem.ClaimJoined
import GoSem.ClaimMapViews
import Derived.JoinedTies
import Derived.KernelRfl
namespace Go.Proofs.YtjecbkgjabnmoaaGreatDoor
/- THE CELL 'sum', in the pinned program and in every row, IS THE sha256 OF THE DUMP (.gsa) THAT YtjecbkgjabnmoaaGreatDoorProg.lean LOADS. Nothing in Lean hashes anything: it is a label: what it is worth is what the hold of that sum in a sandbox is worth. -/
noncomputable def Tryz.pinned : Pinned := { name := "ytjecbkgjabnmoaagreatdoor", sum := "de7277030e73c85676b660205b4625c9621a50d64ad684bd8fc0961d757b2dae", checked := Tryz.checked }
namespace Rows
def none {H : Type} : Left H := { results := [], args := [] }

/- WHAT THE LISTED PACKAGE-LEVEL VARIABLES READ AS WHEN THE CALL BEGINS. Each datum BY PROGRAM (the guide's laid-datum.mjs) off the statement by which the dump's own 'gosem.cut.vars' lays the variable. In a bare row this is a premise. The card (YtjecbkgjabnmoaaGreatDoorCards.lean) ties it to the program's text. -/
def laid_unicode_utf8_acceptRanges {H : Type} : DataW H := .agg [.agg [.lit (.int .u8 128), .lit (.int .u8 191)], .agg [.lit (.int .u8 160), .lit (.int .u8 191)], .agg [.lit (.int .u8 128), .lit (.int .u8 159)], .agg [.lit (.int .u8 144), .lit (.int .u8 191)], .agg [.lit (.int .u8 128), .lit (.int .u8 143)], .agg [.lit (.int .u8 0), .lit (.int .u8 0)], .agg [.lit (.int .u8 0), .lit (.int .u8 0)], .agg [.lit (.int .u8 0), .lit (.int .u8 0)], .agg [.lit (.int .u8 0), .lit (.int .u8 0)], .agg [.lit (.int .u8 0), .lit (.int .u8 0)], .agg [.lit (.int .u8 0), .lit (.int .u8 0)], .agg [.lit (.int .u8 0), .lit (.int .u8 0)], .agg [.lit (.int .u8 0), .lit (.int .u8 0)], .agg [.lit (.int .u8 0), .lit (.int .u8 0)], .agg [.lit (.int .u8 0), .lit (.int .u8 0)], .agg [.lit (.int .u8 0), .lit (.int .u8 0)]]
/-- One of Go's own tables, pinned by name: the form's constant. -/
def laid_unicode_utf8_first : DataW Unit := Go.Pinned.utf8First

/-- 'rentlaw1.FleetPlates': WHATEVER THE INPUT: true; the input reads as it did. -/
def fleetPlatesSpec : ChangeSpec := { name := "fleetPlates", fn := fun _ => fun
  | [d] => { results := [.lit (.bool true)], args := [d] }
  | _ => none }
def fleetPlatesRow : OpenClaim := { program := "ytjecbkgjabnmoaagreatdoor", sum := "de7277030e73c85676b660205b4625c9621a50d64ad684bd8fc0961d757b2dae", func := "forecourt/rentlaw1.FleetPlates", spec := "fleetPlates", inPlace := ["internal/bytealg.abigen_runtime_cmpstring", "internal/bytealg.IndexByteString", "internal/bytealg.IndexString"], unfollowed := true, recurses := true, named := ["unicode/utf8.first", "unicode/utf8.acceptRanges", "internal/bytealg.MaxLen"], apart := false, laid := [("unicode/utf8.acceptRanges", laid_unicode_utf8_acceptRanges), ("unicode/utf8.first", laid_unicode_utf8_first)] }
def FleetPlatesSaid : Prop := fleetPlatesRow.holds Tryz.pinned (OpenSpec.ofChange fleetPlatesSpec)

/-- ITS FALSE NEIGHBOUR: 'it returns false'. Refute it at one input. -/
def fleetPlatesWrong : ChangeSpec := { name := "fleetPlates", fn := fun _ => fun
  | [d] => { results := [.lit (.bool false)], args := [d] }
  | _ => none }
def FleetPlatesWrongFalsely : Prop := fleetPlatesRow.holds Tryz.pinned (OpenSpec.ofChange fleetPlatesWrong)

/-- 'rentlaw1.LogTimes': WHATEVER THE INPUT: true; the input reads as it did. -/
def logTimesSpec : ChangeSpec := { name := "logTimes", fn := fun _ => fun
  | [d] => { results := [.lit (.bool true)], args := [d] }
  | _ => none }
def logTimesRow : OpenClaim := { program := "ytjecbkgjabnmoaagreatdoor", sum := "de7277030e73c85676b660205b4625c9621a50d64ad684bd8fc0961d757b2dae", func := "forecourt/rentlaw1.LogTimes", spec := "logTimes", inPlace := ["internal/bytealg.abigen_runtime_cmpstring", "internal/bytealg.IndexByteString", "internal/bytealg.IndexString"], unfollowed := true, recurses := true, named := ["unicode/utf8.first", "unicode/utf8.acceptRanges", "internal/bytealg.MaxLen"], apart := false, laid := [("unicode/utf8.acceptRanges", laid_unicode_utf8_acceptRanges), ("unicode/utf8.first", laid_unicode_utf8_first)] }
def LogTimesSaid : Prop := logTimesRow.holds Tryz.pinned (OpenSpec.ofChange logTimesSpec)

/-- ITS FALSE NEIGHBOUR: 'it returns false'. Refute it at one input. -/
def logTimesWrong : ChangeSpec := { name := "logTimes", fn := fun _ => fun
  | [d] => { results := [.lit (.bool false)], args := [d] }
  | _ => none }
def LogTimesWrongFalsely : Prop := logTimesRow.holds Tryz.pinned (OpenSpec.ofChange logTimesWrong)

/-- 'rentkeep1.TimesAdd': WHATEVER THE INPUT: true; the input reads as it did. -/
def timesAddSpec : ChangeSpec := { name := "timesAdd", fn := fun _ => fun
  | [d] => { results := [.lit (.bool true)], args := [d] }
  | _ => none }
def timesAddRow : OpenClaim := { program := "ytjecbkgjabnmoaagreatdoor", sum := "de7277030e73c85676b660205b4625c9621a50d64ad684bd8fc0961d757b2dae", func := "forecourt/rentkeep1.TimesAdd", spec := "timesAdd", inPlace := ["internal/bytealg.abigen_runtime_cmpstring", "internal/bytealg.IndexByteString", "internal/bytealg.IndexString"], unfollowed := true, recurses := true, named := ["unicode/utf8.first", "unicode/utf8.acceptRanges", "internal/bytealg.MaxLen"], apart := false, laid := [("unicode/utf8.acceptRanges", laid_unicode_utf8_acceptRanges), ("unicode/utf8.first", laid_unicode_utf8_first)] }
def TimesAddSaid : Prop := timesAddRow.holds Tryz.pinned (OpenSpec.ofChange timesAddSpec)

/-- ITS FALSE NEIGHBOUR: 'it returns false'. Refute it at one input. -/
def timesAddWrong : ChangeSpec := { name := "timesAdd", fn := fun _ => fun
  | [d] => { results := [.lit (.bool false)], args := [d] }
  | _ => none }
def TimesAddWrongFalsely : Prop := timesAddRow.holds Tryz.pinned (OpenSpec.ofChange timesAddWrong)

/-- 'rentlaw1.LogReady': WHATEVER THE INPUT: true; the input reads as it did. -/
def logReadySpec : ChangeSpec := { name := "logReady", fn := fun _ => fun
  | [d] => { results := [.lit (.bool true)], args := [d] }
  | _ => none }
def logReadyRow : OpenClaim := { program := "ytjecbkgjabnmoaagreatdoor", sum := "de7277030e73c85676b660205b4625c9621a50d64ad684bd8fc0961d757b2dae", func := "forecourt/rentlaw1.LogReady", spec := "logReady", inPlace := ["internal/bytealg.abigen_runtime_cmpstring", "internal/bytealg.IndexByteString", "internal/bytealg.IndexString"], unfollowed := true, recurses := true, named := ["unicode/utf8.first", "unicode/utf8.acceptRanges", "internal/bytealg.MaxLen"], apart := false, laid := [("unicode/utf8.acceptRanges", laid_unicode_utf8_acceptRanges), ("unicode/utf8.first", laid_unicode_utf8_first)] }
def LogReadySaid : Prop := logReadyRow.holds Tryz.pinned (OpenSpec.ofChange logReadySpec)

/-- ITS FALSE NEIGHBOUR: 'it returns false'. Refute it at one input. -/
def logReadyWrong : ChangeSpec := { name := "logReady", fn := fun _ => fun
  | [d] => { results := [.lit (.bool false)], args := [d] }
  | _ => none }
def LogReadyWrongFalsely : Prop := logReadyRow.holds Tryz.pinned (OpenSpec.ofChange logReadyWrong)

/-- 'rentlaw1.LogMerges': WHATEVER THE INPUT: true; the input reads as it did. -/
def logMergesSpec : ChangeSpec := { name := "logMerges", fn := fun _ => fun
  | [d] => { results := [.lit (.bool true)], args := [d] }
  | _ => none }
def logMergesRow : OpenClaim := { program := "ytjecbkgjabnmoaagreatdoor", sum := "de7277030e73c85676b660205b4625c9621a50d64ad684bd8fc0961d757b2dae", func := "forecourt/rentlaw1.LogMerges", spec := "logMerges", inPlace := ["internal/bytealg.abigen_runtime_cmpstring", "internal/bytealg.IndexByteString", "internal/bytealg.IndexString"], unfollowed := true, recurses := true, named := ["unicode/utf8.first", "unicode/utf8.acceptRanges", "internal/bytealg.MaxLen"], apart := false, laid := [("unicode/utf8.acceptRanges", laid_unicode_utf8_acceptRanges), ("unicode/utf8.first", laid_unicode_utf8_first)] }
def LogMergesSaid : Prop := logMergesRow.holds Tryz.pinned (OpenSpec.ofChange logMergesSpec)

/-- ITS FALSE NEIGHBOUR: 'it returns false'. Refute it at one input. -/
def logMergesWrong : ChangeSpec := { name := "logMerges", fn := fun _ => fun
  | [d] => { results := [.lit (.bool false)], args := [d] }
  | _ => none }
def LogMergesWrongFalsely : Prop := logMergesRow.holds Tryz.pinned (OpenSpec.ofChange logMergesWrong)

/-- 'rentkeep1.StatesMerge': WHATEVER THE INPUT: true; the input reads as it did. -/
def statesMergeSpec : ChangeSpec := { name := "statesMerge", fn := fun _ => fun
  | [d] => { results := [.lit (.bool true)], args := [d] }
  | _ => none }
def statesMergeRow : OpenClaim := { program := "ytjecbkgjabnmoaagreatdoor", sum := "de7277030e73c85676b660205b4625c9621a50d64ad684bd8fc0961d757b2dae", func := "forecourt/rentkeep1.StatesMerge", spec := "statesMerge", inPlace := ["internal/bytealg.abigen_runtime_cmpstring", "internal/bytealg.IndexByteString", "internal/bytealg.IndexString"], unfollowed := true, recurses := true, named := ["unicode/utf8.first", "unicode/utf8.acceptRanges", "internal/bytealg.MaxLen"], apart := false, laid := [("unicode/utf8.acceptRanges", laid_unicode_utf8_acceptRanges), ("unicode/utf8.first", laid_unicode_utf8_first)] }
def StatesMergeSaid : Prop := statesMergeRow.holds Tryz.pinned (OpenSpec.ofChange statesMergeSpec)

/-- ITS FALSE NEIGHBOUR: 'it returns false'. Refute it at one input. -/
def statesMergeWrong : ChangeSpec := { name := "statesMerge", fn := fun _ => fun
  | [d] => { results := [.lit (.bool false)], args := [d] }
  | _ => none }
def StatesMergeWrongFalsely : Prop := statesMergeRow.holds Tryz.pinned (OpenSpec.ofChange statesMergeWrong)

/-- 'rentkeep1.QuotesAdd': WHATEVER THE INPUT: true; the input reads as it did. -/
def quotesAddSpec : ChangeSpec := { name := "quotesAdd", fn := fun _ => fun
  | [d] => { results := [.lit (.bool true)], args := [d] }
  | _ => none }
def quotesAddRow : OpenClaim := { program := "ytjecbkgjabnmoaagreatdoor", sum := "de7277030e73c85676b660205b4625c9621a50d64ad684bd8fc0961d757b2dae", func := "forecourt/rentkeep1.QuotesAdd", spec := "quotesAdd", inPlace := ["internal/bytealg.IndexByteString", "internal/bytealg.IndexString"], unfollowed := true, recurses := true, named := ["unicode/utf8.first", "unicode/utf8.acceptRanges", "internal/bytealg.MaxLen"], apart := false, laid := [("unicode/utf8.acceptRanges", laid_unicode_utf8_acceptRanges), ("unicode/utf8.first", laid_unicode_utf8_first)] }
def QuotesAddSaid : Prop := quotesAddRow.holds Tryz.pinned (OpenSpec.ofChange quotesAddSpec)

/-- ITS FALSE NEIGHBOUR: 'it returns false'. Refute it at one input. -/
def quotesAddWrong : ChangeSpec := { name := "quotesAdd", fn := fun _ => fun
  | [d] => { results := [.lit (.bool false)], args := [d] }
  | _ => none }
def QuotesAddWrongFalsely : Prop := quotesAddRow.holds Tryz.pinned (OpenSpec.ofChange quotesAddWrong)

/-- 'rentlaw1.LogStates': WHATEVER THE INPUT: true; the input reads as it did. -/
def logStatesSpec : ChangeSpec := { name := "logStates", fn := fun _ => fun
  | [d] => { results := [.lit (.bool true)], args := [d] }
  | _ => none }
def logStatesRow : OpenClaim := { program := "ytjecbkgjabnmoaagreatdoor", sum := "de7277030e73c85676b660205b4625c9621a50d64ad684bd8fc0961d757b2dae", func := "forecourt/rentlaw1.LogStates", spec := "logStates", inPlace := ["internal/bytealg.abigen_runtime_cmpstring", "internal/bytealg.IndexByteString", "internal/bytealg.IndexString"], unfollowed := true, recurses := true, named := ["unicode/utf8.first", "unicode/utf8.acceptRanges", "internal/bytealg.MaxLen"], apart := false, laid := [("unicode/utf8.acceptRanges", laid_unicode_utf8_acceptRanges), ("unicode/utf8.first", laid_unicode_utf8_first)] }
def LogStatesSaid : Prop := logStatesRow.holds Tryz.pinned (OpenSpec.ofChange logStatesSpec)

/-- ITS FALSE NEIGHBOUR: 'it returns false'. Refute it at one input. -/
def logStatesWrong : ChangeSpec := { name := "logStates", fn := fun _ => fun
  | [d] => { results := [.lit (.bool false)], args := [d] }
  | _ => none }
def LogStatesWrongFalsely : Prop := logStatesRow.holds Tryz.pinned (OpenSpec.ofChange logStatesWrong)

/- THE SECOND FORM. 'bulk': how many values and letters a reading holds, each counted each time it is reached (what is shared counts as often as it is met; a slice's spare places count too). A statement '..UptoSaid' is the law's where the arguments, and the package variables that the reading takes, are together of bulk at most 1048576: NARROWER than '..Said'. Prove '..Said' where nothing that the law and all that it calls make is longer than what came in: it says more and counts as full. Else prove '..UptoSaid'. A law counts once. -/
mutual
def uptoBulk {H : Type} : DataW H → Nat
  | .lit (.string bytes) => bytes.length + 1
  | .lit _ => 1
  | .nil => 1
  | .ptr d => uptoBulk d + 1
  | .slice elems spare => uptoBulkAll elems + uptoBulkAll spare + 1
  | .agg parts => uptoBulkAll parts + 1
  | .iface _ d => uptoBulk d + 1
  | .map entries => uptoBulkEntries entries + 1
  | .held _ => 1
def uptoBulkAll {H : Type} : List (DataW H) → Nat
  | [] => 0
  | d :: r => uptoBulk d + uptoBulkAll r
def uptoBulkEntries {H : Type} : List (Lit × DataW H) → Nat
  | [] => 0
  | x :: r => uptoBulkEntry x + uptoBulkEntries r
def uptoBulkEntry {H : Type} : Lit × DataW H → Nat
  | (.string bytes, d) => bytes.length + uptoBulk d + 1
  | (_, d) => uptoBulk d + 1
 end
def uptoSmall : (H : Type) → List (DataW H) → Bool := fun _ ds => decide (uptoBulkAll ds ≤ 1048576)
def OpenSpec.upto (s : _root_.Go.ChangeSpec) : _root_.Go.OpenSpec := { _root_.Go.OpenSpec.ofChange s with cond := some uptoSmall }

/-- 'rentlaw1.FleetPlates', WHERE WHAT IT READS IS OF BULK AT MOST 1048576: true; the input reads as it did. -/
def fleetPlatesUptoRow : OpenClaim := { program := "ytjecbkgjabnmoaagreatdoor", sum := "de7277030e73c85676b660205b4625c9621a50d64ad684bd8fc0961d757b2dae", func := "forecourt/rentlaw1.FleetPlates", spec := "fleetPlates", inPlace := ["internal/bytealg.abigen_runtime_cmpstring", "internal/bytealg.IndexByteString", "internal/bytealg.IndexString"], unfollowed := true, recurses := true, named := ["unicode/utf8.first", "unicode/utf8.acceptRanges", "internal/bytealg.MaxLen"], apart := false, laid := [("unicode/utf8.acceptRanges", laid_unicode_utf8_acceptRanges), ("unicode/utf8.first", laid_unicode_utf8_first)], narrowed := true }
def FleetPlatesUptoSaid : Prop := fleetPlatesUptoRow.holds Tryz.pinned (OpenSpec.upto fleetPlatesSpec)

/-- 'rentlaw1.LogTimes', WHERE WHAT IT READS IS OF BULK AT MOST 1048576: true; the input reads as it did. -/
def logTimesUptoRow : OpenClaim := { program := "ytjecbkgjabnmoaagreatdoor", sum := "de7277030e73c85676b660205b4625c9621a50d64ad684bd8fc0961d757b2dae", func := "forecourt/rentlaw1.LogTimes", spec := "logTimes", inPlace := ["internal/bytealg.abigen_runtime_cmpstring", "internal/bytealg.IndexByteString", "internal/bytealg.IndexString"], unfollowed := true, recurses := true, named := ["unicode/utf8.first", "unicode/utf8.acceptRanges", "internal/bytealg.MaxLen"], apart := false, laid := [("unicode/utf8.acceptRanges", laid_unicode_utf8_acceptRanges), ("unicode/utf8.first", laid_unicode_utf8_first)], narrowed := true }
def LogTimesUptoSaid : Prop := logTimesUptoRow.holds Tryz.pinned (OpenSpec.upto logTimesSpec)

/-- 'rentkeep1.TimesAdd', WHERE WHAT IT READS IS OF BULK AT MOST 1048576: true; the input reads as it did. -/
def timesAddUptoRow : OpenClaim := { program := "ytjecbkgjabnmoaagreatdoor", sum := "de7277030e73c85676b660205b4625c9621a50d64ad684bd8fc0961d757b2dae", func := "forecourt/rentkeep1.TimesAdd", spec := "timesAdd", inPlace := ["internal/bytealg.abigen_runtime_cmpstring", "internal/bytealg.IndexByteString", "internal/bytealg.IndexString"], unfollowed := true, recurses := true, named := ["unicode/utf8.first", "unicode/utf8.acceptRanges", "internal/bytealg.MaxLen"], apart := false, laid := [("unicode/utf8.acceptRanges", laid_unicode_utf8_acceptRanges), ("unicode/utf8.first", laid_unicode_utf8_first)], narrowed := true }
def TimesAddUptoSaid : Prop := timesAddUptoRow.holds Tryz.pinned (OpenSpec.upto timesAddSpec)

/-- 'rentlaw1.LogReady', WHERE WHAT IT READS IS OF BULK AT MOST 1048576: true; the input reads as it did. -/
def logReadyUptoRow : OpenClaim := { program := "ytjecbkgjabnmoaagreatdoor", sum := "de7277030e73c85676b660205b4625c9621a50d64ad684bd8fc0961d757b2dae", func := "forecourt/rentlaw1.LogReady", spec := "logReady", inPlace := ["internal/bytealg.abigen_runtime_cmpstring", "internal/bytealg.IndexByteString", "internal/bytealg.IndexString"], unfollowed := true, recurses := true, named := ["unicode/utf8.first", "unicode/utf8.acceptRanges", "internal/bytealg.MaxLen"], apart := false, laid := [("unicode/utf8.acceptRanges", laid_unicode_utf8_acceptRanges), ("unicode/utf8.first", laid_unicode_utf8_first)], narrowed := true }
def LogReadyUptoSaid : Prop := logReadyUptoRow.holds Tryz.pinned (OpenSpec.upto logReadySpec)

/-- 'rentlaw1.LogMerges', WHERE WHAT IT READS IS OF BULK AT MOST 1048576: true; the input reads as it did. -/
def logMergesUptoRow : OpenClaim := { program := "ytjecbkgjabnmoaagreatdoor", sum := "de7277030e73c85676b660205b4625c9621a50d64ad684bd8fc0961d757b2dae", func := "forecourt/rentlaw1.LogMerges", spec := "logMerges", inPlace := ["internal/bytealg.abigen_runtime_cmpstring", "internal/bytealg.IndexByteString", "internal/bytealg.IndexString"], unfollowed := true, recurses := true, named := ["unicode/utf8.first", "unicode/utf8.acceptRanges", "internal/bytealg.MaxLen"], apart := false, laid := [("unicode/utf8.acceptRanges", laid_unicode_utf8_acceptRanges), ("unicode/utf8.first", laid_unicode_utf8_first)], narrowed := true }
def LogMergesUptoSaid : Prop := logMergesUptoRow.holds Tryz.pinned (OpenSpec.upto logMergesSpec)

/-- 'rentkeep1.StatesMerge', WHERE WHAT IT READS IS OF BULK AT MOST 1048576: true; the input reads as it did. -/
def statesMergeUptoRow : OpenClaim := { program := "ytjecbkgjabnmoaagreatdoor", sum := "de7277030e73c85676b660205b4625c9621a50d64ad684bd8fc0961d757b2dae", func := "forecourt/rentkeep1.StatesMerge", spec := "statesMerge", inPlace := ["internal/bytealg.abigen_runtime_cmpstring", "internal/bytealg.IndexByteString", "internal/bytealg.IndexString"], unfollowed := true, recurses := true, named := ["unicode/utf8.first", "unicode/utf8.acceptRanges", "internal/bytealg.MaxLen"], apart := false, laid := [("unicode/utf8.acceptRanges", laid_unicode_utf8_acceptRanges), ("unicode/utf8.first", laid_unicode_utf8_first)], narrowed := true }
def StatesMergeUptoSaid : Prop := statesMergeUptoRow.holds Tryz.pinned (OpenSpec.upto statesMergeSpec)

/-- 'rentkeep1.QuotesAdd', WHERE WHAT IT READS IS OF BULK AT MOST 1048576: true; the input reads as it did. -/
def quotesAddUptoRow : OpenClaim := { program := "ytjecbkgjabnmoaagreatdoor", sum := "de7277030e73c85676b660205b4625c9621a50d64ad684bd8fc0961d757b2dae", func := "forecourt/rentkeep1.QuotesAdd", spec := "quotesAdd", inPlace := ["internal/bytealg.IndexByteString", "internal/bytealg.IndexString"], unfollowed := true, recurses := true, named := ["unicode/utf8.first", "unicode/utf8.acceptRanges", "internal/bytealg.MaxLen"], apart := false, laid := [("unicode/utf8.acceptRanges", laid_unicode_utf8_acceptRanges), ("unicode/utf8.first", laid_unicode_utf8_first)], narrowed := true }
def QuotesAddUptoSaid : Prop := quotesAddUptoRow.holds Tryz.pinned (OpenSpec.upto quotesAddSpec)

/-- 'rentlaw1.LogStates', WHERE WHAT IT READS IS OF BULK AT MOST 1048576: true; the input reads as it did. -/
def logStatesUptoRow : OpenClaim := { program := "ytjecbkgjabnmoaagreatdoor", sum := "de7277030e73c85676b660205b4625c9621a50d64ad684bd8fc0961d757b2dae", func := "forecourt/rentlaw1.LogStates", spec := "logStates", inPlace := ["internal/bytealg.abigen_runtime_cmpstring", "internal/bytealg.IndexByteString", "internal/bytealg.IndexString"], unfollowed := true, recurses := true, named := ["unicode/utf8.first", "unicode/utf8.acceptRanges", "internal/bytealg.MaxLen"], apart := false, laid := [("unicode/utf8.acceptRanges", laid_unicode_utf8_acceptRanges), ("unicode/utf8.first", laid_unicode_utf8_first)], narrowed := true }
def LogStatesUptoSaid : Prop := logStatesUptoRow.holds Tryz.pinned (OpenSpec.upto logStatesSpec)

end Rows
end Go.Proofs.YtjecbkgjabnmoaaGreatDoor
