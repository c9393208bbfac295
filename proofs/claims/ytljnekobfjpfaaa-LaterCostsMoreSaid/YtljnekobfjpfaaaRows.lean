/-
  No cell of these rows narrows 'for every input' (looked for: loops, veiled, ifaces, maps, wideKeys, modest, calm, conditions, laid).
  DERIVED. THE GIVEN ROWS OF THIS SEAT. 3 by the template 'for every input the law returns true; each argument reads behind the call as it read before'; 0 by the template 'total and deterministic' (their statements: YtljnekobfjpfaaaTotals.lean).
  GIVEN WITH THE SEED: the statements are not yours to turn. If you find one false, say at which input.
  Laid BY PROGRAM, IN A SANDBOX (cutbox-rows.mjs): the forced cells as the released guide's own fill.sh prints them over the translation 4608e9fee73048cf… (all of the seat's roots in one cut). By AI agents, Wed Nov 11 2026. No macro, syntax, notation, axiom, sorry.
-/
import Derived.Test.YtljnekobfjpfaaaChecked
import GoSem.Claim
import GoSem.ClaimJoined
import GoSem.ClaimMapViews
import Derived.JoinedTies
import Derived.KernelRfl
namespace Go.Proofs.Ytljnekobfjpfaaa
/- THE CELL 'sum', in the pinned program and in every row, IS THE sha256 OF THE DUMP (.gsa) THAT YtljnekobfjpfaaaProg.lean LOADS. Nothing in Lean hashes anything: it is a label: what it is worth is what the hold of that sum in a sandbox is worth. -/
noncomputable def Try.pinned : Pinned := { name := "ytljnekobfjpfaaa", sum := "4608e9fee73048cf5ec63cfda8ebeb43d8afc48cef3d41561f413a4c370eb1c4", checked := Try.checked }
namespace Rows
def none {H : Type} : Left H := { results := [], args := [] }

/-- 'rentkeep1.HoursAdd': WHATEVER THE INPUT: true; the input reads as it did. -/
def hoursAddSpec : ChangeSpec := { name := "hoursAdd", fn := fun _ => fun
  | [d] => { results := [.lit (.bool true)], args := [d] }
  | _ => none }
def hoursAddRow : OpenClaim := { program := "ytljnekobfjpfaaa", sum := "4608e9fee73048cf5ec63cfda8ebeb43d8afc48cef3d41561f413a4c370eb1c4", func := "forecourt/rentkeep1.HoursAdd", spec := "hoursAdd", apart := false }
def HoursAddSaid : Prop := hoursAddRow.holds Try.pinned (OpenSpec.ofChange hoursAddSpec)

/-- ITS FALSE NEIGHBOUR: 'it returns false'. Refute it at one input. -/
def hoursAddWrong : ChangeSpec := { name := "hoursAdd", fn := fun _ => fun
  | [d] => { results := [.lit (.bool false)], args := [d] }
  | _ => none }
def HoursAddWrongFalsely : Prop := hoursAddRow.holds Try.pinned (OpenSpec.ofChange hoursAddWrong)

/-- 'rentkeep1.LaterCostsMore': WHATEVER THE INPUT: true; the input reads as it did. -/
def laterCostsMoreSpec : ChangeSpec := { name := "laterCostsMore", fn := fun _ => fun
  | [d] => { results := [.lit (.bool true)], args := [d] }
  | _ => none }
def laterCostsMoreRow : OpenClaim := { program := "ytljnekobfjpfaaa", sum := "4608e9fee73048cf5ec63cfda8ebeb43d8afc48cef3d41561f413a4c370eb1c4", func := "forecourt/rentkeep1.LaterCostsMore", spec := "laterCostsMore", unfollowed := true, recurses := true, apart := false }
def LaterCostsMoreSaid : Prop := laterCostsMoreRow.holds Try.pinned (OpenSpec.ofChange laterCostsMoreSpec)

/-- ITS FALSE NEIGHBOUR: 'it returns false'. Refute it at one input. -/
def laterCostsMoreWrong : ChangeSpec := { name := "laterCostsMore", fn := fun _ => fun
  | [d] => { results := [.lit (.bool false)], args := [d] }
  | _ => none }
def LaterCostsMoreWrongFalsely : Prop := laterCostsMoreRow.holds Try.pinned (OpenSpec.ofChange laterCostsMoreWrong)

/-- 'rentkeep1.LongerCostsMore': WHATEVER THE INPUT: true; the input reads as it did. -/
def longerCostsMoreSpec : ChangeSpec := { name := "longerCostsMore", fn := fun _ => fun
  | [d] => { results := [.lit (.bool true)], args := [d] }
  | _ => none }
def longerCostsMoreRow : OpenClaim := { program := "ytljnekobfjpfaaa", sum := "4608e9fee73048cf5ec63cfda8ebeb43d8afc48cef3d41561f413a4c370eb1c4", func := "forecourt/rentkeep1.LongerCostsMore", spec := "longerCostsMore", unfollowed := true, recurses := true, apart := false }
def LongerCostsMoreSaid : Prop := longerCostsMoreRow.holds Try.pinned (OpenSpec.ofChange longerCostsMoreSpec)

/-- ITS FALSE NEIGHBOUR: 'it returns false'. Refute it at one input. -/
def longerCostsMoreWrong : ChangeSpec := { name := "longerCostsMore", fn := fun _ => fun
  | [d] => { results := [.lit (.bool false)], args := [d] }
  | _ => none }
def LongerCostsMoreWrongFalsely : Prop := longerCostsMoreRow.holds Try.pinned (OpenSpec.ofChange longerCostsMoreWrong)

/- THE SECOND FORM. 'bulk': how many values and letters a reading holds, each counted each time it is reached (what is shared counts as often as it is met; a slice's spare places count too). A statement '..UptoSaid' is the law's where the arguments, and the package variables that the reading takes, are together of bulk at most 1048576: NARROWER than '..Said'. Prove '..Said' where nothing that the law and all that it calls make is longer than what came in: it says more and counts as full. Else prove '..UptoSaid'. A law counts once. -/
mutual
def uptoBulk {H : Type} : DataW H → Nat
  | .lit (.string bytes) => bytes.length + 1
  | .lit _ => 1
  | .nil => 1
  | .ptr d => uptoBulk d + 1
  | .slice elems spare => uptoBulkAll elems + uptoBulkAll spare + 1
  | .agg parts => uptoBulkAll parts + 1
  | .iface _ d => uptoBulk d + 1
  | .map entries => uptoBulkEntries entries + 1
  | .held _ => 1
def uptoBulkAll {H : Type} : List (DataW H) → Nat
  | [] => 0
  | d :: r => uptoBulk d + uptoBulkAll r
def uptoBulkEntries {H : Type} : List (Lit × DataW H) → Nat
  | [] => 0
  | x :: r => uptoBulkEntry x + uptoBulkEntries r
def uptoBulkEntry {H : Type} : Lit × DataW H → Nat
  | (.string bytes, d) => bytes.length + uptoBulk d + 1
  | (_, d) => uptoBulk d + 1
 end
def uptoSmall : (H : Type) → List (DataW H) → Bool := fun _ ds => decide (uptoBulkAll ds ≤ 1048576)
def OpenSpec.upto (s : _root_.Go.ChangeSpec) : _root_.Go.OpenSpec := { _root_.Go.OpenSpec.ofChange s with cond := some uptoSmall }

/-- 'rentkeep1.HoursAdd', WHERE WHAT IT READS IS OF BULK AT MOST 1048576: true; the input reads as it did. -/
def hoursAddUptoRow : OpenClaim := { program := "ytljnekobfjpfaaa", sum := "4608e9fee73048cf5ec63cfda8ebeb43d8afc48cef3d41561f413a4c370eb1c4", func := "forecourt/rentkeep1.HoursAdd", spec := "hoursAdd", apart := false, narrowed := true }
def HoursAddUptoSaid : Prop := hoursAddUptoRow.holds Try.pinned (OpenSpec.upto hoursAddSpec)

/-- 'rentkeep1.LaterCostsMore', WHERE WHAT IT READS IS OF BULK AT MOST 1048576: true; the input reads as it did. -/
def laterCostsMoreUptoRow : OpenClaim := { program := "ytljnekobfjpfaaa", sum := "4608e9fee73048cf5ec63cfda8ebeb43d8afc48cef3d41561f413a4c370eb1c4", func := "forecourt/rentkeep1.LaterCostsMore", spec := "laterCostsMore", unfollowed := true, recurses := true, apart := false, narrowed := true }
def LaterCostsMoreUptoSaid : Prop := laterCostsMoreUptoRow.holds Try.pinned (OpenSpec.upto laterCostsMoreSpec)

/-- 'rentkeep1.LongerCostsMore', WHERE WHAT IT READS IS OF BULK AT MOST 1048576: true; the input reads as it did. -/
def longerCostsMoreUptoRow : OpenClaim := { program := "ytljnekobfjpfaaa", sum := "4608e9fee73048cf5ec63cfda8ebeb43d8afc48cef3d41561f413a4c370eb1c4", func := "forecourt/rentkeep1.LongerCostsMore", spec := "longerCostsMore", unfollowed := true, recurses := true, apart := false, narrowed := true }
def LongerCostsMoreUptoSaid : Prop := longerCostsMoreUptoRow.holds Try.pinned (OpenSpec.upto longerCostsMoreSpec)

end Rows
end Go.Proofs.Ytljnekobfjpfaaa
