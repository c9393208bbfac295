/- Two rows of four ints are equal, told by their parts. -/
import Derived.Test.YtljnekobfjpfaaaDoorRm
import Derived.ChangeKeysEq
namespace Go.Proofs.YtljnekobfjpfaaaDoor
open Go.RowKit

set_option maxRecDepth 100000 in
theorem four_same (a b c d : Int) (w : World) :
    (binOp .eql 114 (.agg #[.int .i64 a, .int .i64 b, .int .i64 c, .int .i64 d]) (.agg #[.int .i64 a, .int .i64 b, .int .i64 c, .int .i64 d])).run Tryd.prog w = .ok (.bool true) w := by
  have hu : Tryd.prog.underlying 114 = some (.array 4 3) := by kernel_rfl
  obtain ⟨i, hi⟩ : ∃ i, Tryd.prog.info? 3 = some i := by
    cases h : Tryd.prog.info? 3 with
    | none => exact absurd (show (Tryd.prog.info? 3).isSome = true by kernel_rfl) (by rw [h]; simp)
    | some i => exact ⟨i, rfl⟩
  have hc : Tryd.prog.cellsOf 3 = 1 := by kernel_rfl
  rw [run_eql_struct, show (10000 : Nat) = 9999 + 1 from rfl, run_equalIn_array w 9999 _ _ hu hi, hc]
  have u3 := Tryd.underlying3
  rw [show List.range 4 = [0, 1, 2, 3] from rfl]
  simp only [Op.eqItems]
  clear hu hi hc
  go_simp

end Go.Proofs.YtljnekobfjpfaaaDoor
