/- The walk of word.Window. -/
import Derived.Test.YtcggbojhalbkjaaDoorWa
namespace Go.Proofs.YtcggbojhalbkjaaDoor
open Go.RowKit

def windowE (a b : Int) : Int := whenE (!inB a 0 b || decide (5761440 < b)) 1

set_option maxHeartbeats 400000 in
theorem window_any (a b : Int) (w : World) :
    Calls Tryd.prog 66 #[.agg #[.int .i64 a, .int .i64 b]] w fun e w' => e = .returned (.int .i64 (windowE a b)) ∧ w.grownBy w' none := by
  go_enter Tryd.func66, Tryd.ntmps66
  go_wp2_with fail
  refine (in_any _ _ _ _).mono ?_
  rintro e w1 ⟨rfl, rfl⟩
  obtain ⟨x, hx⟩ : ∃ x, inB a 0 b = x := ⟨_, rfl⟩
  rw [hx]
  have Hx := Lib.hid hx; clear hx
  cases x
  all_goals
    go_wp2_with fail
    refine (when_any _ _ _).mono ?_
    rintro e w1 ⟨rfl, rfl⟩
    go_wp2_with fail
    go_ret
    exact ⟨by simp [windowE, Hx.out], grow_alloc (World.grownBy.refl _ _) _⟩

end Go.Proofs.YtcggbojhalbkjaaDoor
