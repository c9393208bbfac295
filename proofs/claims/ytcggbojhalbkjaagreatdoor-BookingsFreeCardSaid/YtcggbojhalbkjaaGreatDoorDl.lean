/- The walks of hire.CheckDeal and rentref1.DealFault. -/
import Derived.Test.YtcggbojhalbkjaaGreatDoorWa
namespace Go.Proofs.YtcggbojhalbkjaaGreatDoor
open Go.RowKit

structure Dl where
  free : Int
  km : Int
  eighth : Int
  grace : Int
  hour : Int
  day : Int
  deposit : Int
def dlInts (d : Dl) : List Int := [d.free, d.km, d.eighth, d.grace, d.hour, d.day, d.deposit]
def dlCells (d : Dl) : List Value := (dlInts d).map (Value.int .i64)
def dealB (d : Dl) : Bool := inB d.free 0 10000 && inB d.km 0 100000 && inB d.eighth 0 100000 && inB d.grace 0 1440 && inB d.hour 0 1000000 && inB d.day 0 1000000 && inB d.deposit 0 1000000
def dealE (d : Dl) : Int := whenE (!dealB d) 1

set_option maxHeartbeats 400000 in
theorem rin_any (n lo hi : Int) (w : World) : Calls Tryz.prog 97 #[.int .i64 n, .int .i64 lo, .int .i64 hi] w fun e w' => e = .returned (.bool (inB n lo hi)) ∧ w = w' := by
  by_cases h1 : lo ≤ n <;> by_cases h2 : n ≤ hi
  all_goals
    have h3 : inB n lo hi = (decide (lo ≤ n) && decide (n ≤ hi)) := rfl
    have H3 := Lib.hid h3; clear h3
    go_enter Tryz.func97, Tryz.ntmps97
    go_wp2
    go_ret
    exact ⟨by rw [H3.out]; simp [h1, h2], rfl⟩

end Go.Proofs.YtcggbojhalbkjaaGreatDoor
