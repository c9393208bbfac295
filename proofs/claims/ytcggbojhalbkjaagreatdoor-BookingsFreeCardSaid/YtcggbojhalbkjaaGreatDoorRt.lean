/- The walks of the reference's TimeFault, readingFault, IsOpen. -/
import Derived.Test.YtcggbojhalbkjaaGreatDoorRk
import Derived.Test.YtcggbojhalbkjaaGreatDoorHd
namespace Go.Proofs.YtcggbojhalbkjaaGreatDoor
open Go.RowKit

set_option maxRecDepth 100000 in
set_option maxHeartbeats 1000000 in
theorem timeFault_any (a b : Int) (w : World) :
    Calls Tryz.prog 66 #[.agg #[.int .i64 a, .int .i64 b]] w (GotE w (timeE a b)) := by
  by_cases h : a < 0 ∨ b ≤ a ∨ 5761439 < b
  · have HE := Lib.hid (show timeE a b = 1 by unfold timeE; rw [if_pos h])
    by_cases h1 : a < 0
    · clear h
      go_enter Tryz.func66, Tryz.ntmps66
      go_wp2_with fail
      go_ret
      exact ⟨ret_int HE.out.symm, grow_alloc (World.grownBy.refl _ _) _⟩
    · by_cases h2 : b ≤ a
      · clear h
        have d1 : decide (a < 0) = false := by simp; omega
        go_enter Tryz.func66, Tryz.ntmps66
        go_wp2_with fail
        go_ret
        exact ⟨ret_int HE.out.symm, grow_alloc (World.grownBy.refl _ _) _⟩
      · have h3 : 5761439 < b := by omega
        have d1 : decide (a < 0) = false := by simp; omega
        have d2 : decide (b ≤ a) = false := by simp; omega
        clear h
        go_enter Tryz.func66, Tryz.ntmps66
        go_wp2_with fail
        go_ret
        exact ⟨ret_int HE.out.symm, grow_alloc (World.grownBy.refl _ _) _⟩
  · have hE : timeE a b = whenE (decide (120 < daysV a b)) 2 := by unfold timeE; rw [if_neg h]
    have h1 : 0 ≤ a := by omega
    have h2 : a < b := by omega
    have h3 : b ≤ 5761439 := by omega
    have d1 : decide (a < 0) = false := by simp; omega
    have d2 : decide (b ≤ a) = false := by simp; omega
    have d3 : decide (5761439 < b) = false := by simp; omega
    clear h
    by_cases h4 : 172800 < b - a
    · have HE := Lib.hid (show timeE a b = 2 by rw [hE, decide_eq_true (show 120 < daysV a b by unfold daysV; omega)]; rfl)
      clear hE
      go_enter Tryz.func66, Tryz.ntmps66
      go_wp2_with fail
      go_ret
      exact ⟨ret_int HE.out.symm, grow_alloc (World.grownBy.refl _ _) _⟩
    · have HE := Lib.hid (show timeE a b = 0 by rw [hE, decide_eq_false (show ¬ 120 < daysV a b by unfold daysV; omega)]; rfl)
      clear hE
      go_enter Tryz.func66, Tryz.ntmps66
      go_wp2_with fail
      go_ret
      exact ⟨ret_int HE.out.symm, grow_alloc (World.grownBy.refl _ _) _⟩

end Go.Proofs.YtcggbojhalbkjaaGreatDoor
