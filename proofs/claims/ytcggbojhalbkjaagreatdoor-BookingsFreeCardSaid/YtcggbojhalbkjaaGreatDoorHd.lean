/- The walk of hire.checkLeg. -/
import Derived.Test.YtcggbojhalbkjaaGreatDoorHc
import Derived.Deep.RegionHeld3
namespace Go.Proofs.YtcggbojhalbkjaaGreatDoor
open Go.RowKit

theorem firstE_zero (x : Int) : firstE [0, x] = x := by
  simp only [firstE]; split <;> simp_all

theorem legE_stop1 {fr : Int} {p : Option Lg} {last : Bool} {g : Lg} {e : Int} (h : firstE [whenE (!keyB g.veh) 5, readingE g.out] = e) (hne : e ≠ 0) : legE fr p last g = e := by
  unfold legE
  simp only [firstE] at h ⊢
  split
  · rename_i h1
    rw [if_pos h1] at h
    split
    · rename_i h2
      rw [if_pos h2] at h
      exact absurd h.symm hne
    · rename_i h2
      rw [if_neg h2] at h
      exact h
  · rename_i h1
    rw [if_neg h1] at h
    exact h
theorem legE_pass1 {fr : Int} {p : Option Lg} {last : Bool} {g : Lg} (h : firstE [whenE (!keyB g.veh) 5, readingE g.out] = 0) : legE fr p last g = firstE [legPrevE fr p g, legInE last g] := by
  have := firstE_two h
  unfold legE
  rw [this.1, this.2]
  rfl

end Go.Proofs.YtcggbojhalbkjaaGreatDoor
