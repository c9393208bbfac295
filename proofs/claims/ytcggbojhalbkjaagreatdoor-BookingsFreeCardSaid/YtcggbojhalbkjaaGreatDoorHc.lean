/- The walks of word.Days, word.Time and hire.checkReading. -/
import Derived.Test.YtcggbojhalbkjaaGreatDoorWkey
namespace Go.Proofs.YtcggbojhalbkjaaGreatDoor
open Go.RowKit

def rdCells (r : Rd) : List Value := [.int .i64 r.at_, .string r.st, .int .i64 r.meter, .int .i64 r.fuel]
def lgEnc (g : Lg) : List Value := .string g.veh :: (rdCells g.out ++ rdCells g.inn)
theorem lg_len (g : Lg) : (lgEnc g).length = 9 := rfl
def RdOk (r : Rd) : Prop := r.st.size ≤ 1000000
def LgOk (g : Lg) : Prop := g.veh.size ≤ 1000000 ∧ RdOk g.out ∧ RdOk g.inn

theorem timeE_ok {a b : Int} (h : timeE a b = 0) : 0 ≤ a ∧ a < b ∧ b ≤ 5761439 ∧ daysV a b ≤ 120 := by
  unfold timeE at h
  split at h
  · cases h
  · rename_i h1
    unfold whenE at h
    by_cases h2 : 120 < daysV a b
    · simp [h2] at h
    · omega

set_option maxHeartbeats 400000 in
theorem days_any (a b : Int) (w : World) (h : a ≤ b) (h1 : -2000000000000000000 ≤ a) (h2 : b ≤ 2000000000000000000) :
    Calls Tryz.prog 128 #[.agg #[.int .i64 a, .int .i64 b]] w (GotE w (daysV a b)) := by
  go_enter Tryz.func128, Tryz.ntmps128
  go_wp2_with fail
  go_ret
  exact ⟨ret_int (by unfold daysV; omega), grow_alloc (World.grownBy.refl _ _) _⟩

set_option maxHeartbeats 400000 in
theorem time_any (a b : Int) (w : World) :
    Calls Tryz.prog 188 #[.agg #[.int .i64 a, .int .i64 b]] w (GotE w (timeE a b)) := by
  by_cases h : a < 0 ∨ b ≤ a ∨ 5761439 < b
  · have hE : timeE a b = 1 := by unfold timeE; rw [if_pos h]
    have HE := Lib.hid hE
    clear hE
    by_cases h1 : a < 0
    · clear h
      go_enter Tryz.func188, Tryz.ntmps188
      go_wp2_with fail
      go_ret
      exact ⟨ret_int HE.out.symm, grow_alloc (World.grownBy.refl _ _) _⟩
    · by_cases h2 : b ≤ a
      · clear h
        have d1 : decide (a < 0) = false := by simp; omega
        go_enter Tryz.func188, Tryz.ntmps188
        go_wp2_with fail
        go_ret
        exact ⟨ret_int HE.out.symm, grow_alloc (World.grownBy.refl _ _) _⟩
      · have h3 : 5761439 < b := by omega
        have d1 : decide (a < 0) = false := by simp; omega
        have d2 : decide (b ≤ a) = false := by simp; omega
        clear h
        go_enter Tryz.func188, Tryz.ntmps188
        go_wp2_with fail
        go_ret
        exact ⟨ret_int HE.out.symm, grow_alloc (World.grownBy.refl _ _) _⟩
  · have hE : timeE a b = whenE (decide (120 < daysV a b)) 2 := by unfold timeE; rw [if_neg h]
    have HE := Lib.hid hE
    clear hE
    have h1 : 0 ≤ a := by omega
    have h2 : a < b := by omega
    have h3 : b ≤ 5761439 := by omega
    have d1 : decide (a < 0) = false := by simp; omega
    have d2 : decide (b ≤ a) = false := by simp; omega
    have d3 : decide (5761439 < b) = false := by simp; omega
    clear h
    go_enter Tryz.func188, Tryz.ntmps188
    go_wp2_with fail
    refine (days_any _ _ _ (by omega) (by omega) (by omega)).mono ?_
    rintro e w1 ⟨rfl, hg1⟩
    obtain ⟨D, hD⟩ : ∃ D, D = daysV a b := ⟨_, rfl⟩
    rw [← hD] at HE ⊢
    clear hD
    go_wp2_with fail
    refine (when_any _ _ _).mono ?_
    rintro e w2 ⟨rfl, rfl⟩
    go_wp2_with fail
    go_ret
    exact ⟨ret_int HE.out.symm, grow_trans (grow_alloc (World.grownBy.refl _ _) _) hg1⟩

end Go.Proofs.YtcggbojhalbkjaaGreatDoor
