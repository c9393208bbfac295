/- The walks of word.Days, word.Time and hire.checkReading. -/
import Derived.Test.YtcggbojhalbkjaaWkey
namespace Go.Proofs.Ytcggbojhalbkjaa
open Go.RowKit

def rdCells (r : Rd) : List Value := [.int .i64 r.at_, .string r.st, .int .i64 r.meter, .int .i64 r.fuel]
def lgEnc (g : Lg) : List Value := .string g.veh :: (rdCells g.out ++ rdCells g.inn)
theorem lg_len (g : Lg) : (lgEnc g).length = 9 := rfl
def RdOk (r : Rd) : Prop := r.st.size ≤ 1000000
def LgOk (g : Lg) : Prop := g.veh.size ≤ 1000000 ∧ RdOk g.out ∧ RdOk g.inn

theorem timeE_ok {a b : Int} (h : timeE a b = 0) : 0 ≤ a ∧ a < b ∧ b ≤ 5761439 ∧ daysV a b ≤ 120 := by
  unfold timeE at h
  split at h
  · cases h
  · rename_i h1
    unfold whenE at h
    by_cases h2 : 120 < daysV a b
    · simp [h2] at h
    · omega

set_option maxHeartbeats 400000 in
theorem days_any (a b : Int) (w : World) (h : a ≤ b) (h1 : -2000000000000000000 ≤ a) (h2 : b ≤ 2000000000000000000) :
    Calls Try.prog 33 #[.agg #[.int .i64 a, .int .i64 b]] w (GotE w (daysV a b)) := by
  go_enter Try.func33, Try.ntmps33
  go_wp2_with fail
  go_ret
  exact ⟨ret_int (by unfold daysV; omega), grow_alloc (World.grownBy.refl _ _) _⟩

set_option maxHeartbeats 400000 in
theorem time_any (a b : Int) (w : World) :
    Calls Try.prog 32 #[.agg #[.int .i64 a, .int .i64 b]] w (GotE w (timeE a b)) := by
  by_cases h : a < 0 ∨ b ≤ a ∨ 5761439 < b
  · have hE : timeE a b = 1 := by unfold timeE; rw [if_pos h]
    have HE := Lib.hid hE
    clear hE
    by_cases h1 : a < 0
    · clear h
      go_enter Try.func32, Try.ntmps32
      go_wp2_with fail
      go_ret
      exact ⟨ret_int HE.out.symm, grow_alloc (World.grownBy.refl _ _) _⟩
    · by_cases h2 : b ≤ a
      · clear h
        have d1 : decide (a < 0) = false := by simp; omega
        go_enter Try.func32, Try.ntmps32
        go_wp2_with fail
        go_ret
        exact ⟨ret_int HE.out.symm, grow_alloc (World.grownBy.refl _ _) _⟩
      · have h3 : 5761439 < b := by omega
        have d1 : decide (a < 0) = false := by simp; omega
        have d2 : decide (b ≤ a) = false := by simp; omega
        clear h
        go_enter Try.func32, Try.ntmps32
        go_wp2_with fail
        go_ret
        exact ⟨ret_int HE.out.symm, grow_alloc (World.grownBy.refl _ _) _⟩
  · have hE : timeE a b = whenE (decide (120 < daysV a b)) 2 := by unfold timeE; rw [if_neg h]
    have HE := Lib.hid hE
    clear hE
    have h1 : 0 ≤ a := by omega
    have h2 : a < b := by omega
    have h3 : b ≤ 5761439 := by omega
    have d1 : decide (a < 0) = false := by simp; omega
    have d2 : decide (b ≤ a) = false := by simp; omega
    have d3 : decide (5761439 < b) = false := by simp; omega
    clear h
    go_enter Try.func32, Try.ntmps32
    go_wp2_with fail
    refine (days_any _ _ _ (by omega) (by omega) (by omega)).mono ?_
    rintro e w1 ⟨rfl, hg1⟩
    obtain ⟨D, hD⟩ : ∃ D, D = daysV a b := ⟨_, rfl⟩
    rw [← hD] at HE ⊢
    clear hD
    go_wp2_with fail
    refine (when_any _ _ _).mono ?_
    rintro e w2 ⟨rfl, rfl⟩
    go_wp2_with fail
    go_ret
    exact ⟨ret_int HE.out.symm, grow_trans (grow_alloc (World.grownBy.refl _ _) _) hg1⟩

set_option maxRecDepth 100000 in
set_option maxHeartbeats 1000000 in
theorem checkReading_any (r : Rd) (w : World) (hok : RdOk r) :
    Calls Try.prog 60 #[.agg (rdCells r).toArray] w (GotE w (readingE r)) := by
  obtain ⟨at_, st, meter, fuel⟩ := r
  have hst : st.size ≤ 1000000 := hok
  obtain ⟨M, hM⟩ : ∃ M, M = momentE at_ := ⟨_, rfl⟩
  obtain ⟨K, hK⟩ : ∃ K, K = keyB st := ⟨_, rfl⟩
  obtain ⟨I, hI⟩ : ∃ I, I = inB meter 0 999999 := ⟨_, rfl⟩
  obtain ⟨J, hJ⟩ : ∃ J, J = inB fuel 0 8 := ⟨_, rfl⟩
  have hE : readingE ⟨at_, st, meter, fuel⟩ = firstE [M, whenE (!K) 5, whenE (!I || !J) 1] := by rw [hM, hK, hI, hJ]; rfl
  have HE := Lib.hid hE
  have cM : ∀ w, Calls Try.prog 42 #[.int .i64 at_] w fun e w' => e = .returned (.int .i64 M) ∧ w' = w := fun w => by rw [hM]; exact flipw (moment_any _ _)
  have cK : ∀ w, Calls Try.prog 31 #[.string st] w fun e w' => e = .returned (.bool K) ∧ w' = w := fun w => by rw [hK]; exact flipw (isKey_any _ _ (by omega))
  have cI : ∀ w, Calls Try.prog 20 #[.int .i64 meter, .int .i64 0, .int .i64 999999] w fun e w' => e = .returned (.bool I) ∧ w' = w := fun w => by rw [hI]; exact flipw (in_any _ _ _ _)
  have cJ : ∀ w, Calls Try.prog 20 #[.int .i64 fuel, .int .i64 0, .int .i64 8] w fun e w' => e = .returned (.bool J) ∧ w' = w := fun w => by rw [hJ]; exact flipw (in_any _ _ _ _)
  have CM := Lib.hid cM
  have CK := Lib.hid cK
  have CI := Lib.hid cI
  have CJ := Lib.hid cJ
  clear hM hK hI hJ hE cM cK cI cJ hok
  show Calls Try.prog 60 #[.agg #[.int .i64 at_, .string st, .int .i64 meter, .int .i64 fuel]] w _
  cases I
  · go_enter Try.func60, Try.ntmps60
    go_wp2_with fail
    refine wp_region_still_tail 19 (by kernel_rfl) (by kernel_rfl) ?_
    change wpStill _ _ (World.drew _) _ _ _
    simp only [List.take_succ_cons, List.take_zero, List.drop_succ_cons, List.drop_zero]
    repeat still_step
    still_call (CM.out _)
    repeat still_step
    still_call (CK.out _)
    repeat still_step
    still_call (flipw (when_any _ _ _))
    repeat still_step
    still_call (CI.out _)
    repeat still_step
    still_call (flipw (when_any _ _ _))
    refine wpStill_nil ?_
    change wpList _ _ _ _ _ (World.drew _)
    go_wp2_with fail
    refine (first_any [M, whenE (!K) 5, whenE (true) 1] _ _ _ _ ((Blk.at_ (w.alloc _) (by simp) _ _).drew) (by simp)).mono ?_
    rintro e w1 ⟨rfl, rfl⟩
    go_wp2_with fail
    go_ret
    exact ⟨ret_int HE.out.symm, grow_drew (grow_alloc (grow_alloc (World.grownBy.refl _ _) _) _)⟩
  · go_enter Try.func60, Try.ntmps60
    go_wp2_with fail
    refine wp_region_still_tail 19 (by kernel_rfl) (by kernel_rfl) ?_
    change wpStill _ _ (World.drew _) _ _ _
    simp only [List.take_succ_cons, List.take_zero, List.drop_succ_cons, List.drop_zero]
    repeat still_step
    still_call (CM.out _)
    repeat still_step
    still_call (CK.out _)
    repeat still_step
    still_call (flipw (when_any _ _ _))
    repeat still_step
    still_call (CI.out _)
    repeat still_step
    still_call (CJ.out _)
    repeat still_step
    still_call (flipw (when_any _ _ _))
    refine wpStill_nil ?_
    change wpList _ _ _ _ _ (World.drew _)
    go_wp2_with fail
    refine (first_any [M, whenE (!K) 5, whenE (!J) 1] _ _ _ _ ((Blk.at_ (w.alloc _) (by simp) _ _).drew) (by simp)).mono ?_
    rintro e w1 ⟨rfl, rfl⟩
    go_wp2_with fail
    go_ret
    exact ⟨ret_int HE.out.symm, grow_drew (grow_alloc (grow_alloc (World.grownBy.refl _ _) _) _)⟩

end Go.Proofs.Ytcggbojhalbkjaa
