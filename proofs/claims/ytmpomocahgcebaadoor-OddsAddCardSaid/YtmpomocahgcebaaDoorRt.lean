/- The walks of the reference's TimeFault, readingFault, IsOpen. -/
import Derived.Test.YtmpomocahgcebaaDoorRk
import Derived.Test.YtmpomocahgcebaaDoorHd
namespace Go.Proofs.YtmpomocahgcebaaDoor
open Go.RowKit

set_option maxRecDepth 100000 in
set_option maxHeartbeats 1000000 in
theorem timeFault_any (a b : Int) (w : World) :
    Calls Tryd.prog 35 #[.agg #[.int .i64 a, .int .i64 b]] w (GotE w (timeE a b)) := by
  by_cases h : a < 0 ∨ b ≤ a ∨ 5761439 < b
  · have HE := Lib.hid (show timeE a b = 1 by unfold timeE; rw [if_pos h])
    by_cases h1 : a < 0
    · clear h
      go_enter Tryd.func35, Tryd.ntmps35
      go_wp2_with fail
      go_ret
      exact ⟨ret_int HE.out.symm, grow_alloc (World.grownBy.refl _ _) _⟩
    · by_cases h2 : b ≤ a
      · clear h
        have d1 : decide (a < 0) = false := by simp; omega
        go_enter Tryd.func35, Tryd.ntmps35
        go_wp2_with fail
        go_ret
        exact ⟨ret_int HE.out.symm, grow_alloc (World.grownBy.refl _ _) _⟩
      · have h3 : 5761439 < b := by omega
        have d1 : decide (a < 0) = false := by simp; omega
        have d2 : decide (b ≤ a) = false := by simp; omega
        clear h
        go_enter Tryd.func35, Tryd.ntmps35
        go_wp2_with fail
        go_ret
        exact ⟨ret_int HE.out.symm, grow_alloc (World.grownBy.refl _ _) _⟩
  · have hE : timeE a b = whenE (decide (120 < daysV a b)) 2 := by unfold timeE; rw [if_neg h]
    have h1 : 0 ≤ a := by omega
    have h2 : a < b := by omega
    have h3 : b ≤ 5761439 := by omega
    have d1 : decide (a < 0) = false := by simp; omega
    have d2 : decide (b ≤ a) = false := by simp; omega
    have d3 : decide (5761439 < b) = false := by simp; omega
    clear h
    by_cases h4 : 172800 < b - a
    · have HE := Lib.hid (show timeE a b = 2 by rw [hE, decide_eq_true (show 120 < daysV a b by unfold daysV; omega)]; rfl)
      clear hE
      go_enter Tryd.func35, Tryd.ntmps35
      go_wp2_with fail
      go_ret
      exact ⟨ret_int HE.out.symm, grow_alloc (World.grownBy.refl _ _) _⟩
    · have HE := Lib.hid (show timeE a b = 0 by rw [hE, decide_eq_false (show ¬ 120 < daysV a b by unfold daysV; omega)]; rfl)
      clear hE
      go_enter Tryd.func35, Tryd.ntmps35
      go_wp2_with fail
      go_ret
      exact ⟨ret_int HE.out.symm, grow_alloc (World.grownBy.refl _ _) _⟩

set_option maxRecDepth 100000 in
set_option maxHeartbeats 1000000 in
theorem readingFault_any (r : Rd) (w : World) (hok : RdOk r) :
    Calls Tryd.prog 185 #[.agg (rdCells r).toArray] w (GotE w (readingE r)) := by
  obtain ⟨at_, st, meter, fuel⟩ := r
  have hst : st.size ≤ 1000000 := hok
  obtain ⟨M, hM⟩ : ∃ M, inB at_ 0 5761439 = M := ⟨_, rfl⟩
  obtain ⟨K, hK⟩ : ∃ K, keyB st = K := ⟨_, rfl⟩
  obtain ⟨I, hI⟩ : ∃ I, inB meter 0 999999 = I := ⟨_, rfl⟩
  obtain ⟨J, hJ⟩ : ∃ J, inB fuel 0 8 = J := ⟨_, rfl⟩
  have HE := Lib.hid (show readingE ⟨at_, st, meter, fuel⟩ = firstE [whenE (!M) 1, whenE (!K) 5, whenE (!I || !J) 1] by rw [← hM, ← hK, ← hI, ← hJ]; rfl)
  have CM := Lib.hid (fun w => (by rw [← hM]; exact rmoment_any _ _ : Calls Tryd.prog 195 #[.int .i64 at_] w fun e w' => e = .returned (.bool M) ∧ w = w'))
  have CK := Lib.hid (fun w => (by rw [← hK]; exact key_any _ _ (by omega) : Calls Tryd.prog 90 #[.string st] w fun e w' => e = .returned (.bool K) ∧ w.grownBy w' none))
  have CI := Lib.hid (fun w => (by rw [← hI]; exact rin_any _ _ _ _ : Calls Tryd.prog 91 #[.int .i64 meter, .int .i64 0, .int .i64 999999] w fun e w' => e = .returned (.bool I) ∧ w = w'))
  have CJ := Lib.hid (fun w => (by rw [← hJ]; exact rin_any _ _ _ _ : Calls Tryd.prog 91 #[.int .i64 fuel, .int .i64 0, .int .i64 8] w fun e w' => e = .returned (.bool J) ∧ w = w'))
  clear hM hK hI hJ hok
  show Calls Tryd.prog 185 #[.agg #[.int .i64 at_, .string st, .int .i64 meter, .int .i64 fuel]] w _
  go_enter Tryd.func185, Tryd.ntmps185
  go_wp2_with fail
  refine (CM.out _).mono ?_
  rintro e w1 ⟨rfl, rfl⟩
  cases M
  · go_wp2_with fail
    go_ret
    exact ⟨ret_int (by rw [HE.out]; rfl), grow_alloc (World.grownBy.refl _ _) _⟩
  · go_wp2_with fail
    refine (CK.out _).mono ?_
    rintro e w1 ⟨rfl, hg1⟩
    cases K
    · go_wp2_with fail
      go_ret
      exact ⟨ret_int (by rw [HE.out]; rfl), grow_trans (grow_alloc (World.grownBy.refl _ _) _) hg1⟩
    · have hb := (Blk.at_ w rfl 98 [.int .i64 at_, .string st, .int .i64 meter, .int .i64 fuel]).grown hg1 (by simp)
      have c2 := hb.cell_of (i := 2) (v := .int .i64 meter) rfl
      have c3 := hb.cell_of (i := 3) (v := .int .i64 fuel) rfl
      go_wp2_with fail
      refine (CI.out _).mono ?_
      rintro e w2 ⟨rfl, rfl⟩
      cases I
      · go_wp2_with fail
        go_ret
        exact ⟨ret_int (by rw [HE.out]; rfl), grow_trans (grow_alloc (World.grownBy.refl _ _) _) hg1⟩
      · go_wp2_with fail
        refine (CJ.out _).mono ?_
        rintro e w2 ⟨rfl, rfl⟩
        cases J
        all_goals
          go_wp2_with fail
          go_ret
          exact ⟨ret_int (by rw [HE.out]; rfl), grow_trans (grow_alloc (World.grownBy.refl _ _) _) hg1⟩

end Go.Proofs.YtmpomocahgcebaaDoor
