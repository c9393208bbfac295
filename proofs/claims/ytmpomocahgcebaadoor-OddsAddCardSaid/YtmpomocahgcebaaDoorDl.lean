/- The walks of hire.CheckDeal and rentref1.DealFault. -/
import Derived.Test.YtmpomocahgcebaaDoorWa
namespace Go.Proofs.YtmpomocahgcebaaDoor
open Go.RowKit

structure Dl where
  free : Int
  km : Int
  eighth : Int
  grace : Int
  hour : Int
  day : Int
  deposit : Int
def dlInts (d : Dl) : List Int := [d.free, d.km, d.eighth, d.grace, d.hour, d.day, d.deposit]
def dlCells (d : Dl) : List Value := (dlInts d).map (Value.int .i64)
def dealB (d : Dl) : Bool := inB d.free 0 10000 && inB d.km 0 100000 && inB d.eighth 0 100000 && inB d.grace 0 1440 && inB d.hour 0 1000000 && inB d.day 0 1000000 && inB d.deposit 0 1000000
def dealE (d : Dl) : Int := whenE (!dealB d) 1

set_option maxRecDepth 100000 in
set_option maxHeartbeats 1000000 in
theorem checkDeal_any (d : Dl) (w : World) : Calls Tryd.prog 25 #[.agg (dlCells d).toArray] w (fun e w' => e = .returned (.int .i64 (dealE d)) ∧ w.grownBy w' none) := by
  obtain ⟨a, b, c, d, f, g, h⟩ := d
  obtain ⟨I0, h0⟩ : ∃ I, inB a 0 10000 = I := ⟨_, rfl⟩
  obtain ⟨I1, h1⟩ : ∃ I, inB b 0 100000 = I := ⟨_, rfl⟩
  obtain ⟨I2, h2⟩ : ∃ I, inB c 0 100000 = I := ⟨_, rfl⟩
  obtain ⟨I3, h3⟩ : ∃ I, inB d 0 1440 = I := ⟨_, rfl⟩
  obtain ⟨I4, h4⟩ : ∃ I, inB f 0 1000000 = I := ⟨_, rfl⟩
  obtain ⟨I5, h5⟩ : ∃ I, inB g 0 1000000 = I := ⟨_, rfl⟩
  obtain ⟨I6, h6⟩ : ∃ I, inB h 0 1000000 = I := ⟨_, rfl⟩
  have HE := Lib.hid (show dealE ⟨a, b, c, d, f, g, h⟩ = whenE (!(I0 && I1 && I2 && I3 && I4 && I5 && I6)) 1 by unfold dealE dealB; rw [h0, h1, h2, h3, h4, h5, h6])
  have c0 : ∀ w, Calls Tryd.prog 99 #[.int .i64 a, .int .i64 0, .int .i64 10000] w fun e w' => e = .returned (.bool I0) ∧ w' = w := fun w => by rw [← h0]; exact flipw (in_any _ _ _ _)
  have C0 := Lib.hid c0
  have c1 : ∀ w, Calls Tryd.prog 99 #[.int .i64 b, .int .i64 0, .int .i64 100000] w fun e w' => e = .returned (.bool I1) ∧ w' = w := fun w => by rw [← h1]; exact flipw (in_any _ _ _ _)
  have C1 := Lib.hid c1
  have c2 : ∀ w, Calls Tryd.prog 99 #[.int .i64 c, .int .i64 0, .int .i64 100000] w fun e w' => e = .returned (.bool I2) ∧ w' = w := fun w => by rw [← h2]; exact flipw (in_any _ _ _ _)
  have C2 := Lib.hid c2
  have c3 : ∀ w, Calls Tryd.prog 99 #[.int .i64 d, .int .i64 0, .int .i64 1440] w fun e w' => e = .returned (.bool I3) ∧ w' = w := fun w => by rw [← h3]; exact flipw (in_any _ _ _ _)
  have C3 := Lib.hid c3
  have c4 : ∀ w, Calls Tryd.prog 99 #[.int .i64 f, .int .i64 0, .int .i64 1000000] w fun e w' => e = .returned (.bool I4) ∧ w' = w := fun w => by rw [← h4]; exact flipw (in_any _ _ _ _)
  have C4 := Lib.hid c4
  have c5 : ∀ w, Calls Tryd.prog 99 #[.int .i64 g, .int .i64 0, .int .i64 1000000] w fun e w' => e = .returned (.bool I5) ∧ w' = w := fun w => by rw [← h5]; exact flipw (in_any _ _ _ _)
  have C5 := Lib.hid c5
  have c6 : ∀ w, Calls Tryd.prog 99 #[.int .i64 h, .int .i64 0, .int .i64 1000000] w fun e w' => e = .returned (.bool I6) ∧ w' = w := fun w => by rw [← h6]; exact flipw (in_any _ _ _ _)
  have C6 := Lib.hid c6
  clear c0 h0 c1 h1 c2 h2 c3 h3 c4 h4 c5 h5 c6 h6
  show Calls Tryd.prog 25 #[.agg #[.int .i64 a, .int .i64 b, .int .i64 c, .int .i64 d, .int .i64 f, .int .i64 g, .int .i64 h]] w _
  obtain ⟨R, hR⟩ : ∃ R, R = dealE ⟨a, b, c, d, f, g, h⟩ := ⟨_, rfl⟩
  rw [← hR] at HE ⊢
  clear hR
  cases I0
  · go_enter Tryd.func25, Tryd.ntmps25
    go_wp2_with fail
    refine (C0.out _).mono ?_
    rintro e w0 ⟨rfl, rfl⟩
    go_wp2_with fail
    refine (when_any _ _ _).mono ?_
    rintro e w9 ⟨rfl, rfl⟩
    go_wp2_with fail
    go_ret
    exact ⟨ret_int (by rw [HE.out]; rfl), grow_alloc (World.grownBy.refl _ _) _⟩
  cases I1
  · go_enter Tryd.func25, Tryd.ntmps25
    go_wp2_with fail
    refine (C0.out _).mono ?_
    rintro e w0 ⟨rfl, rfl⟩
    go_wp2_with fail
    refine (C1.out _).mono ?_
    rintro e w1 ⟨rfl, rfl⟩
    go_wp2_with fail
    refine (when_any _ _ _).mono ?_
    rintro e w9 ⟨rfl, rfl⟩
    go_wp2_with fail
    go_ret
    exact ⟨ret_int (by rw [HE.out]; rfl), grow_alloc (World.grownBy.refl _ _) _⟩
  cases I2
  · go_enter Tryd.func25, Tryd.ntmps25
    go_wp2_with fail
    refine (C0.out _).mono ?_
    rintro e w0 ⟨rfl, rfl⟩
    go_wp2_with fail
    refine (C1.out _).mono ?_
    rintro e w1 ⟨rfl, rfl⟩
    go_wp2_with fail
    refine (C2.out _).mono ?_
    rintro e w2 ⟨rfl, rfl⟩
    go_wp2_with fail
    refine (when_any _ _ _).mono ?_
    rintro e w9 ⟨rfl, rfl⟩
    go_wp2_with fail
    go_ret
    exact ⟨ret_int (by rw [HE.out]; rfl), grow_alloc (World.grownBy.refl _ _) _⟩
  cases I3
  · go_enter Tryd.func25, Tryd.ntmps25
    go_wp2_with fail
    refine (C0.out _).mono ?_
    rintro e w0 ⟨rfl, rfl⟩
    go_wp2_with fail
    refine (C1.out _).mono ?_
    rintro e w1 ⟨rfl, rfl⟩
    go_wp2_with fail
    refine (C2.out _).mono ?_
    rintro e w2 ⟨rfl, rfl⟩
    go_wp2_with fail
    refine (C3.out _).mono ?_
    rintro e w3 ⟨rfl, rfl⟩
    go_wp2_with fail
    refine (when_any _ _ _).mono ?_
    rintro e w9 ⟨rfl, rfl⟩
    go_wp2_with fail
    go_ret
    exact ⟨ret_int (by rw [HE.out]; rfl), grow_alloc (World.grownBy.refl _ _) _⟩
  cases I4
  · go_enter Tryd.func25, Tryd.ntmps25
    go_wp2_with fail
    refine (C0.out _).mono ?_
    rintro e w0 ⟨rfl, rfl⟩
    go_wp2_with fail
    refine (C1.out _).mono ?_
    rintro e w1 ⟨rfl, rfl⟩
    go_wp2_with fail
    refine (C2.out _).mono ?_
    rintro e w2 ⟨rfl, rfl⟩
    go_wp2_with fail
    refine (C3.out _).mono ?_
    rintro e w3 ⟨rfl, rfl⟩
    go_wp2_with fail
    refine (C4.out _).mono ?_
    rintro e w4 ⟨rfl, rfl⟩
    go_wp2_with fail
    refine (when_any _ _ _).mono ?_
    rintro e w9 ⟨rfl, rfl⟩
    go_wp2_with fail
    go_ret
    exact ⟨ret_int (by rw [HE.out]; rfl), grow_alloc (World.grownBy.refl _ _) _⟩
  cases I5
  · go_enter Tryd.func25, Tryd.ntmps25
    go_wp2_with fail
    refine (C0.out _).mono ?_
    rintro e w0 ⟨rfl, rfl⟩
    go_wp2_with fail
    refine (C1.out _).mono ?_
    rintro e w1 ⟨rfl, rfl⟩
    go_wp2_with fail
    refine (C2.out _).mono ?_
    rintro e w2 ⟨rfl, rfl⟩
    go_wp2_with fail
    refine (C3.out _).mono ?_
    rintro e w3 ⟨rfl, rfl⟩
    go_wp2_with fail
    refine (C4.out _).mono ?_
    rintro e w4 ⟨rfl, rfl⟩
    go_wp2_with fail
    refine (C5.out _).mono ?_
    rintro e w5 ⟨rfl, rfl⟩
    go_wp2_with fail
    refine (when_any _ _ _).mono ?_
    rintro e w9 ⟨rfl, rfl⟩
    go_wp2_with fail
    go_ret
    exact ⟨ret_int (by rw [HE.out]; rfl), grow_alloc (World.grownBy.refl _ _) _⟩
  cases I6
  · go_enter Tryd.func25, Tryd.ntmps25
    go_wp2_with fail
    refine (C0.out _).mono ?_
    rintro e w0 ⟨rfl, rfl⟩
    go_wp2_with fail
    refine (C1.out _).mono ?_
    rintro e w1 ⟨rfl, rfl⟩
    go_wp2_with fail
    refine (C2.out _).mono ?_
    rintro e w2 ⟨rfl, rfl⟩
    go_wp2_with fail
    refine (C3.out _).mono ?_
    rintro e w3 ⟨rfl, rfl⟩
    go_wp2_with fail
    refine (C4.out _).mono ?_
    rintro e w4 ⟨rfl, rfl⟩
    go_wp2_with fail
    refine (C5.out _).mono ?_
    rintro e w5 ⟨rfl, rfl⟩
    go_wp2_with fail
    refine (C6.out _).mono ?_
    rintro e w6 ⟨rfl, rfl⟩
    go_wp2_with fail
    refine (when_any _ _ _).mono ?_
    rintro e w9 ⟨rfl, rfl⟩
    go_wp2_with fail
    go_ret
    exact ⟨ret_int (by rw [HE.out]; rfl), grow_alloc (World.grownBy.refl _ _) _⟩
  go_enter Tryd.func25, Tryd.ntmps25
  go_wp2_with fail
  refine (C0.out _).mono ?_
  rintro e w0 ⟨rfl, rfl⟩
  go_wp2_with fail
  refine (C1.out _).mono ?_
  rintro e w1 ⟨rfl, rfl⟩
  go_wp2_with fail
  refine (C2.out _).mono ?_
  rintro e w2 ⟨rfl, rfl⟩
  go_wp2_with fail
  refine (C3.out _).mono ?_
  rintro e w3 ⟨rfl, rfl⟩
  go_wp2_with fail
  refine (C4.out _).mono ?_
  rintro e w4 ⟨rfl, rfl⟩
  go_wp2_with fail
  refine (C5.out _).mono ?_
  rintro e w5 ⟨rfl, rfl⟩
  go_wp2_with fail
  refine (C6.out _).mono ?_
  rintro e w6 ⟨rfl, rfl⟩
  go_wp2_with fail
  refine (when_any _ _ _).mono ?_
  rintro e w9 ⟨rfl, rfl⟩
  go_wp2_with fail
  go_ret
  exact ⟨ret_int (by rw [HE.out]; rfl), grow_alloc (World.grownBy.refl _ _) _⟩

set_option maxHeartbeats 400000 in
theorem rin_any (n lo hi : Int) (w : World) : Calls Tryd.prog 91 #[.int .i64 n, .int .i64 lo, .int .i64 hi] w fun e w' => e = .returned (.bool (inB n lo hi)) ∧ w = w' := by
  by_cases h1 : lo ≤ n <;> by_cases h2 : n ≤ hi
  all_goals
    have h3 : inB n lo hi = (decide (lo ≤ n) && decide (n ≤ hi)) := rfl
    have H3 := Lib.hid h3; clear h3
    go_enter Tryd.func91, Tryd.ntmps91
    go_wp2
    go_ret
    exact ⟨by rw [H3.out]; simp [h1, h2], rfl⟩

set_option maxRecDepth 100000 in
set_option maxHeartbeats 1000000 in
theorem dealFault_any (d : Dl) (w : World) : Calls Tryd.prog 102 #[.agg (dlCells d).toArray] w (fun e w' => e = .returned (.int .i64 (dealE d)) ∧ w.grownBy w' none) := by
  obtain ⟨a, b, c, d, f, g, h⟩ := d
  obtain ⟨I0, h0⟩ : ∃ I, inB a 0 10000 = I := ⟨_, rfl⟩
  obtain ⟨I1, h1⟩ : ∃ I, inB b 0 100000 = I := ⟨_, rfl⟩
  obtain ⟨I2, h2⟩ : ∃ I, inB c 0 100000 = I := ⟨_, rfl⟩
  obtain ⟨I3, h3⟩ : ∃ I, inB d 0 1440 = I := ⟨_, rfl⟩
  obtain ⟨I4, h4⟩ : ∃ I, inB f 0 1000000 = I := ⟨_, rfl⟩
  obtain ⟨I5, h5⟩ : ∃ I, inB g 0 1000000 = I := ⟨_, rfl⟩
  obtain ⟨I6, h6⟩ : ∃ I, inB h 0 1000000 = I := ⟨_, rfl⟩
  have HE := Lib.hid (show dealE ⟨a, b, c, d, f, g, h⟩ = whenE (!(I0 && I1 && I2 && I3 && I4 && I5 && I6)) 1 by unfold dealE dealB; rw [h0, h1, h2, h3, h4, h5, h6])
  have c0 : ∀ w, Calls Tryd.prog 91 #[.int .i64 a, .int .i64 0, .int .i64 10000] w fun e w' => e = .returned (.bool I0) ∧ w' = w := fun w => by rw [← h0]; exact flipw (rin_any _ _ _ _)
  have C0 := Lib.hid c0
  have c1 : ∀ w, Calls Tryd.prog 91 #[.int .i64 b, .int .i64 0, .int .i64 100000] w fun e w' => e = .returned (.bool I1) ∧ w' = w := fun w => by rw [← h1]; exact flipw (rin_any _ _ _ _)
  have C1 := Lib.hid c1
  have c2 : ∀ w, Calls Tryd.prog 91 #[.int .i64 c, .int .i64 0, .int .i64 100000] w fun e w' => e = .returned (.bool I2) ∧ w' = w := fun w => by rw [← h2]; exact flipw (rin_any _ _ _ _)
  have C2 := Lib.hid c2
  have c3 : ∀ w, Calls Tryd.prog 91 #[.int .i64 d, .int .i64 0, .int .i64 1440] w fun e w' => e = .returned (.bool I3) ∧ w' = w := fun w => by rw [← h3]; exact flipw (rin_any _ _ _ _)
  have C3 := Lib.hid c3
  have c4 : ∀ w, Calls Tryd.prog 91 #[.int .i64 f, .int .i64 0, .int .i64 1000000] w fun e w' => e = .returned (.bool I4) ∧ w' = w := fun w => by rw [← h4]; exact flipw (rin_any _ _ _ _)
  have C4 := Lib.hid c4
  have c5 : ∀ w, Calls Tryd.prog 91 #[.int .i64 g, .int .i64 0, .int .i64 1000000] w fun e w' => e = .returned (.bool I5) ∧ w' = w := fun w => by rw [← h5]; exact flipw (rin_any _ _ _ _)
  have C5 := Lib.hid c5
  have c6 : ∀ w, Calls Tryd.prog 91 #[.int .i64 h, .int .i64 0, .int .i64 1000000] w fun e w' => e = .returned (.bool I6) ∧ w' = w := fun w => by rw [← h6]; exact flipw (rin_any _ _ _ _)
  have C6 := Lib.hid c6
  clear c0 h0 c1 h1 c2 h2 c3 h3 c4 h4 c5 h5 c6 h6
  show Calls Tryd.prog 102 #[.agg #[.int .i64 a, .int .i64 b, .int .i64 c, .int .i64 d, .int .i64 f, .int .i64 g, .int .i64 h]] w _
  obtain ⟨R, hR⟩ : ∃ R, R = dealE ⟨a, b, c, d, f, g, h⟩ := ⟨_, rfl⟩
  rw [← hR] at HE ⊢
  clear hR
  cases I0
  · go_enter Tryd.func102, Tryd.ntmps102
    go_wp2_with fail
    refine (C0.out _).mono ?_
    rintro e w0 ⟨rfl, rfl⟩
    go_wp2_with fail
    go_ret
    exact ⟨ret_int (by rw [HE.out]; rfl), grow_alloc (World.grownBy.refl _ _) _⟩
  cases I1
  · go_enter Tryd.func102, Tryd.ntmps102
    go_wp2_with fail
    refine (C0.out _).mono ?_
    rintro e w0 ⟨rfl, rfl⟩
    go_wp2_with fail
    refine (C1.out _).mono ?_
    rintro e w1 ⟨rfl, rfl⟩
    go_wp2_with fail
    go_ret
    exact ⟨ret_int (by rw [HE.out]; rfl), grow_alloc (World.grownBy.refl _ _) _⟩
  cases I2
  · go_enter Tryd.func102, Tryd.ntmps102
    go_wp2_with fail
    refine (C0.out _).mono ?_
    rintro e w0 ⟨rfl, rfl⟩
    go_wp2_with fail
    refine (C1.out _).mono ?_
    rintro e w1 ⟨rfl, rfl⟩
    go_wp2_with fail
    refine (C2.out _).mono ?_
    rintro e w2 ⟨rfl, rfl⟩
    go_wp2_with fail
    go_ret
    exact ⟨ret_int (by rw [HE.out]; rfl), grow_alloc (World.grownBy.refl _ _) _⟩
  cases I3
  · go_enter Tryd.func102, Tryd.ntmps102
    go_wp2_with fail
    refine (C0.out _).mono ?_
    rintro e w0 ⟨rfl, rfl⟩
    go_wp2_with fail
    refine (C1.out _).mono ?_
    rintro e w1 ⟨rfl, rfl⟩
    go_wp2_with fail
    refine (C2.out _).mono ?_
    rintro e w2 ⟨rfl, rfl⟩
    go_wp2_with fail
    refine (C3.out _).mono ?_
    rintro e w3 ⟨rfl, rfl⟩
    go_wp2_with fail
    go_ret
    exact ⟨ret_int (by rw [HE.out]; rfl), grow_alloc (World.grownBy.refl _ _) _⟩
  cases I4
  · go_enter Tryd.func102, Tryd.ntmps102
    go_wp2_with fail
    refine (C0.out _).mono ?_
    rintro e w0 ⟨rfl, rfl⟩
    go_wp2_with fail
    refine (C1.out _).mono ?_
    rintro e w1 ⟨rfl, rfl⟩
    go_wp2_with fail
    refine (C2.out _).mono ?_
    rintro e w2 ⟨rfl, rfl⟩
    go_wp2_with fail
    refine (C3.out _).mono ?_
    rintro e w3 ⟨rfl, rfl⟩
    go_wp2_with fail
    refine (C4.out _).mono ?_
    rintro e w4 ⟨rfl, rfl⟩
    go_wp2_with fail
    go_ret
    exact ⟨ret_int (by rw [HE.out]; rfl), grow_alloc (World.grownBy.refl _ _) _⟩
  cases I5
  · go_enter Tryd.func102, Tryd.ntmps102
    go_wp2_with fail
    refine (C0.out _).mono ?_
    rintro e w0 ⟨rfl, rfl⟩
    go_wp2_with fail
    refine (C1.out _).mono ?_
    rintro e w1 ⟨rfl, rfl⟩
    go_wp2_with fail
    refine (C2.out _).mono ?_
    rintro e w2 ⟨rfl, rfl⟩
    go_wp2_with fail
    refine (C3.out _).mono ?_
    rintro e w3 ⟨rfl, rfl⟩
    go_wp2_with fail
    refine (C4.out _).mono ?_
    rintro e w4 ⟨rfl, rfl⟩
    go_wp2_with fail
    refine (C5.out _).mono ?_
    rintro e w5 ⟨rfl, rfl⟩
    go_wp2_with fail
    go_ret
    exact ⟨ret_int (by rw [HE.out]; rfl), grow_alloc (World.grownBy.refl _ _) _⟩
  cases I6
  · go_enter Tryd.func102, Tryd.ntmps102
    go_wp2_with fail
    refine (C0.out _).mono ?_
    rintro e w0 ⟨rfl, rfl⟩
    go_wp2_with fail
    refine (C1.out _).mono ?_
    rintro e w1 ⟨rfl, rfl⟩
    go_wp2_with fail
    refine (C2.out _).mono ?_
    rintro e w2 ⟨rfl, rfl⟩
    go_wp2_with fail
    refine (C3.out _).mono ?_
    rintro e w3 ⟨rfl, rfl⟩
    go_wp2_with fail
    refine (C4.out _).mono ?_
    rintro e w4 ⟨rfl, rfl⟩
    go_wp2_with fail
    refine (C5.out _).mono ?_
    rintro e w5 ⟨rfl, rfl⟩
    go_wp2_with fail
    refine (C6.out _).mono ?_
    rintro e w6 ⟨rfl, rfl⟩
    go_wp2_with fail
    go_ret
    exact ⟨ret_int (by rw [HE.out]; rfl), grow_alloc (World.grownBy.refl _ _) _⟩
  go_enter Tryd.func102, Tryd.ntmps102
  go_wp2_with fail
  refine (C0.out _).mono ?_
  rintro e w0 ⟨rfl, rfl⟩
  go_wp2_with fail
  refine (C1.out _).mono ?_
  rintro e w1 ⟨rfl, rfl⟩
  go_wp2_with fail
  refine (C2.out _).mono ?_
  rintro e w2 ⟨rfl, rfl⟩
  go_wp2_with fail
  refine (C3.out _).mono ?_
  rintro e w3 ⟨rfl, rfl⟩
  go_wp2_with fail
  refine (C4.out _).mono ?_
  rintro e w4 ⟨rfl, rfl⟩
  go_wp2_with fail
  refine (C5.out _).mono ?_
  rintro e w5 ⟨rfl, rfl⟩
  go_wp2_with fail
  refine (C6.out _).mono ?_
  rintro e w6 ⟨rfl, rfl⟩
  go_wp2_with fail
  go_ret
  exact ⟨ret_int (by rw [HE.out]; rfl), grow_alloc (World.grownBy.refl _ _) _⟩

end Go.Proofs.YtmpomocahgcebaaDoor
