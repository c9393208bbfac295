/- The walk of rentkeep1.ready. -/
import Derived.Test.YtcggbojhalbkjaaHf
import Derived.Test.YtcggbojhalbkjaaBq
import Derived.Test.YtcggbojhalbkjaaTd
import Derived.Test.YtcggbojhalbkjaaLopA
namespace Go.Proofs.Ytcggbojhalbkjaa
open Go.RowKit

theorem ready_open : isOpenV ⟨⟨#[115]⟩, [0, 9, 0, 0, 0, 0, 0, 0, 0, 0, 0, 0, 0, 0]⟩ 8 = true ∧ isOpenE ⟨⟨#[115]⟩, [0, 9, 0, 0, 0, 0, 0, 0, 0, 0, 0, 0, 0, 0]⟩ 8 = 0 := ⟨by kernel_rfl, by kernel_rfl⟩
theorem ready_days : (if timeE 0 1441 = 0 then daysV 0 1441 else 0) = 2 ∧ timeE 0 1441 = 0 := ⟨by decide +kernel, by decide +kernel⟩
theorem ready_hire : hireE ⟨⟨#[104]⟩, ⟨#[100]⟩, 5, 9, [startLeg ⟨#[118]⟩ ⟨5, ⟨#[115]⟩, 0, 0⟩]⟩ = 0 := by kernel_rfl

set_option maxRecDepth 100000 in
set_option maxHeartbeats 1000000 in
theorem ready_any (w : World) : Calls Try.prog 13 #[] w (fun e w' => e = .returned (.bool true) ∧ w.grownBy w' none) := by
  have cD : ∀ w, Calls Try.prog 22 #[.agg #[.int .i64 0, .int .i64 1441]] w (fun e w' => e = .returned (.tuple #[.int .i64 2, .int .i64 0]) ∧ w.grownBy w' none) := fun w => by
    have h := tdays_any 0 1441 w
    rw [ready_days.1, ready_days.2] at h
    exact h
  have cO : ∀ w, Calls Try.prog 23 #[.agg #[.string ⟨#[115]⟩, .int .i64 0, .int .i64 9, .int .i64 0, .int .i64 0, .int .i64 0, .int .i64 0, .int .i64 0, .int .i64 0, .int .i64 0, .int .i64 0, .int .i64 0, .int .i64 0, .int .i64 0, .int .i64 0], .int .i64 8] w (RetBE w true 0) := fun w => by
    have hs : ∀ h ∈ [0, 9, 0, 0, 0, 0, 0, 0, 0, 0, 0, 0, 0, (0 : Int)], 0 ≤ h ∧ h ≤ 9 := by decide
    have h := lotOpen_any ⟨#[115]⟩ [0, 9, 0, 0, 0, 0, 0, 0, 0, 0, 0, 0, 0, 0] 8 w ⟨rfl, (by decide : (⟨#[115]⟩ : ByteArray).size ≤ 1000000), fun h hh => by have := hs h hh; omega⟩ (fun h hh => by have := hs h hh; omega)
    rw [ready_open.1, ready_open.2] at h
    exact h
  have cH : ∀ w, Calls Try.prog 25 #[.string ⟨#[104]⟩, .string ⟨#[100]⟩, .agg #[.int .i64 5, .int .i64 9], .string ⟨#[118]⟩, .agg #[.int .i64 5, .string ⟨#[115]⟩, .int .i64 0, .int .i64 0]] w (fun e w' => ∃ A, e = .returned (.tuple #[.agg #[.string ⟨#[104]⟩, .string ⟨#[100]⟩, .int .i64 5, .int .i64 9, .slice A 1 1], .int .i64 0]) ∧ w.grownBy w' none) := fun w => by
    have h := start_any ⟨#[104]⟩ ⟨#[100]⟩ 5 9 ⟨#[118]⟩ ⟨5, ⟨#[115]⟩, 0, 0⟩ w (by decide) (by decide) (by decide) (by decide : (⟨#[115]⟩ : ByteArray).size ≤ 1000000)
    rw [ready_hire] at h
    exact h.mono fun e w' ⟨A, h1, _, h3⟩ => ⟨A, h1, h3⟩
  have CD := Lib.hid cD
  have CO := Lib.hid cO
  have CH := Lib.hid cH
  clear cD cO cH
  go_enter Try.func13, Try.ntmps13
  go_wp2_with fail
  refine (CD.out _).mono ?_
  rintro e w1 ⟨rfl, hg1⟩
  go_wp2_with fail
  refine (CO.out _).mono ?_
  rintro e w2 ⟨rfl, hg2⟩
  go_wp2_with fail
  refine (bspread_nil _).mono ?_
  rintro e w3 ⟨A3, c3, rfl, hg3⟩
  go_wp2_with fail
  refine (CH.out _).mono ?_
  rintro e w4 ⟨A4, rfl, hg4⟩
  go_wp2_with fail
  go_ret
  exact ⟨rfl, grow_alloc (grow_trans (grow_trans (grow_trans hg1 hg2) hg3) hg4) _⟩

end Go.Proofs.Ytcggbojhalbkjaa
