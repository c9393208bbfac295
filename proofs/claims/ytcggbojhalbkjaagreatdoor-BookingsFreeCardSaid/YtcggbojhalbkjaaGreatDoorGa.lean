/- The walks of the number generator: Below and Next. -/
import Derived.Test.YtcggbojhalbkjaaGreatDoorChecked
import Derived.Test.YtcggbojhalbkjaaGreatDoorBase
import Derived.Deep.QuietTactic
import Derived.BigQuiet
namespace Go.Proofs.YtcggbojhalbkjaaGreatDoor
open Go.RowKit

def IsBelow (n : Int) (v : Int) : Prop := 0 ≤ v ∧ (v < n ∨ v = 0)

def belowV (x n : Int) : Int := if n < 1 then 0 else if x.tmod n < 0 then x.tmod n + n else x.tmod n
theorem belowV_is (x n : Int) : IsBelow n (belowV x n) := by
  unfold IsBelow belowV
  by_cases h : n < 1
  · simp [h]
  · have h1 : x.tmod n < n := Int.tmod_lt_of_pos _ (by omega)
    have h2 : -n < x.tmod n := by
      have := Int.lt_tmod_of_pos x (show 0 < n by omega)
      omega
    simp only [h, if_false]
    split <;> omega
set_option maxHeartbeats 400000 in
theorem below_val (x n : Int) (w : World) (hn1 : -9223372036854775808 ≤ n) (hn2 : n ≤ 9223372036854775807) :
    Calls Tryz.prog 155 #[.int .i64 x, .int .i64 n] w fun e w' => e = .returned (.int .i64 (belowV x n)) ∧ w = w' := by
  have hm : -n < x.tmod n ∨ n < 1 := by
    by_cases h : n < 1
    · exact .inr h
    · exact .inl (Int.lt_tmod_of_pos x (by omega))
  go_enter Tryz.func155, Tryz.ntmps155
  go_wp2
  · go_ret
    have h : n < 1 := by assumption
    exact ⟨by simp [belowV, h], rfl⟩
  · go_ret
    have h : 1 ≤ n := by assumption
    have h1 : x.tmod n < 0 := by assumption
    exact ⟨by simp [belowV, h1, show ¬ n < 1 by omega], rfl⟩
  · go_ret
    have h : 1 ≤ n := by assumption
    have h1 : 0 ≤ x.tmod n := by assumption
    exact ⟨by simp [belowV, show ¬ n < 1 by omega, show ¬ x.tmod n < 0 by omega], rfl⟩


theorem below_any (x n : Int) (w : World) (hn1 : -9223372036854775808 ≤ n) (hn2 : n ≤ 9223372036854775807) :
    Calls Tryz.prog 155 #[.int .i64 x, .int .i64 n] w fun e w' => ∃ v, IsBelow n v ∧ e = .returned (.int .i64 v) ∧ w = w' :=
  (below_val x n w hn1 hn2).mono fun _ _ ⟨he, hw⟩ => ⟨_, belowV_is x n, he, hw⟩

set_option maxHeartbeats 400000 in
theorem next_any (n : Int) (w : World) (B sb m : Nat) (hS : Strm 25 w B sb m) (hm : m ≤ 1000000000000) (hn1 : -9223372036854775808 ≤ n) (hn2 : n ≤ 9223372036854775807) :
    Calls Tryz.prog 82 #[.pointer (some ⟨sb, 0, none⟩), .int .i64 n] w (GotInt 25 w B sb (m + 1) (IsBelow n)) := by
  obtain ⟨A, len, c, k, hh, h0, h1, h2, h3⟩ := hS.pos
  have hf : ∀ i, w.frozen? ⟨sb, i, none⟩ = false := fun i => frozen_of_row w sb i _ _ hh
  have hc0 : w.cell? ⟨sb, 0, none⟩ = some (.slice A len c) := by rw [cell_of_row w sb 0 _ _ _ hh]; rfl
  have hc1 : w.cell? ⟨sb, 1, none⟩ = some (.int .i64 k) := by rw [cell_of_row w sb 1 _ _ _ hh]; rfl
  have hst := hS.step hh h0 h1
  by_cases hlen : len = 0
  · subst hlen
    go_enter Tryz.func82, Tryz.ntmps82
    go_wp2_with (go_at_call 155; refine (below_any _ _ _ hn1 hn2).mono ?_; rintro e w1 ⟨v, hv, rfl, rfl⟩)
    go_ret
    exact ⟨v, hv, rfl, hst, grow_setCell (World.grownBy.refl _ _) (.inl rfl) _⟩
  · obtain ⟨b, off, rfl, hbB, hz⟩ := h3 (by omega)
    have hne : ((len : Int) == 0) = false := by simp; omega
    have hmod : (k + 1 - 1).tmod (len : Int) = k % (len : Int) := by rw [Int.tmod_eq_emod_of_nonneg (by omega)]; congr 1; omega
    have hi0 : 0 ≤ k % (len : Int) := Int.emod_nonneg _ (by omega)
    have hi1 : k % (len : Int) < len := Int.emod_lt_of_pos _ (by omega)
    obtain ⟨i, hi⟩ : ∃ i : Nat, (i : Int) = k % (len : Int) := ⟨(k % (len : Int)).toNat, by omega⟩
    obtain ⟨z, z1, z2, hcz⟩ := hz i (by omega)
    have hi' : k % (len : Int) = (i : Int) := hi.symm
    have hil : (i : Int) < (len : Int) := by omega
    have hcz' : ∀ u, (w.setCell ⟨sb, 1, none⟩ u).cell? ⟨b, off + i, none⟩ = some (.int .i64 z) := fun u =>
      (World.cell?_of_block (Below.heap_setCell w _ _ b (by have := hS.base; simp; omega))).trans hcz
    clear hmod hi0 hi1 hi hz h3
    go_enter Tryz.func82, Tryz.ntmps82
    go_wp2_with fail
    go_quiet (fail)
    go_wp2_with fail
    go_quiet (fail)
    go_wp2_with fail
    refine (below_any _ _ _ (by omega) (by omega)).mono ?_
    rintro e w1 ⟨v1, hv1, rfl, rfl⟩
    go_wp2_with fail
    refine (below_any _ _ _ hn1 hn2).mono ?_
    rintro e w1 ⟨v, hv, rfl, rfl⟩
    go_wp2_with fail
    go_ret
    exact ⟨v, hv, rfl, hst.drewN _, grow_drewN (grow_setCell (World.grownBy.refl _ _) (.inl rfl) _) _⟩

end Go.Proofs.YtcggbojhalbkjaaGreatDoor
