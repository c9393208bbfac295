/- The walks of package word's small functions. -/
import Derived.Test.YtcggbojhalbkjaaGreatDoorGa
import Derived.Test.YtcggbojhalbkjaaGreatDoorSpec
namespace Go.Proofs.YtcggbojhalbkjaaGreatDoor
open Go.RowKit

set_option maxHeartbeats 400000 in
theorem in_any (n lo hi : Int) (w : World) :
    Calls Tryz.prog 95 #[.int .i64 n, .int .i64 lo, .int .i64 hi] w fun e w' => e = .returned (.bool (inB n lo hi)) ∧ w = w' := by
  by_cases h1 : lo ≤ n <;> by_cases h2 : n ≤ hi
  all_goals
    have h3 : inB n lo hi = (decide (lo ≤ n) && decide (n ≤ hi)) := rfl
    have H3 := Lib.hid h3; clear h3
    go_enter Tryz.func95, Tryz.ntmps95
    go_wp2
    go_ret
    exact ⟨by rw [H3.out]; simp [h1, h2], rfl⟩

set_option maxHeartbeats 400000 in
theorem when_any (b : Bool) (e : Int) (w : World) :
    Calls Tryz.prog 85 #[.bool b, .int .i64 e] w fun r w' => r = .returned (.int .i64 (whenE b e)) ∧ w = w' := by
  cases b
  all_goals
    go_enter Tryz.func85, Tryz.ntmps85
    go_wp2
    go_ret
    exact ⟨rfl, rfl⟩

theorem firstE_drop (es : List Int) (k : Nat) (h : k < es.length) : firstE (es.drop k) = if es[k] = 0 then firstE (es.drop (k + 1)) else es[k] := by
  rw [List.drop_eq_getElem_cons h]; rfl

set_option maxHeartbeats 400000 in
theorem or_any (es : List Int) (g c : Nat) (T : TypeId) (w : World) (hg : Blk w g T (es.map (Value.int .i64))) (hn : es.length ≤ 1000000) :
    Calls Tryz.prog 133 #[.slice (some ⟨g, 0, none⟩) es.length c] w fun r w' => r = .returned (.int .i64 (firstE es)) ∧ w = w' := by
  obtain ⟨n, hN⟩ : ∃ n, n = es.length := ⟨_, rfl⟩
  rw [← hN] at hn ⊢
  have HN := Lib.hid hN; clear hN
  go_enter Tryz.func133, Tryz.ntmps133
  go_wp2
  go_loop [8] (fun i => ∃ k : Nat, k ≤ n ∧ i = .int .i64 k ∧ firstE es = firstE (es.drop k)) (fun i => n - (intOf i).toNat)
  case atStart => exact ⟨0, Nat.zero_le _, rfl, rfl⟩
  case round =>
    obtain ⟨k, hk, rfl, hf⟩ := hrel
    have Hf := Lib.hid hf; clear hf
    by_cases hlt : k < n
    · have hk' : k < es.length := by have := HN.out; omega
      obtain ⟨x, hx⟩ : ∃ x, es[k] = x := ⟨_, rfl⟩
      have hc : w.cell? ⟨g, k, none⟩ = some (.int .i64 x) := hg.cell_of (by simp [hk', hx])
      have hd := firstE_drop es k hk'
      rw [hx] at hd
      have Hd := Lib.hid hd; clear hd hx
      by_cases h0 : x = 0
      · subst h0
        go_wp2
        go_round
        case rel => exact ⟨k + 1, by omega, by go_num, by rw [Hf.out, Hd.out]; rfl⟩
        case measure => simp [intOf]; omega
      · have hne : (x != 0) = true := by simpa using h0
        go_wp2
        go_ret
        exact ⟨by rw [Hf.out, Hd.out, if_neg h0]; rfl, rfl⟩
    · have hd : es.drop k = [] := List.drop_eq_nil_of_le (by have := HN.out; omega)
      have Hd := Lib.hid hd; clear hd
      go_wp2
      go_ret
      exact ⟨by rw [Hf.out, Hd.out]; rfl, rfl⟩

set_option maxHeartbeats 400000 in
theorem first_any (es : List Int) (g c : Nat) (T : TypeId) (w : World) (hg : Blk w g T (es.map (Value.int .i64))) (hn : es.length ≤ 1000000) :
    Calls Tryz.prog 58 #[.slice (some ⟨g, 0, none⟩) es.length c] w fun r w' => r = .returned (.int .i64 (firstE es)) ∧ w = w' := by
  have hc := fun c => or_any es g c T w hg hn
  have HC := Lib.hid hc; clear hc
  obtain ⟨n, hN⟩ : ∃ n, n = es.length := ⟨_, rfl⟩
  rw [← hN] at hn HC ⊢
  clear hN
  go_enter Tryz.func58, Tryz.ntmps58
  go_wp2_with fail
  refine (HC.out _).mono ?_
  rintro e w1 ⟨rfl, rfl⟩
  go_wp2_with fail
  go_ret
  exact ⟨rfl, rfl⟩

set_option maxHeartbeats 400000 in
theorem isMoment_any (n : Int) (w : World) :
    Calls Tryz.prog 171 #[.int .i64 n] w fun e w' => e = .returned (.bool (inB n 0 5761439)) ∧ w = w' := by
  go_enter Tryz.func171, Tryz.ntmps171
  go_wp2_with fail
  refine (in_any _ _ _ _).mono ?_
  rintro e w1 ⟨rfl, rfl⟩
  go_wp2_with fail
  go_ret
  exact ⟨rfl, rfl⟩

set_option maxHeartbeats 400000 in
theorem moment_any (n : Int) (w : World) :
    Calls Tryz.prog 103 #[.int .i64 n] w fun e w' => e = .returned (.int .i64 (momentE n)) ∧ w = w' := by
  go_enter Tryz.func103, Tryz.ntmps103
  go_wp2_with fail
  refine (isMoment_any _ _).mono ?_
  rintro e w1 ⟨rfl, rfl⟩
  go_wp2_with fail
  refine (when_any _ _ _).mono ?_
  rintro e w1 ⟨rfl, rfl⟩
  go_wp2_with fail
  go_ret
  exact ⟨rfl, rfl⟩

end Go.Proofs.YtcggbojhalbkjaaGreatDoor
