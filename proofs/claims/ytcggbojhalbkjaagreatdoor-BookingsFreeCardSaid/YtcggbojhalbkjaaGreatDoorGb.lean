/- The walks of the generator's small functions: Range, Flip, Pick, Some, Odd. -/
import Derived.Test.YtcggbojhalbkjaaGreatDoorGa
namespace Go.Proofs.YtcggbojhalbkjaaGreatDoor
open Go.RowKit

theorem isBelow_lt {n v : Int} (h : IsBelow n v) (hn : 1 ≤ n) : 0 ≤ v ∧ v < n := by unfold IsBelow at h; omega

set_option maxHeartbeats 400000 in
theorem range_any (lo hi : Int) (w : World) (B sb m : Nat) (hS : Strm 25 w B sb m) (hm : m ≤ 1000000000000) (h1 : -4611686018427387904 ≤ lo) (h2 : hi ≤ 4611686018427387902) (h3 : lo ≤ 4611686018427387902) (h4 : -4611686018427387904 ≤ hi) :
    Calls Tryz.prog 15 #[.pointer (some ⟨sb, 0, none⟩), .int .i64 lo, .int .i64 hi] w (GotInt 25 w B sb (m + 1) (fun v => lo ≤ v ∧ (v ≤ hi ∨ v = lo))) := by
  by_cases hlt : hi < lo
  · go_enter Tryz.func15, Tryz.ntmps15
    go_wp2_with fail
    go_ret
    exact ⟨lo, ⟨by omega, .inr rfl⟩, rfl, hS.more (by omega), World.grownBy.refl _ _⟩
  · go_enter Tryz.func15, Tryz.ntmps15
    go_wp2_with fail
    refine (next_any _ _ B sb m hS hm (by omega) (by omega)).mono ?_
    rintro e w1 ⟨v, hv, rfl, hS1, hg1⟩
    have hv := isBelow_lt hv (by omega)
    go_wp2_with fail
    go_ret
    exact ⟨lo + v, ⟨by omega, .inl (by omega)⟩, rfl, hS1, hg1⟩

set_option maxHeartbeats 400000 in
theorem flip_any (n : Int) (w : World) (B sb m : Nat) (hS : Strm 25 w B sb m) (hm : m ≤ 1000000000000) (hn1 : -9223372036854775808 ≤ n) (hn2 : n ≤ 9223372036854775807) :
    Calls Tryz.prog 83 #[.pointer (some ⟨sb, 0, none⟩), .int .i64 n] w (GotBool 25 w B sb (m + 1)) := by
  go_enter Tryz.func83, Tryz.ntmps83
  go_wp2_with fail
  refine (next_any _ _ B sb m hS hm hn1 hn2).mono ?_
  rintro e w1 ⟨v, hv, rfl, hS1, hg1⟩
  go_wp2_with fail
  go_ret
  exact ⟨_, rfl, hS1, hg1⟩

set_option maxHeartbeats 400000 in
theorem pick_any (xs : List Int) (g c : Nat) (T : TypeId) (w : World) (B sb m : Nat) (hS : Strm 25 w B sb m) (hm : m ≤ 1000000000000) (hx : 0 < xs.length) (hx2 : xs.length ≤ 1000000) (hg : Blk w g T (xs.map (Value.int .i64))) (hne : g ≠ sb) :
    Calls Tryz.prog 32 #[.pointer (some ⟨sb, 0, none⟩), .slice (some ⟨g, 0, none⟩) xs.length c] w (GotInt 25 w B sb (m + 1) (fun v => v ∈ xs)) := by
  obtain ⟨n, hn⟩ : ∃ n, n = xs.length := ⟨_, rfl⟩
  rw [← hn] at hx hx2 ⊢
  have Hn := Lib.hid hn; clear hn
  go_enter Tryz.func32, Tryz.ntmps32
  go_wp2_with fail
  refine (next_any _ _ B sb m hS hm (by omega) (by omega)).mono ?_
  rintro e w1 ⟨v, hv, rfl, hS1, hg1⟩
  have hv := isBelow_lt hv (by omega)
  obtain ⟨i, rfl⟩ := Int.eq_ofNat_of_zero_le hv.1
  have hi : i < n := by omega
  have hgb := hg.grown hg1 (by simpa using hne)
  obtain ⟨x, hx⟩ : ∃ x, xs[i]? = some x := ⟨_, List.getElem?_eq_getElem (by have := Hn.out; omega)⟩
  have hc : w1.cell? ⟨g, i, none⟩ = some (.int .i64 x) := hgb.cell_of (by simp [hx])
  have hmem : x ∈ xs := List.mem_of_getElem? hx
  clear hx hgb
  go_wp2_with fail
  go_ret
  exact ⟨x, hmem, rfl, hS1, hg1⟩

set_option maxHeartbeats 400000 in
theorem some_any (xs : List ByteArray) (g c : Nat) (T : TypeId) (w : World) (B sb m : Nat) (hS : Strm 25 w B sb m) (hm : m ≤ 1000000000000) (hx : 0 < xs.length) (hx2 : xs.length ≤ 1000000) (hg : Blk w g T (xs.map Value.string)) (hne : g ≠ sb) :
    Calls Tryz.prog 48 #[.pointer (some ⟨sb, 0, none⟩), .slice (some ⟨g, 0, none⟩) xs.length c] w (GotStr 25 w B sb (m + 1) (fun v => v ∈ xs)) := by
  obtain ⟨n, hn⟩ : ∃ n, n = xs.length := ⟨_, rfl⟩
  rw [← hn] at hx hx2 ⊢
  have Hn := Lib.hid hn; clear hn
  go_enter Tryz.func48, Tryz.ntmps48
  go_wp2_with fail
  refine (next_any _ _ B sb m hS hm (by omega) (by omega)).mono ?_
  rintro e w1 ⟨v, hv, rfl, hS1, hg1⟩
  have hv := isBelow_lt hv (by omega)
  obtain ⟨i, rfl⟩ := Int.eq_ofNat_of_zero_le hv.1
  have hi : i < n := by omega
  have hgb := hg.grown hg1 (by simpa using hne)
  obtain ⟨x, hx⟩ : ∃ x, xs[i]? = some x := ⟨_, List.getElem?_eq_getElem (by have := Hn.out; omega)⟩
  have hc : w1.cell? ⟨g, i, none⟩ = some (.string x) := hgb.cell_of (by simp [hx])
  have hmem : x ∈ xs := List.mem_of_getElem? hx
  clear hx hgb
  go_wp2_with fail
  go_ret
  exact ⟨x, hmem, rfl, hS1, hg1⟩

set_option maxHeartbeats 400000 in
theorem odd_any (lo hi : Int) (w : World) (B sb m : Nat) (hS : Strm 25 w B sb m) (hm : m ≤ 900000000000) (h1 : -1000000000000000 ≤ lo) (h2 : hi ≤ 1000000000000000) (h3 : lo ≤ hi) :
    Calls Tryz.prog 84 #[.pointer (some ⟨sb, 0, none⟩), .int .i64 lo, .int .i64 hi] w (GotInt 25 w B sb (m + 2) (fun v => -2000000000000000 ≤ v ∧ v ≤ 2000000000000000)) := by
  go_enter Tryz.func84, Tryz.ntmps84
  go_wp2_with fail
  refine (flip_any _ _ B sb m hS (by omega) (by omega) (by omega)).mono ?_
  rintro e w1 ⟨b, rfl, hS1, hg1⟩
  rcases b with _ | _
  · go_wp2_with fail
    refine (range_any _ _ _ B sb (m + 1) hS1 (by omega) (by omega) (by omega) (by omega) (by omega)).mono ?_
    rintro e w2 ⟨v, hv, rfl, hS2, hg2⟩
    go_wp2_with fail
    go_ret
    exact ⟨v, by omega, rfl, hS2, grow_trans hg1 hg2⟩
  · go_wp2_with fail
    refine (pick_any [lo - 1, hi + 1, lo, hi, -1099511627776, 1099511627776] _ _ _ _ B sb (m + 1) (hS1.alloc _) (by omega) (by simp) (by simp) (Blk.new _ _ _) (by have := hS1.lt; omega)).mono ?_
    rintro e w2 ⟨v, hv, rfl, hS2, hg2⟩
    go_wp2_with fail
    go_ret
    refine ⟨v, by simp at hv; omega, rfl, hS2, grow_trans hg1 (grow_trans (grow_alloc (World.grownBy.refl _ _) _) hg2)⟩

end Go.Proofs.YtcggbojhalbkjaaGreatDoor
