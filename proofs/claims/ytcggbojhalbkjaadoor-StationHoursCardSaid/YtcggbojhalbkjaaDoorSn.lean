/- The generators Stations, Moment, Window. -/
import Derived.Test.YtcggbojhalbkjaaDoorGst
import Derived.Test.YtcggbojhalbkjaaDoorLst
import Derived.Test.YtcggbojhalbkjaaDoorSz
import Derived.Test.YtcggbojhalbkjaaDoorTy
import Derived.Test.YtcggbojhalbkjaaDoorPv
import Derived.Test.YtcggbojhalbkjaaDoorGb
import Derived.Test.YtcggbojhalbkjaaDoorSe
import Derived.Test.YtcggbojhalbkjaaDoorSi
import Derived.Test.YtcggbojhalbkjaaDoorSq
namespace Go.Proofs.YtcggbojhalbkjaaDoor
open Go.RowKit

theorem ar54 : arrSz Tryd.prog 54 = some (7, 2) := by kernel_rfl
def Bd (x : Int) : Prop := -3000 ≤ x ∧ x ≤ 3000
def StB (s : St) : Prop := s.hs.length = 14 ∧ s.key.size ≤ 10 ∧ ∀ h ∈ s.hs, -3000 ≤ h ∧ h ≤ 3000
theorem stB_ok {s : St} (h : StB s) : StOk s := ⟨h.1, by have := h.2.1; omega, fun x hx => by have := h.2.2 x hx; omega⟩
theorem bd_all {h0 h1 h2 h3 h4 h5 h6 h7 h8 h9 h10 h11 h12 h13 : Int} (h : Bd h0 ∧ Bd h1 ∧ Bd h2 ∧ Bd h3 ∧ Bd h4 ∧ Bd h5 ∧ Bd h6 ∧ Bd h7 ∧ Bd h8 ∧ Bd h9 ∧ Bd h10 ∧ Bd h11 ∧ Bd h12 ∧ Bd h13) : ∀ x ∈ [h0, h1, h2, h3, h4, h5, h6, h7, h8, h9, h10, h11, h12, h13], -3000 ≤ x ∧ x ≤ 3000 := fun x hx => by
  simp only [List.mem_cons, List.not_mem_nil, or_false] at hx
  obtain ⟨b0, b1, b2, b3, b4, b5, b6, b7, b8, b9, b10, b11, b12, b13⟩ := h
  rcases hx with rfl | rfl | rfl | rfl | rfl | rfl | rfl | rfl | rfl | rfl | rfl | rfl | rfl | rfl <;> assumption
theorem stB_snoc {l : List St} {x : St} (h : ∀ y ∈ l, StB y) (hx : StB x) : ∀ y ∈ l ++ [x], StB y := fun y hy => by
  rcases List.mem_append.1 hy with hy | hy
  · exact h y hy
  · rw [List.mem_singleton.1 hy]; exact hx

set_option maxRecDepth 100000 in
set_option maxHeartbeats 400000 in
theorem gmoment_any (w : World) (B sb m : Nat) (hS : Strm 25 w B sb m) (hm : m ≤ 100000000) :
    Calls Tryd.prog 22 #[.pointer (some ⟨sb, 0, none⟩)] w (fun e w' => ∃ v : Int, e = .returned (.int .i64 v) ∧ -1 ≤ v ∧ v ≤ 5761440 ∧ Strm 25 w' B sb (m + 1) ∧ w.grownBy w' (some sb)) := by
  refine gw_enter ⟨6, w, (some sb), []⟩ Tryd.func22 rfl Tryd.ntmps22 rfl (memS (X := []) hS allF_nil allL_nil) ?_
  refine gw_seq ?_
  refine gw_region ?_
  refine wl_ov (ov_assign rfl) rfl ?_
  refine wl_nil ?_
  refine nx_then ?_
  refine gw_seq ?_
  refine gw_region ?_
  refine wl_ov (ov_move rfl) rfl ?_
  refine wl_buildSlice (e := 3) (cs := [.int .i64 0, .int .i64 10, .int .i64 49, .int .i64 50, .int .i64 99, .int .i64 100, .int .i64 199, .int .i64 200, .int .i64 480, .int .i64 720, .int .i64 1000, .int .i64 1440, .int .i64 5760, .int .i64 10080, .int .i64 5761439, .int .i64 (-1), .int .i64 5761440]) rfl (by kernel_rfl) rfl fun g1 => ?_
  refine wl_got (γ := Int) (val := fun v => .int .i64 v) (φ := fun v => v ∈ ([0, 10, 49, 50, 99, 100, 199, 200, 480, 720, 1000, 1440, 5760, 10080, 5761439, -1, 5761440] : List Int)) rfl cb7 rfl rfl rfl rfl (fun wx hm => (pick_any [0, 10, 49, 50, 99, 100, 199, 200, 480, 720, 1000, 1440, 5760, 10080, 5761439, -1, 5761440] _ _ _ wx B sb _ hm.k (by omega) (by simp) (by simp) (hm.blkI 0 rfl) (hm.neRow 0 rfl rfl))) fun v2 hv2 => ?_
  have bv2 : -1 ≤ v2 ∧ v2 ≤ 5761440 := mem_rng hv2 (by decide)
  have bv20 := bv2.1
  have bv21 := bv2.2
  clear bv2
  refine wl_ov (ov_assign rfl) rfl ?_
  refine wl_nil ?_
  refine nx_then ?_
  refine gw_ret ?_
  refine nx_ret1 rfl rfl fun wx hm => ?_
  exact ⟨v2, rfl, by omega, by omega, hm.k, hm.g⟩

set_option maxRecDepth 100000 in
set_option maxHeartbeats 1000000 in
theorem gwindow_any (w : World) (B sb m : Nat) (hS : Strm 25 w B sb m) (hm : m ≤ 100000000) :
    Calls Tryd.prog 23 #[.pointer (some ⟨sb, 0, none⟩)] w (fun e w' => ∃ a b : Int, e = .returned (.agg #[.int .i64 a, .int .i64 b]) ∧ (-2000000000000000 ≤ a ∧ a ≤ 2000000000000000) ∧ (-2000000000000000 ≤ b ∧ b ≤ 2000000000000000) ∧ Strm 25 w' B sb (m + 20) ∧ w.grownBy w' (some sb)) := by
  refine gw_enter ⟨30, w, (some sb), []⟩ Tryd.func23 rfl Tryd.ntmps23 rfl (memS (X := []) hS allF_nil allL_nil) ?_
  refine gw_seq ?_
  refine gw_region ?_
  refine wl_alloc zc31 rfl fun g1 => ?_
  refine wl_nil ?_
  refine nx_then ?_
  refine gw_seq ?_
  refine gw_region ?_
  refine wl_ov (ov_move rfl) rfl ?_
  refine wl_buildSlice (e := 3) (cs := [.int .i64 0, .int .i64 0, .int .i64 10, .int .i64 100, .int .i64 400, .int .i64 1440, .int .i64 5000, .int .i64 10080]) rfl (by kernel_rfl) rfl fun g2 => ?_
  refine wl_got (γ := Int) (val := fun v => .int .i64 v) (φ := fun v => v ∈ ([0, 0, 10, 100, 400, 1440, 5000, 10080] : List Int)) rfl cb7 rfl rfl rfl rfl (fun wx hm => (pick_any [0, 0, 10, 100, 400, 1440, 5000, 10080] _ _ _ wx B sb _ hm.k (by omega) (by simp) (by simp) (hm.blkI 0 rfl) (hm.neRow 0 rfl rfl))) fun v3 hv3 => ?_
  have bv3 : 0 ≤ v3 ∧ v3 ≤ 10080 := mem_rng hv3 (by decide)
  have bv30 := bv3.1
  have bv31 := bv3.2
  clear bv3
  refine wl_ov (ov_move rfl) rfl ?_
  refine wl_buildSlice (e := 3) (cs := [.int .i64 0, .int .i64 10, .int .i64 100, .int .i64 400, .int .i64 1000, .int .i64 10080, .int .i64 30000, .int .i64 5761440]) rfl (by kernel_rfl) rfl fun g4 => ?_
  refine wl_got (γ := Int) (val := fun v => .int .i64 v) (φ := fun v => v ∈ ([0, 10, 100, 400, 1000, 10080, 30000, 5761440] : List Int)) rfl cb7 rfl rfl rfl rfl (fun wx hm => (pick_any [0, 10, 100, 400, 1000, 10080, 30000, 5761440] _ _ _ wx B sb _ hm.k (by omega) (by simp) (by simp) (hm.blkI 0 rfl) (hm.neRow 0 rfl rfl))) fun v5 hv5 => ?_
  have bv5 : 0 ≤ v5 ∧ v5 ≤ 5761440 := mem_rng hv5 (by decide)
  have bv50 := bv5.1
  have bv51 := bv5.2
  clear bv5
  refine wl_ov (ov_assign rfl) rfl ?_
  refine wl_ov (ov_assign rfl) rfl ?_
  refine wl_nil ?_
  refine nx_then ?_
  refine gw_seq ?_
  refine gw_seq ?_
  refine gw_region ?_
  refine wl_ov (ov_move rfl) rfl ?_
  refine wl_ov (ov_move rfl) rfl ?_
  refine wl_ov (ov_gtr rfl rfl) rfl ?_
  refine wl_ov (ov_move rfl) rfl ?_
  rcases Bool.eq_false_or_eq_true (decide (v5 < v3)) with hg0 | hg0
  · refine wl_set 14 rfl (congrArg Value.bool hg0) ?_
    refine wl_guard_on rfl rfl rfl ?_
    refine wl_ov (ov_move rfl) rfl ?_
    refine wl_guard_on rfl rfl rfl ?_
    refine wl_got (γ := Bool) (val := fun v => .bool v) (φ := fun v => True) rfl cb8 rfl rfl rfl rfl (fun wx hm => ((flip_any _ wx B sb _ hm.k (by omega) (by omega) (by omega)).mono fun _ _ ⟨v, he, hS, hg⟩ => ⟨v, trivial, he, hS, hg⟩)) fun f6 _ => ?_
    refine wl_guard_on rfl rfl rfl ?_
    refine wl_ov (ov_un_not rfl) rfl ?_
    refine wl_ov (ov_pick_t rfl rfl) rfl ?_
    refine wl_nil ?_
    refine nx_then ?_
    refine gw_cond rfl (fun hh => ?_) (fun hh => ?_)
    · have hc1 : f6 = false := by simpa using hh
      clear hh
      refine gw_region ?_
      refine wl_ov (ov_move rfl) rfl ?_
      refine wl_ov (ov_move rfl) rfl ?_
      refine wl_ov (ov_assign rfl) rfl ?_
      refine wl_ov (ov_assign rfl) rfl ?_
      refine wl_nil ?_
      refine nx_then ?_
      refine gw_seq ?_
      refine gw_seq ?_
      refine gw_region ?_
      refine wl_ov (ov_move rfl) rfl ?_
      refine wl_got (γ := Bool) (val := fun v => .bool v) (φ := fun v => True) rfl cb8 rfl rfl rfl rfl (fun wx hm => ((flip_any _ wx B sb _ hm.k (by omega) (by omega) (by omega)).mono fun _ _ ⟨v, he, hS, hg⟩ => ⟨v, trivial, he, hS, hg⟩)) fun f7 _ => ?_
      refine wl_nil ?_
      refine nx_then ?_
      refine gw_cond rfl (fun hh => ?_) (fun hh => ?_)
      · have hc2 : f7 = true := by simpa using hh
        clear hh
        refine gw_region ?_
        refine wl_ov (ov_move rfl) rfl ?_
        refine wl_got (γ := Int) (val := fun v => .int .i64 v) (φ := fun v => -2000000000000000 ≤ v ∧ v ≤ 2000000000000000) rfl cb9 rfl rfl rfl rfl (fun wx hm => (odd_any _ _ wx B sb _ hm.k (by omega) (by omega) (by omega) (by omega))) fun v8 hv8 => ?_
        refine wl_ov (ov_move rfl) rfl ?_
        refine wl_got (γ := Int) (val := fun v => .int .i64 v) (φ := fun v => -2000000000000000 ≤ v ∧ v ≤ 2000000000000000) rfl cb9 rfl rfl rfl rfl (fun wx hm => (odd_any _ _ wx B sb _ hm.k (by omega) (by omega) (by omega) (by omega))) fun v9 hv9 => ?_
        refine wl_ov (ov_assign rfl) rfl ?_
        refine wl_ov (ov_assign rfl) rfl ?_
        refine wl_nil ?_
        refine nx_then ?_
        refine gw_seq ?_
        refine gw_region ?_
        refine wl_ov (ov_move rfl) rfl ?_
        refine wl_ov (ov_move rfl) rfl ?_
        refine wl_ov (ov_build (cs := [.int .i64 v8, .int .i64 v9]) rfl (by kernel_rfl)) rfl ?_
        refine wl_stores (cs' := [.int .i64 v8, .int .i64 v9]) 2 rz31 rfl rfl rfl rfl rfl rfl rfl rfl ?_
        refine wl_nil ?_
        refine nx_then ?_
        refine gw_ret ?_
        refine nx_retc 2 rfl rz31 rfl rfl rfl fun wx hm => ?_
        exact ⟨v8, v9, rfl, ⟨by omega, by omega⟩, ⟨by omega, by omega⟩, hm.k.more (by omega), hm.g⟩
      · have hc2 : f7 = false := by simpa using hh
        clear hh
        refine gw_skip ?_
        refine nx_then ?_
        refine gw_seq ?_
        refine gw_region ?_
        refine wl_ov (ov_move rfl) rfl ?_
        refine wl_ov (ov_move rfl) rfl ?_
        refine wl_ov (ov_build (cs := [.int .i64 v5, .int .i64 v3]) rfl (by kernel_rfl)) rfl ?_
        refine wl_stores (cs' := [.int .i64 v5, .int .i64 v3]) 2 rz31 rfl rfl rfl rfl rfl rfl rfl rfl ?_
        refine wl_nil ?_
        refine nx_then ?_
        refine gw_ret ?_
        refine nx_retc 2 rfl rz31 rfl rfl rfl fun wx hm => ?_
        exact ⟨v5, v3, rfl, ⟨by omega, by omega⟩, ⟨by omega, by omega⟩, hm.k.more (by omega), hm.g⟩
    · have hc1 : f6 = true := by simpa using hh
      clear hh
      refine gw_skip ?_
      refine nx_then ?_
      refine gw_seq ?_
      refine gw_seq ?_
      refine gw_region ?_
      refine wl_ov (ov_move rfl) rfl ?_
      refine wl_got (γ := Bool) (val := fun v => .bool v) (φ := fun v => True) rfl cb8 rfl rfl rfl rfl (fun wx hm => ((flip_any _ wx B sb _ hm.k (by omega) (by omega) (by omega)).mono fun _ _ ⟨v, he, hS, hg⟩ => ⟨v, trivial, he, hS, hg⟩)) fun f10 _ => ?_
      refine wl_nil ?_
      refine nx_then ?_
      refine gw_cond rfl (fun hh => ?_) (fun hh => ?_)
      · have hc2 : f10 = true := by simpa using hh
        clear hh
        refine gw_region ?_
        refine wl_ov (ov_move rfl) rfl ?_
        refine wl_got (γ := Int) (val := fun v => .int .i64 v) (φ := fun v => -2000000000000000 ≤ v ∧ v ≤ 2000000000000000) rfl cb9 rfl rfl rfl rfl (fun wx hm => (odd_any _ _ wx B sb _ hm.k (by omega) (by omega) (by omega) (by omega))) fun v11 hv11 => ?_
        refine wl_ov (ov_move rfl) rfl ?_
        refine wl_got (γ := Int) (val := fun v => .int .i64 v) (φ := fun v => -2000000000000000 ≤ v ∧ v ≤ 2000000000000000) rfl cb9 rfl rfl rfl rfl (fun wx hm => (odd_any _ _ wx B sb _ hm.k (by omega) (by omega) (by omega) (by omega))) fun v12 hv12 => ?_
        refine wl_ov (ov_assign rfl) rfl ?_
        refine wl_ov (ov_assign rfl) rfl ?_
        refine wl_nil ?_
        refine nx_then ?_
        refine gw_seq ?_
        refine gw_region ?_
        refine wl_ov (ov_move rfl) rfl ?_
        refine wl_ov (ov_move rfl) rfl ?_
        refine wl_ov (ov_build (cs := [.int .i64 v11, .int .i64 v12]) rfl (by kernel_rfl)) rfl ?_
        refine wl_stores (cs' := [.int .i64 v11, .int .i64 v12]) 2 rz31 rfl rfl rfl rfl rfl rfl rfl rfl ?_
        refine wl_nil ?_
        refine nx_then ?_
        refine gw_ret ?_
        refine nx_retc 2 rfl rz31 rfl rfl rfl fun wx hm => ?_
        exact ⟨v11, v12, rfl, ⟨by omega, by omega⟩, ⟨by omega, by omega⟩, hm.k.more (by omega), hm.g⟩
      · have hc2 : f10 = false := by simpa using hh
        clear hh
        refine gw_skip ?_
        refine nx_then ?_
        refine gw_seq ?_
        refine gw_region ?_
        refine wl_ov (ov_move rfl) rfl ?_
        refine wl_ov (ov_move rfl) rfl ?_
        refine wl_ov (ov_build (cs := [.int .i64 v3, .int .i64 v5]) rfl (by kernel_rfl)) rfl ?_
        refine wl_stores (cs' := [.int .i64 v3, .int .i64 v5]) 2 rz31 rfl rfl rfl rfl rfl rfl rfl rfl ?_
        refine wl_nil ?_
        refine nx_then ?_
        refine gw_ret ?_
        refine nx_retc 2 rfl rz31 rfl rfl rfl fun wx hm => ?_
        exact ⟨v3, v5, rfl, ⟨by omega, by omega⟩, ⟨by omega, by omega⟩, hm.k.more (by omega), hm.g⟩
  · refine wl_set 14 rfl (congrArg Value.bool hg0) ?_
    refine wl_guard_off rfl rfl rfl (by decide) rfl ?_
    refine wl_guard_off rfl rfl rfl (by decide) rfl ?_
    refine wl_guard_off rfl rfl rfl (by decide) rfl ?_
    refine wl_ov (ov_pick_f rfl rfl) rfl ?_
    refine wl_nil ?_
    refine nx_then ?_
    refine gw_cond rfl (fun hh => by cases hh) (fun _ => ?_)
    refine gw_skip ?_
    refine nx_then ?_
    refine gw_seq ?_
    refine gw_seq ?_
    refine gw_region ?_
    refine wl_ov (ov_move rfl) rfl ?_
    refine wl_got (γ := Bool) (val := fun v => .bool v) (φ := fun v => True) rfl cb8 rfl rfl rfl rfl (fun wx hm => ((flip_any _ wx B sb _ hm.k (by omega) (by omega) (by omega)).mono fun _ _ ⟨v, he, hS, hg⟩ => ⟨v, trivial, he, hS, hg⟩)) fun f13 _ => ?_
    refine wl_nil ?_
    refine nx_then ?_
    refine gw_cond rfl (fun hh => ?_) (fun hh => ?_)
    · have hc1 : f13 = true := by simpa using hh
      clear hh
      refine gw_region ?_
      refine wl_ov (ov_move rfl) rfl ?_
      refine wl_got (γ := Int) (val := fun v => .int .i64 v) (φ := fun v => -2000000000000000 ≤ v ∧ v ≤ 2000000000000000) rfl cb9 rfl rfl rfl rfl (fun wx hm => (odd_any _ _ wx B sb _ hm.k (by omega) (by omega) (by omega) (by omega))) fun v14 hv14 => ?_
      refine wl_ov (ov_move rfl) rfl ?_
      refine wl_got (γ := Int) (val := fun v => .int .i64 v) (φ := fun v => -2000000000000000 ≤ v ∧ v ≤ 2000000000000000) rfl cb9 rfl rfl rfl rfl (fun wx hm => (odd_any _ _ wx B sb _ hm.k (by omega) (by omega) (by omega) (by omega))) fun v15 hv15 => ?_
      refine wl_ov (ov_assign rfl) rfl ?_
      refine wl_ov (ov_assign rfl) rfl ?_
      refine wl_nil ?_
      refine nx_then ?_
      refine gw_seq ?_
      refine gw_region ?_
      refine wl_ov (ov_move rfl) rfl ?_
      refine wl_ov (ov_move rfl) rfl ?_
      refine wl_ov (ov_build (cs := [.int .i64 v14, .int .i64 v15]) rfl (by kernel_rfl)) rfl ?_
      refine wl_stores (cs' := [.int .i64 v14, .int .i64 v15]) 2 rz31 rfl rfl rfl rfl rfl rfl rfl rfl ?_
      refine wl_nil ?_
      refine nx_then ?_
      refine gw_ret ?_
      refine nx_retc 2 rfl rz31 rfl rfl rfl fun wx hm => ?_
      exact ⟨v14, v15, rfl, ⟨by omega, by omega⟩, ⟨by omega, by omega⟩, hm.k.more (by omega), hm.g⟩
    · have hc1 : f13 = false := by simpa using hh
      clear hh
      refine gw_skip ?_
      refine nx_then ?_
      refine gw_seq ?_
      refine gw_region ?_
      refine wl_ov (ov_move rfl) rfl ?_
      refine wl_ov (ov_move rfl) rfl ?_
      refine wl_ov (ov_build (cs := [.int .i64 v3, .int .i64 v5]) rfl (by kernel_rfl)) rfl ?_
      refine wl_stores (cs' := [.int .i64 v3, .int .i64 v5]) 2 rz31 rfl rfl rfl rfl rfl rfl rfl rfl ?_
      refine wl_nil ?_
      refine nx_then ?_
      refine gw_ret ?_
      refine nx_retc 2 rfl rz31 rfl rfl rfl fun wx hm => ?_
      exact ⟨v3, v5, rfl, ⟨by omega, by omega⟩, ⟨by omega, by omega⟩, hm.k.more (by omega), hm.g⟩

set_option maxRecDepth 100000 in
set_option maxHeartbeats 2000000 in
theorem gstations_any (w : World) (B sb m : Nat) (hS : Strm 25 w B sb m) (hm : m ≤ 100000000) :
    Calls Tryd.prog 24 #[.pointer (some ⟨sb, 0, none⟩)] w (fun e w' => ∃ (A : Option Addr) (n c : Nat) (l : List St), e = .returned (.slice A n c) ∧ w'.ownsRow w.heap.size 56 15 (.slice A n c) n (l.flatMap stEnc) ∧ l.length = n ∧ (∀ x ∈ l, StB x) ∧ n ≤ 3 ∧ Strm 25 w' B sb (m + 100) ∧ w.grownBy w' (some sb)) := by
  refine gw_enter ⟨47, w, (some sb), []⟩ Tryd.func24 rfl Tryd.ntmps24 rfl (memS (X := []) hS allF_nil allL_nil) ?_
  refine gw_seq ?_
  refine gw_region ?_
  refine wl_nilOwn 56 15 ?_
  refine wl_ov (ov_assign rfl) rfl ?_
  refine wl_nil ?_
  refine nx_then ?_
  refine gw_seq ?_
  refine gw_region ?_
  refine wl_ov (ov_assign rfl) rfl ?_
  refine wl_nil ?_
  refine nx_then ?_
  refine gw_seq ?_
  refine gw_seq ?_
  refine gw_region ?_
  refine wl_buildSlice (e := 9) (cs := [.string ⟨#[115, 49]⟩, .string ⟨#[115, 50]⟩, .string ⟨#[115, 51]⟩]) rfl (by kernel_rfl) rfl fun g1 => ?_
  refine wl_ov (ov_len es76 rfl) rfl ?_
  refine wl_set 10 (v' := .int .i64 3) rfl rfl ?_
  refine wl_ov (ov_move rfl) rfl ?_
  refine wl_nil ?_
  refine nx_then ?_
  refine gw_block ?_
  refine gw_loop (γ := Nat × Nat × Value × List St × List Value) (fun (g : Nat × Nat × Value × List St × List Value) => g.1 ≤ 3 ∧ g.2.1 ≤ g.1 ∧ g.2.2.2.1.length = g.2.1 ∧ (∀ x ∈ g.2.2.2.1, StB x) ∧ g.2.2.2.2 = g.2.2.2.1.flatMap stEnc) (fun (g : Nat × Nat × Value × List St × List Value) => [(0, .pointer (some ⟨sb, 0, none⟩)), (2, .slice none 0 0), (3, g.2.2.1), (9, .slice (some ⟨g1, 0, none⟩) 3 3), (10, .int .i64 3), (11, .int .i64 ((g.1 : Nat) : Int))]) (fun (g : Nat × Nat × Value × List St × List Value) => fun w => Strm 25 w B sb (m + 30 * g.1)) (fun (g : Nat × Nat × Value × List St × List Value) => [(g1, 9, [.string ⟨#[115, 49]⟩, .string ⟨#[115, 50]⟩, .string ⟨#[115, 51]⟩])]) (fun (g : Nat × Nat × Value × List St × List Value) => [⟨g.2.2.1, 56, 15, g.2.1, g.2.2.2.2⟩]) (fun (g : Nat × Nat × Value × List St × List Value) => []) (fun (g : Nat × Nat × Value × List St × List Value) => 3 - g.1) (0, 0, .slice none 0 0, [], []) ⟨Nat.zero_le _, Nat.le_refl _, rfl, (fun _ h => by cases h), rfl⟩ ⟨rfl, rfl, rfl, rfl, rfl, rfl, trivial⟩ (fun _ hm => (hm.more rfl (by first | omega | (dsimp only; omega))).pick [0] [0] [] rfl rfl) ?_
  rintro ⟨i, k, v, l, xs⟩ hinv
  replace hinv : i ≤ 3 ∧ k ≤ i ∧ l.length = k ∧ (∀ x ∈ l, StB x) ∧ xs = l.flatMap stEnc := hinv
  dsimp only
  refine gw_seq ?_
  refine gw_region ?_
  obtain ⟨hi0, hki, hl, hok, rfl⟩ := hinv
  refine wl_ov (ov_lss rfl rfl) rfl ?_
  refine wl_nil ?_
  refine nx_then ?_
  refine gw_seq ?_
  refine gw_cond rfl (fun hh => ?_) (fun hh => ?_)
  · have hi : ((i : Nat) : Int) < 3 := by simpa using hh
    clear hh
    refine gw_skip ?_
    refine nx_then ?_
    refine gw_seq ?_
    refine gw_block ?_
    refine gw_seq ?_
    refine gw_region ?_
    obtain ⟨nm, hx⟩ : ∃ x, ([⟨#[115, 49]⟩, ⟨#[115, 50]⟩, ⟨#[115, 51]⟩] : List ByteArray)[i]? = some x := ⟨_, List.getElem?_eq_getElem (by simp; omega)⟩
    have hnm : nm.size ≤ 100 := mem_sz (List.mem_of_getElem? hx) (by decide)
    have hnm2 : nm.size ≤ 10 := by
      have := List.mem_of_getElem? hx
      simp only [List.mem_cons, List.not_mem_nil, or_false] at this
      rcases this with rfl | rfl | rfl <;> decide
    refine wl_ov (ov_index (j := i) es76 rfl rfl (by omega)) rfl ?_
    refine wl_ov (ov_elem1 (k := 0) (v := .string nm) sc9 rfl (fun _ hm => (SlT.ofBlk (l := [⟨#[115, 49]⟩, ⟨#[115, 50]⟩, ⟨#[115, 51]⟩]) sg_len (hm.blkI 0 rfl))) hx rfl rfl) rfl ?_
    refine wl_ov (ov_assign rfl) rfl ?_
    refine wl_nil ?_
    refine nx_then ?_
    refine gw_seq ?_
    refine gw_seq ?_
    refine gw_region ?_
    refine wl_ov (ov_move rfl) rfl ?_
    refine wl_got (γ := Bool) (val := fun v => .bool v) (φ := fun v => True) rfl cb8 rfl rfl rfl rfl (fun wx hm => ((flip_any _ wx B sb _ hm.k (by omega) (by omega) (by omega)).mono fun _ _ ⟨v, he, hS, hg⟩ => ⟨v, trivial, he, hS, hg⟩)) fun f2 _ => ?_
    refine wl_nil ?_
    refine nx_then ?_
    refine gw_cond rfl (fun hh => ?_) (fun hh => ?_)
    · have hf : f2 = true := by simpa using hh
      clear hh
      refine gw_exit ?_
      refine nx_then_exit ?_
      refine nx_blk_here ?_
      refine nx_then ?_
      refine gw_region ?_
      refine wl_ov (ov_add rfl rfl (by omega) (by omega)) rfl ?_
      refine wl_ov (ov_move rfl) rfl ?_
      refine wl_nil ?_
      exact nx_round (i + 1, k, v, l, l.flatMap stEnc) ⟨by dsimp only; omega, by dsimp only; omega, hl, hok, rfl⟩ (by dsimp only; omega) ⟨rfl, rfl, rfl, rfl, rfl, (some_int (by omega)), trivial⟩ (fun _ hm => (hm.more rfl (by first | omega | (dsimp only; omega))).pick [0] [0] [] rfl rfl)
    · have hf : f2 = false := by simpa using hh
      clear hh
      refine gw_skip ?_
      refine nx_then ?_
      refine gw_seq ?_
      refine gw_region ?_
      refine wl_ov (ov_move rfl) rfl ?_
      refine wl_ov (ov_build (cs := [.string nm, .int .i64 0, .int .i64 0, .int .i64 0, .int .i64 0, .int .i64 0, .int .i64 0, .int .i64 0, .int .i64 0, .int .i64 0, .int .i64 0, .int .i64 0, .int .i64 0, .int .i64 0, .int .i64 0]) rfl (by kernel_rfl)) rfl ?_
      refine wl_alloc zc56 rfl fun g3 => ?_
      refine wl_stores (cs' := [.string nm, .int .i64 0, .int .i64 0, .int .i64 0, .int .i64 0, .int .i64 0, .int .i64 0, .int .i64 0, .int .i64 0, .int .i64 0, .int .i64 0, .int .i64 0, .int .i64 0, .int .i64 0, .int .i64 0]) 0 rz56 rfl rfl rfl rfl rfl rfl rfl rfl ?_
      refine wl_nil ?_
      refine nx_then ?_
      refine gw_seq ?_
      refine gw_seq ?_
      refine gw_region ?_
      refine wl_ov (ov_move rfl) rfl ?_
      refine wl_nil ?_
      refine nx_then ?_
      refine gw_block ?_
      refine gw_loop (γ := Nat × Int × Int × Int × Int × Int × Int × Int × Int × Int × Int × Int × Int × Int × Int) (fun (g : Nat × Int × Int × Int × Int × Int × Int × Int × Int × Int × Int × Int × Int × Int × Int) => g.1 ≤ 7 ∧ Bd g.2.1 ∧ Bd g.2.2.1 ∧ Bd g.2.2.2.1 ∧ Bd g.2.2.2.2.1 ∧ Bd g.2.2.2.2.2.1 ∧ Bd g.2.2.2.2.2.2.1 ∧ Bd g.2.2.2.2.2.2.2.1 ∧ Bd g.2.2.2.2.2.2.2.2.1 ∧ Bd g.2.2.2.2.2.2.2.2.2.1 ∧ Bd g.2.2.2.2.2.2.2.2.2.2.1 ∧ Bd g.2.2.2.2.2.2.2.2.2.2.2.1 ∧ Bd g.2.2.2.2.2.2.2.2.2.2.2.2.1 ∧ Bd g.2.2.2.2.2.2.2.2.2.2.2.2.2.1 ∧ Bd g.2.2.2.2.2.2.2.2.2.2.2.2.2.2) (fun (g : Nat × Int × Int × Int × Int × Int × Int × Int × Int × Int × Int × Int × Int × Int × Int) => [(0, .pointer (some ⟨sb, 0, none⟩)), (2, .slice none 0 0), (3, v), (6, .pointer (some ⟨g3, 0, none⟩)), (9, .slice (some ⟨g1, 0, none⟩) 3 3), (10, .int .i64 3), (11, .int .i64 ((i : Nat) : Int)), (19, .int .i64 ((g.1 : Nat) : Int))]) (fun (g : Nat × Int × Int × Int × Int × Int × Int × Int × Int × Int × Int × Int × Int × Int × Int) => fun w => Strm 25 w B sb (m + 30 * i + 1 + 3 * g.1)) (fun (g : Nat × Int × Int × Int × Int × Int × Int × Int × Int × Int × Int × Int × Int × Int × Int) => [(g3, 56, [.string nm, .int .i64 g.2.1, .int .i64 g.2.2.1, .int .i64 g.2.2.2.1, .int .i64 g.2.2.2.2.1, .int .i64 g.2.2.2.2.2.1, .int .i64 g.2.2.2.2.2.2.1, .int .i64 g.2.2.2.2.2.2.2.1, .int .i64 g.2.2.2.2.2.2.2.2.1, .int .i64 g.2.2.2.2.2.2.2.2.2.1, .int .i64 g.2.2.2.2.2.2.2.2.2.2.1, .int .i64 g.2.2.2.2.2.2.2.2.2.2.2.1, .int .i64 g.2.2.2.2.2.2.2.2.2.2.2.2.1, .int .i64 g.2.2.2.2.2.2.2.2.2.2.2.2.2.1, .int .i64 g.2.2.2.2.2.2.2.2.2.2.2.2.2.2]), (g1, 9, [.string ⟨#[115, 49]⟩, .string ⟨#[115, 50]⟩, .string ⟨#[115, 51]⟩])]) (fun (g : Nat × Int × Int × Int × Int × Int × Int × Int × Int × Int × Int × Int × Int × Int × Int) => [⟨v, 56, 15, k, l.flatMap stEnc⟩]) (fun (g : Nat × Int × Int × Int × Int × Int × Int × Int × Int × Int × Int × Int × Int × Int × Int) => []) (fun (g : Nat × Int × Int × Int × Int × Int × Int × Int × Int × Int × Int × Int × Int × Int × Int) => 7 - g.1) (0, 0, 0, 0, 0, 0, 0, 0, 0, 0, 0, 0, 0, 0, 0) ⟨Nat.zero_le _, (⟨by decide, by decide⟩ : Bd 0), (⟨by decide, by decide⟩ : Bd 0), (⟨by decide, by decide⟩ : Bd 0), (⟨by decide, by decide⟩ : Bd 0), (⟨by decide, by decide⟩ : Bd 0), (⟨by decide, by decide⟩ : Bd 0), (⟨by decide, by decide⟩ : Bd 0), (⟨by decide, by decide⟩ : Bd 0), (⟨by decide, by decide⟩ : Bd 0), (⟨by decide, by decide⟩ : Bd 0), (⟨by decide, by decide⟩ : Bd 0), (⟨by decide, by decide⟩ : Bd 0), (⟨by decide, by decide⟩ : Bd 0), (⟨by decide, by decide⟩ : Bd 0)⟩ ⟨rfl, rfl, rfl, rfl, rfl, rfl, rfl, rfl, trivial⟩ (fun _ hm => (hm.more rfl (by first | omega | (dsimp only; omega))).pick [0, 1] [0] [] rfl rfl) ?_
      rintro ⟨j, h0, h1, h2, h3, h4, h5, h6, h7, h8, h9, h10, h11, h12, h13⟩ hinv
      replace hinv : j ≤ 7 ∧ Bd h0 ∧ Bd h1 ∧ Bd h2 ∧ Bd h3 ∧ Bd h4 ∧ Bd h5 ∧ Bd h6 ∧ Bd h7 ∧ Bd h8 ∧ Bd h9 ∧ Bd h10 ∧ Bd h11 ∧ Bd h12 ∧ Bd h13 := hinv
      dsimp only
      refine gw_seq ?_
      refine gw_region ?_
      obtain ⟨hj0, b0, b1, b2, b3, b4, b5, b6, b7, b8, b9, b10, b11, b12, b13⟩ := hinv
      refine wl_ov (ov_lss rfl rfl) rfl ?_
      refine wl_nil ?_
      refine nx_then ?_
      refine gw_seq ?_
      refine gw_cond rfl (fun hh => ?_) (fun hh => ?_)
      · have hj : ((j : Nat) : Int) < 7 := by simpa using hh
        clear hh
        refine gw_skip ?_
        refine nx_then ?_
        refine gw_seq ?_
        refine gw_block ?_
        refine gw_seq ?_
        refine gw_region ?_
        have hjc : j = 0 ∨ j = 1 ∨ j = 2 ∨ j = 3 ∨ j = 4 ∨ j = 5 ∨ j = 6 := by omega
        rcases hjc with hjc | hjc | hjc | hjc | hjc | hjc | hjc
        · subst hjc
          refine wl_ov (ov_move rfl) rfl ?_
          refine wl_set 21 (v' := .int .i64 0) rfl rfl ?_
          refine wl_ov (ov_assign rfl) rfl ?_
          refine wl_nil ?_
          refine nx_then ?_
          refine gw_seq ?_
          refine gw_region ?_
          refine wl_ov (ov_move rfl) rfl ?_
          refine wl_buildSlice (e := 3) (cs := [.int .i64 0, .int .i64 0, .int .i64 480, .int .i64 600, .int .i64 1440]) rfl (by kernel_rfl) rfl fun g4 => ?_
          refine wl_got (γ := Int) (val := fun v => .int .i64 v) (φ := fun v => v ∈ ([0, 0, 480, 600, 1440] : List Int)) rfl cb7 rfl rfl rfl rfl (fun wx hm => (pick_any [0, 0, 480, 600, 1440] _ _ _ wx B sb _ hm.k (by omega) (by simp) (by simp) (hm.blkI 0 rfl) (hm.neRow 0 rfl rfl))) fun v5 hv5 => ?_
          have bv5 : 0 ≤ v5 ∧ v5 ≤ 1440 := mem_rng hv5 (by decide)
          have bv50 := bv5.1
          have bv51 := bv5.2
          clear bv5
          refine wl_ov (ov_assign rfl) rfl ?_
          refine wl_nil ?_
          refine nx_then ?_
          refine gw_seq ?_
          refine gw_region ?_
          refine wl_ov (ov_move rfl) rfl ?_
          refine wl_ov (ov_move rfl) rfl ?_
          refine wl_ov (ov_move rfl) rfl ?_
          refine wl_ov (ov_move rfl) rfl ?_
          refine wl_got (γ := Int) (val := fun v => .int .i64 v) (φ := fun v => v5 ≤ v ∧ (v ≤ 1440 ∨ v = v5)) rfl cb47 rfl rfl rfl rfl (fun wx hm => (range_any _ _ wx B sb _ hm.k (by omega) (by omega) (by omega) (by omega) (by omega))) fun v6 hv6 => ?_
          refine wl_ov (ov_build (cs := [.int .i64 v5, .int .i64 v6]) rfl (by kernel_rfl)) rfl ?_
          refine wl_ov (ov_field fo56_1 rfl rfl) rfl ?_
          refine wl_ov (ov_indexP (j := 0) ar54 rfl rfl (by decide) rfl) rfl ?_
          refine wl_stores (cs' := [.string nm, .int .i64 v5, .int .i64 v6, .int .i64 h2, .int .i64 h3, .int .i64 h4, .int .i64 h5, .int .i64 h6, .int .i64 h7, .int .i64 h8, .int .i64 h9, .int .i64 h10, .int .i64 h11, .int .i64 h12, .int .i64 h13]) 1 rz31 rfl rfl rfl rfl rfl rfl rfl rfl ?_
          refine wl_nil ?_
          refine nx_then ?_
          refine gw_seq ?_
          refine gw_region ?_
          refine wl_ov (ov_move rfl) rfl ?_
          refine wl_got (γ := Bool) (val := fun v => .bool v) (φ := fun v => True) rfl cb8 rfl rfl rfl rfl (fun wx hm => ((flip_any _ wx B sb _ hm.k (by omega) (by omega) (by omega)).mono fun _ _ ⟨v, he, hS, hg⟩ => ⟨v, trivial, he, hS, hg⟩)) fun f7 _ => ?_
          refine wl_nil ?_
          refine nx_then ?_
          refine gw_cond rfl (fun hh => ?_) (fun hh => ?_)
          · have hf4 : f7 = true := by simpa using hh
            clear hh
            refine gw_region ?_
            refine wl_ov (ov_move rfl) rfl ?_
            refine wl_ov (ov_move rfl) rfl ?_
            refine wl_ov (ov_field fo56_1 rfl rfl) rfl ?_
            refine wl_ov (ov_indexP (j := 0) ar54 rfl rfl (by decide) rfl) rfl ?_
            refine wl_ov (ov_field fo31_1 rfl rfl) rfl ?_
            refine wl_store 1 sc3 rfl rfl rfl rfl rfl rfl ?_
            refine wl_nil ?_
            refine nx_blk_nrm ?_
            refine nx_then ?_
            refine gw_region ?_
            refine wl_ov (ov_add rfl rfl (by omega) (by omega)) rfl ?_
            refine wl_set 40 (v' := .int .i64 1) rfl rfl ?_
            refine wl_ov (ov_move rfl) rfl ?_
            refine wl_nil ?_
            exact nx_round (1, v5, v5, h2, h3, h4, h5, h6, h7, h8, h9, h10, h11, h12, h13) ⟨by dsimp only; omega, (by unfold Bd; dsimp only; omega), (by unfold Bd; dsimp only; omega), b2, b3, b4, b5, b6, b7, b8, b9, b10, b11, b12, b13⟩ (by dsimp only; omega) ⟨rfl, rfl, rfl, rfl, rfl, rfl, rfl, rfl, trivial⟩ (fun _ hm => (hm.more rfl (by first | omega | (dsimp only; omega))).pick [1, 2] [0] [] rfl rfl)
          · have hf4 : f7 = false := by simpa using hh
            clear hh
            refine gw_skip ?_
            refine nx_blk_nrm ?_
            refine nx_then ?_
            refine gw_region ?_
            refine wl_ov (ov_add rfl rfl (by omega) (by omega)) rfl ?_
            refine wl_set 40 (v' := .int .i64 1) rfl rfl ?_
            refine wl_ov (ov_move rfl) rfl ?_
            refine wl_nil ?_
            exact nx_round (1, v5, v6, h2, h3, h4, h5, h6, h7, h8, h9, h10, h11, h12, h13) ⟨by dsimp only; omega, (by unfold Bd; dsimp only; omega), (by unfold Bd; dsimp only; omega), b2, b3, b4, b5, b6, b7, b8, b9, b10, b11, b12, b13⟩ (by dsimp only; omega) ⟨rfl, rfl, rfl, rfl, rfl, rfl, rfl, rfl, trivial⟩ (fun _ hm => (hm.more rfl (by first | omega | (dsimp only; omega))).pick [1, 2] [0] [] rfl rfl)
        · subst hjc
          refine wl_ov (ov_move rfl) rfl ?_
          refine wl_set 21 (v' := .int .i64 1) rfl rfl ?_
          refine wl_ov (ov_assign rfl) rfl ?_
          refine wl_nil ?_
          refine nx_then ?_
          refine gw_seq ?_
          refine gw_region ?_
          refine wl_ov (ov_move rfl) rfl ?_
          refine wl_buildSlice (e := 3) (cs := [.int .i64 0, .int .i64 0, .int .i64 480, .int .i64 600, .int .i64 1440]) rfl (by kernel_rfl) rfl fun g8 => ?_
          refine wl_got (γ := Int) (val := fun v => .int .i64 v) (φ := fun v => v ∈ ([0, 0, 480, 600, 1440] : List Int)) rfl cb7 rfl rfl rfl rfl (fun wx hm => (pick_any [0, 0, 480, 600, 1440] _ _ _ wx B sb _ hm.k (by omega) (by simp) (by simp) (hm.blkI 0 rfl) (hm.neRow 0 rfl rfl))) fun v9 hv9 => ?_
          have bv9 : 0 ≤ v9 ∧ v9 ≤ 1440 := mem_rng hv9 (by decide)
          have bv90 := bv9.1
          have bv91 := bv9.2
          clear bv9
          refine wl_ov (ov_assign rfl) rfl ?_
          refine wl_nil ?_
          refine nx_then ?_
          refine gw_seq ?_
          refine gw_region ?_
          refine wl_ov (ov_move rfl) rfl ?_
          refine wl_ov (ov_move rfl) rfl ?_
          refine wl_ov (ov_move rfl) rfl ?_
          refine wl_ov (ov_move rfl) rfl ?_
          refine wl_got (γ := Int) (val := fun v => .int .i64 v) (φ := fun v => v9 ≤ v ∧ (v ≤ 1440 ∨ v = v9)) rfl cb47 rfl rfl rfl rfl (fun wx hm => (range_any _ _ wx B sb _ hm.k (by omega) (by omega) (by omega) (by omega) (by omega))) fun v10 hv10 => ?_
          refine wl_ov (ov_build (cs := [.int .i64 v9, .int .i64 v10]) rfl (by kernel_rfl)) rfl ?_
          refine wl_ov (ov_field fo56_1 rfl rfl) rfl ?_
          refine wl_ov (ov_indexP (j := 1) ar54 rfl rfl (by decide) rfl) rfl ?_
          refine wl_stores (cs' := [.string nm, .int .i64 h0, .int .i64 h1, .int .i64 v9, .int .i64 v10, .int .i64 h4, .int .i64 h5, .int .i64 h6, .int .i64 h7, .int .i64 h8, .int .i64 h9, .int .i64 h10, .int .i64 h11, .int .i64 h12, .int .i64 h13]) 1 rz31 rfl rfl rfl rfl rfl rfl rfl rfl ?_
          refine wl_nil ?_
          refine nx_then ?_
          refine gw_seq ?_
          refine gw_region ?_
          refine wl_ov (ov_move rfl) rfl ?_
          refine wl_got (γ := Bool) (val := fun v => .bool v) (φ := fun v => True) rfl cb8 rfl rfl rfl rfl (fun wx hm => ((flip_any _ wx B sb _ hm.k (by omega) (by omega) (by omega)).mono fun _ _ ⟨v, he, hS, hg⟩ => ⟨v, trivial, he, hS, hg⟩)) fun f11 _ => ?_
          refine wl_nil ?_
          refine nx_then ?_
          refine gw_cond rfl (fun hh => ?_) (fun hh => ?_)
          · have hf4 : f11 = true := by simpa using hh
            clear hh
            refine gw_region ?_
            refine wl_ov (ov_move rfl) rfl ?_
            refine wl_ov (ov_move rfl) rfl ?_
            refine wl_ov (ov_field fo56_1 rfl rfl) rfl ?_
            refine wl_ov (ov_indexP (j := 1) ar54 rfl rfl (by decide) rfl) rfl ?_
            refine wl_ov (ov_field fo31_1 rfl rfl) rfl ?_
            refine wl_store 1 sc3 rfl rfl rfl rfl rfl rfl ?_
            refine wl_nil ?_
            refine nx_blk_nrm ?_
            refine nx_then ?_
            refine gw_region ?_
            refine wl_ov (ov_add rfl rfl (by omega) (by omega)) rfl ?_
            refine wl_set 40 (v' := .int .i64 2) rfl rfl ?_
            refine wl_ov (ov_move rfl) rfl ?_
            refine wl_nil ?_
            exact nx_round (2, h0, h1, v9, v9, h4, h5, h6, h7, h8, h9, h10, h11, h12, h13) ⟨by dsimp only; omega, b0, b1, (by unfold Bd; dsimp only; omega), (by unfold Bd; dsimp only; omega), b4, b5, b6, b7, b8, b9, b10, b11, b12, b13⟩ (by dsimp only; omega) ⟨rfl, rfl, rfl, rfl, rfl, rfl, rfl, rfl, trivial⟩ (fun _ hm => (hm.more rfl (by first | omega | (dsimp only; omega))).pick [1, 2] [0] [] rfl rfl)
          · have hf4 : f11 = false := by simpa using hh
            clear hh
            refine gw_skip ?_
            refine nx_blk_nrm ?_
            refine nx_then ?_
            refine gw_region ?_
            refine wl_ov (ov_add rfl rfl (by omega) (by omega)) rfl ?_
            refine wl_set 40 (v' := .int .i64 2) rfl rfl ?_
            refine wl_ov (ov_move rfl) rfl ?_
            refine wl_nil ?_
            exact nx_round (2, h0, h1, v9, v10, h4, h5, h6, h7, h8, h9, h10, h11, h12, h13) ⟨by dsimp only; omega, b0, b1, (by unfold Bd; dsimp only; omega), (by unfold Bd; dsimp only; omega), b4, b5, b6, b7, b8, b9, b10, b11, b12, b13⟩ (by dsimp only; omega) ⟨rfl, rfl, rfl, rfl, rfl, rfl, rfl, rfl, trivial⟩ (fun _ hm => (hm.more rfl (by first | omega | (dsimp only; omega))).pick [1, 2] [0] [] rfl rfl)
        · subst hjc
          refine wl_ov (ov_move rfl) rfl ?_
          refine wl_set 21 (v' := .int .i64 2) rfl rfl ?_
          refine wl_ov (ov_assign rfl) rfl ?_
          refine wl_nil ?_
          refine nx_then ?_
          refine gw_seq ?_
          refine gw_region ?_
          refine wl_ov (ov_move rfl) rfl ?_
          refine wl_buildSlice (e := 3) (cs := [.int .i64 0, .int .i64 0, .int .i64 480, .int .i64 600, .int .i64 1440]) rfl (by kernel_rfl) rfl fun g12 => ?_
          refine wl_got (γ := Int) (val := fun v => .int .i64 v) (φ := fun v => v ∈ ([0, 0, 480, 600, 1440] : List Int)) rfl cb7 rfl rfl rfl rfl (fun wx hm => (pick_any [0, 0, 480, 600, 1440] _ _ _ wx B sb _ hm.k (by omega) (by simp) (by simp) (hm.blkI 0 rfl) (hm.neRow 0 rfl rfl))) fun v13 hv13 => ?_
          have bv13 : 0 ≤ v13 ∧ v13 ≤ 1440 := mem_rng hv13 (by decide)
          have bv130 := bv13.1
          have bv131 := bv13.2
          clear bv13
          refine wl_ov (ov_assign rfl) rfl ?_
          refine wl_nil ?_
          refine nx_then ?_
          refine gw_seq ?_
          refine gw_region ?_
          refine wl_ov (ov_move rfl) rfl ?_
          refine wl_ov (ov_move rfl) rfl ?_
          refine wl_ov (ov_move rfl) rfl ?_
          refine wl_ov (ov_move rfl) rfl ?_
          refine wl_got (γ := Int) (val := fun v => .int .i64 v) (φ := fun v => v13 ≤ v ∧ (v ≤ 1440 ∨ v = v13)) rfl cb47 rfl rfl rfl rfl (fun wx hm => (range_any _ _ wx B sb _ hm.k (by omega) (by omega) (by omega) (by omega) (by omega))) fun v14 hv14 => ?_
          refine wl_ov (ov_build (cs := [.int .i64 v13, .int .i64 v14]) rfl (by kernel_rfl)) rfl ?_
          refine wl_ov (ov_field fo56_1 rfl rfl) rfl ?_
          refine wl_ov (ov_indexP (j := 2) ar54 rfl rfl (by decide) rfl) rfl ?_
          refine wl_stores (cs' := [.string nm, .int .i64 h0, .int .i64 h1, .int .i64 h2, .int .i64 h3, .int .i64 v13, .int .i64 v14, .int .i64 h6, .int .i64 h7, .int .i64 h8, .int .i64 h9, .int .i64 h10, .int .i64 h11, .int .i64 h12, .int .i64 h13]) 1 rz31 rfl rfl rfl rfl rfl rfl rfl rfl ?_
          refine wl_nil ?_
          refine nx_then ?_
          refine gw_seq ?_
          refine gw_region ?_
          refine wl_ov (ov_move rfl) rfl ?_
          refine wl_got (γ := Bool) (val := fun v => .bool v) (φ := fun v => True) rfl cb8 rfl rfl rfl rfl (fun wx hm => ((flip_any _ wx B sb _ hm.k (by omega) (by omega) (by omega)).mono fun _ _ ⟨v, he, hS, hg⟩ => ⟨v, trivial, he, hS, hg⟩)) fun f15 _ => ?_
          refine wl_nil ?_
          refine nx_then ?_
          refine gw_cond rfl (fun hh => ?_) (fun hh => ?_)
          · have hf4 : f15 = true := by simpa using hh
            clear hh
            refine gw_region ?_
            refine wl_ov (ov_move rfl) rfl ?_
            refine wl_ov (ov_move rfl) rfl ?_
            refine wl_ov (ov_field fo56_1 rfl rfl) rfl ?_
            refine wl_ov (ov_indexP (j := 2) ar54 rfl rfl (by decide) rfl) rfl ?_
            refine wl_ov (ov_field fo31_1 rfl rfl) rfl ?_
            refine wl_store 1 sc3 rfl rfl rfl rfl rfl rfl ?_
            refine wl_nil ?_
            refine nx_blk_nrm ?_
            refine nx_then ?_
            refine gw_region ?_
            refine wl_ov (ov_add rfl rfl (by omega) (by omega)) rfl ?_
            refine wl_set 40 (v' := .int .i64 3) rfl rfl ?_
            refine wl_ov (ov_move rfl) rfl ?_
            refine wl_nil ?_
            exact nx_round (3, h0, h1, h2, h3, v13, v13, h6, h7, h8, h9, h10, h11, h12, h13) ⟨by dsimp only; omega, b0, b1, b2, b3, (by unfold Bd; dsimp only; omega), (by unfold Bd; dsimp only; omega), b6, b7, b8, b9, b10, b11, b12, b13⟩ (by dsimp only; omega) ⟨rfl, rfl, rfl, rfl, rfl, rfl, rfl, rfl, trivial⟩ (fun _ hm => (hm.more rfl (by first | omega | (dsimp only; omega))).pick [1, 2] [0] [] rfl rfl)
          · have hf4 : f15 = false := by simpa using hh
            clear hh
            refine gw_skip ?_
            refine nx_blk_nrm ?_
            refine nx_then ?_
            refine gw_region ?_
            refine wl_ov (ov_add rfl rfl (by omega) (by omega)) rfl ?_
            refine wl_set 40 (v' := .int .i64 3) rfl rfl ?_
            refine wl_ov (ov_move rfl) rfl ?_
            refine wl_nil ?_
            exact nx_round (3, h0, h1, h2, h3, v13, v14, h6, h7, h8, h9, h10, h11, h12, h13) ⟨by dsimp only; omega, b0, b1, b2, b3, (by unfold Bd; dsimp only; omega), (by unfold Bd; dsimp only; omega), b6, b7, b8, b9, b10, b11, b12, b13⟩ (by dsimp only; omega) ⟨rfl, rfl, rfl, rfl, rfl, rfl, rfl, rfl, trivial⟩ (fun _ hm => (hm.more rfl (by first | omega | (dsimp only; omega))).pick [1, 2] [0] [] rfl rfl)
        · subst hjc
          refine wl_ov (ov_move rfl) rfl ?_
          refine wl_set 21 (v' := .int .i64 3) rfl rfl ?_
          refine wl_ov (ov_assign rfl) rfl ?_
          refine wl_nil ?_
          refine nx_then ?_
          refine gw_seq ?_
          refine gw_region ?_
          refine wl_ov (ov_move rfl) rfl ?_
          refine wl_buildSlice (e := 3) (cs := [.int .i64 0, .int .i64 0, .int .i64 480, .int .i64 600, .int .i64 1440]) rfl (by kernel_rfl) rfl fun g16 => ?_
          refine wl_got (γ := Int) (val := fun v => .int .i64 v) (φ := fun v => v ∈ ([0, 0, 480, 600, 1440] : List Int)) rfl cb7 rfl rfl rfl rfl (fun wx hm => (pick_any [0, 0, 480, 600, 1440] _ _ _ wx B sb _ hm.k (by omega) (by simp) (by simp) (hm.blkI 0 rfl) (hm.neRow 0 rfl rfl))) fun v17 hv17 => ?_
          have bv17 : 0 ≤ v17 ∧ v17 ≤ 1440 := mem_rng hv17 (by decide)
          have bv170 := bv17.1
          have bv171 := bv17.2
          clear bv17
          refine wl_ov (ov_assign rfl) rfl ?_
          refine wl_nil ?_
          refine nx_then ?_
          refine gw_seq ?_
          refine gw_region ?_
          refine wl_ov (ov_move rfl) rfl ?_
          refine wl_ov (ov_move rfl) rfl ?_
          refine wl_ov (ov_move rfl) rfl ?_
          refine wl_ov (ov_move rfl) rfl ?_
          refine wl_got (γ := Int) (val := fun v => .int .i64 v) (φ := fun v => v17 ≤ v ∧ (v ≤ 1440 ∨ v = v17)) rfl cb47 rfl rfl rfl rfl (fun wx hm => (range_any _ _ wx B sb _ hm.k (by omega) (by omega) (by omega) (by omega) (by omega))) fun v18 hv18 => ?_
          refine wl_ov (ov_build (cs := [.int .i64 v17, .int .i64 v18]) rfl (by kernel_rfl)) rfl ?_
          refine wl_ov (ov_field fo56_1 rfl rfl) rfl ?_
          refine wl_ov (ov_indexP (j := 3) ar54 rfl rfl (by decide) rfl) rfl ?_
          refine wl_stores (cs' := [.string nm, .int .i64 h0, .int .i64 h1, .int .i64 h2, .int .i64 h3, .int .i64 h4, .int .i64 h5, .int .i64 v17, .int .i64 v18, .int .i64 h8, .int .i64 h9, .int .i64 h10, .int .i64 h11, .int .i64 h12, .int .i64 h13]) 1 rz31 rfl rfl rfl rfl rfl rfl rfl rfl ?_
          refine wl_nil ?_
          refine nx_then ?_
          refine gw_seq ?_
          refine gw_region ?_
          refine wl_ov (ov_move rfl) rfl ?_
          refine wl_got (γ := Bool) (val := fun v => .bool v) (φ := fun v => True) rfl cb8 rfl rfl rfl rfl (fun wx hm => ((flip_any _ wx B sb _ hm.k (by omega) (by omega) (by omega)).mono fun _ _ ⟨v, he, hS, hg⟩ => ⟨v, trivial, he, hS, hg⟩)) fun f19 _ => ?_
          refine wl_nil ?_
          refine nx_then ?_
          refine gw_cond rfl (fun hh => ?_) (fun hh => ?_)
          · have hf4 : f19 = true := by simpa using hh
            clear hh
            refine gw_region ?_
            refine wl_ov (ov_move rfl) rfl ?_
            refine wl_ov (ov_move rfl) rfl ?_
            refine wl_ov (ov_field fo56_1 rfl rfl) rfl ?_
            refine wl_ov (ov_indexP (j := 3) ar54 rfl rfl (by decide) rfl) rfl ?_
            refine wl_ov (ov_field fo31_1 rfl rfl) rfl ?_
            refine wl_store 1 sc3 rfl rfl rfl rfl rfl rfl ?_
            refine wl_nil ?_
            refine nx_blk_nrm ?_
            refine nx_then ?_
            refine gw_region ?_
            refine wl_ov (ov_add rfl rfl (by omega) (by omega)) rfl ?_
            refine wl_set 40 (v' := .int .i64 4) rfl rfl ?_
            refine wl_ov (ov_move rfl) rfl ?_
            refine wl_nil ?_
            exact nx_round (4, h0, h1, h2, h3, h4, h5, v17, v17, h8, h9, h10, h11, h12, h13) ⟨by dsimp only; omega, b0, b1, b2, b3, b4, b5, (by unfold Bd; dsimp only; omega), (by unfold Bd; dsimp only; omega), b8, b9, b10, b11, b12, b13⟩ (by dsimp only; omega) ⟨rfl, rfl, rfl, rfl, rfl, rfl, rfl, rfl, trivial⟩ (fun _ hm => (hm.more rfl (by first | omega | (dsimp only; omega))).pick [1, 2] [0] [] rfl rfl)
          · have hf4 : f19 = false := by simpa using hh
            clear hh
            refine gw_skip ?_
            refine nx_blk_nrm ?_
            refine nx_then ?_
            refine gw_region ?_
            refine wl_ov (ov_add rfl rfl (by omega) (by omega)) rfl ?_
            refine wl_set 40 (v' := .int .i64 4) rfl rfl ?_
            refine wl_ov (ov_move rfl) rfl ?_
            refine wl_nil ?_
            exact nx_round (4, h0, h1, h2, h3, h4, h5, v17, v18, h8, h9, h10, h11, h12, h13) ⟨by dsimp only; omega, b0, b1, b2, b3, b4, b5, (by unfold Bd; dsimp only; omega), (by unfold Bd; dsimp only; omega), b8, b9, b10, b11, b12, b13⟩ (by dsimp only; omega) ⟨rfl, rfl, rfl, rfl, rfl, rfl, rfl, rfl, trivial⟩ (fun _ hm => (hm.more rfl (by first | omega | (dsimp only; omega))).pick [1, 2] [0] [] rfl rfl)
        · subst hjc
          refine wl_ov (ov_move rfl) rfl ?_
          refine wl_set 21 (v' := .int .i64 4) rfl rfl ?_
          refine wl_ov (ov_assign rfl) rfl ?_
          refine wl_nil ?_
          refine nx_then ?_
          refine gw_seq ?_
          refine gw_region ?_
          refine wl_ov (ov_move rfl) rfl ?_
          refine wl_buildSlice (e := 3) (cs := [.int .i64 0, .int .i64 0, .int .i64 480, .int .i64 600, .int .i64 1440]) rfl (by kernel_rfl) rfl fun g20 => ?_
          refine wl_got (γ := Int) (val := fun v => .int .i64 v) (φ := fun v => v ∈ ([0, 0, 480, 600, 1440] : List Int)) rfl cb7 rfl rfl rfl rfl (fun wx hm => (pick_any [0, 0, 480, 600, 1440] _ _ _ wx B sb _ hm.k (by omega) (by simp) (by simp) (hm.blkI 0 rfl) (hm.neRow 0 rfl rfl))) fun v21 hv21 => ?_
          have bv21 : 0 ≤ v21 ∧ v21 ≤ 1440 := mem_rng hv21 (by decide)
          have bv210 := bv21.1
          have bv211 := bv21.2
          clear bv21
          refine wl_ov (ov_assign rfl) rfl ?_
          refine wl_nil ?_
          refine nx_then ?_
          refine gw_seq ?_
          refine gw_region ?_
          refine wl_ov (ov_move rfl) rfl ?_
          refine wl_ov (ov_move rfl) rfl ?_
          refine wl_ov (ov_move rfl) rfl ?_
          refine wl_ov (ov_move rfl) rfl ?_
          refine wl_got (γ := Int) (val := fun v => .int .i64 v) (φ := fun v => v21 ≤ v ∧ (v ≤ 1440 ∨ v = v21)) rfl cb47 rfl rfl rfl rfl (fun wx hm => (range_any _ _ wx B sb _ hm.k (by omega) (by omega) (by omega) (by omega) (by omega))) fun v22 hv22 => ?_
          refine wl_ov (ov_build (cs := [.int .i64 v21, .int .i64 v22]) rfl (by kernel_rfl)) rfl ?_
          refine wl_ov (ov_field fo56_1 rfl rfl) rfl ?_
          refine wl_ov (ov_indexP (j := 4) ar54 rfl rfl (by decide) rfl) rfl ?_
          refine wl_stores (cs' := [.string nm, .int .i64 h0, .int .i64 h1, .int .i64 h2, .int .i64 h3, .int .i64 h4, .int .i64 h5, .int .i64 h6, .int .i64 h7, .int .i64 v21, .int .i64 v22, .int .i64 h10, .int .i64 h11, .int .i64 h12, .int .i64 h13]) 1 rz31 rfl rfl rfl rfl rfl rfl rfl rfl ?_
          refine wl_nil ?_
          refine nx_then ?_
          refine gw_seq ?_
          refine gw_region ?_
          refine wl_ov (ov_move rfl) rfl ?_
          refine wl_got (γ := Bool) (val := fun v => .bool v) (φ := fun v => True) rfl cb8 rfl rfl rfl rfl (fun wx hm => ((flip_any _ wx B sb _ hm.k (by omega) (by omega) (by omega)).mono fun _ _ ⟨v, he, hS, hg⟩ => ⟨v, trivial, he, hS, hg⟩)) fun f23 _ => ?_
          refine wl_nil ?_
          refine nx_then ?_
          refine gw_cond rfl (fun hh => ?_) (fun hh => ?_)
          · have hf4 : f23 = true := by simpa using hh
            clear hh
            refine gw_region ?_
            refine wl_ov (ov_move rfl) rfl ?_
            refine wl_ov (ov_move rfl) rfl ?_
            refine wl_ov (ov_field fo56_1 rfl rfl) rfl ?_
            refine wl_ov (ov_indexP (j := 4) ar54 rfl rfl (by decide) rfl) rfl ?_
            refine wl_ov (ov_field fo31_1 rfl rfl) rfl ?_
            refine wl_store 1 sc3 rfl rfl rfl rfl rfl rfl ?_
            refine wl_nil ?_
            refine nx_blk_nrm ?_
            refine nx_then ?_
            refine gw_region ?_
            refine wl_ov (ov_add rfl rfl (by omega) (by omega)) rfl ?_
            refine wl_set 40 (v' := .int .i64 5) rfl rfl ?_
            refine wl_ov (ov_move rfl) rfl ?_
            refine wl_nil ?_
            exact nx_round (5, h0, h1, h2, h3, h4, h5, h6, h7, v21, v21, h10, h11, h12, h13) ⟨by dsimp only; omega, b0, b1, b2, b3, b4, b5, b6, b7, (by unfold Bd; dsimp only; omega), (by unfold Bd; dsimp only; omega), b10, b11, b12, b13⟩ (by dsimp only; omega) ⟨rfl, rfl, rfl, rfl, rfl, rfl, rfl, rfl, trivial⟩ (fun _ hm => (hm.more rfl (by first | omega | (dsimp only; omega))).pick [1, 2] [0] [] rfl rfl)
          · have hf4 : f23 = false := by simpa using hh
            clear hh
            refine gw_skip ?_
            refine nx_blk_nrm ?_
            refine nx_then ?_
            refine gw_region ?_
            refine wl_ov (ov_add rfl rfl (by omega) (by omega)) rfl ?_
            refine wl_set 40 (v' := .int .i64 5) rfl rfl ?_
            refine wl_ov (ov_move rfl) rfl ?_
            refine wl_nil ?_
            exact nx_round (5, h0, h1, h2, h3, h4, h5, h6, h7, v21, v22, h10, h11, h12, h13) ⟨by dsimp only; omega, b0, b1, b2, b3, b4, b5, b6, b7, (by unfold Bd; dsimp only; omega), (by unfold Bd; dsimp only; omega), b10, b11, b12, b13⟩ (by dsimp only; omega) ⟨rfl, rfl, rfl, rfl, rfl, rfl, rfl, rfl, trivial⟩ (fun _ hm => (hm.more rfl (by first | omega | (dsimp only; omega))).pick [1, 2] [0] [] rfl rfl)
        · subst hjc
          refine wl_ov (ov_move rfl) rfl ?_
          refine wl_set 21 (v' := .int .i64 5) rfl rfl ?_
          refine wl_ov (ov_assign rfl) rfl ?_
          refine wl_nil ?_
          refine nx_then ?_
          refine gw_seq ?_
          refine gw_region ?_
          refine wl_ov (ov_move rfl) rfl ?_
          refine wl_buildSlice (e := 3) (cs := [.int .i64 0, .int .i64 0, .int .i64 480, .int .i64 600, .int .i64 1440]) rfl (by kernel_rfl) rfl fun g24 => ?_
          refine wl_got (γ := Int) (val := fun v => .int .i64 v) (φ := fun v => v ∈ ([0, 0, 480, 600, 1440] : List Int)) rfl cb7 rfl rfl rfl rfl (fun wx hm => (pick_any [0, 0, 480, 600, 1440] _ _ _ wx B sb _ hm.k (by omega) (by simp) (by simp) (hm.blkI 0 rfl) (hm.neRow 0 rfl rfl))) fun v25 hv25 => ?_
          have bv25 : 0 ≤ v25 ∧ v25 ≤ 1440 := mem_rng hv25 (by decide)
          have bv250 := bv25.1
          have bv251 := bv25.2
          clear bv25
          refine wl_ov (ov_assign rfl) rfl ?_
          refine wl_nil ?_
          refine nx_then ?_
          refine gw_seq ?_
          refine gw_region ?_
          refine wl_ov (ov_move rfl) rfl ?_
          refine wl_ov (ov_move rfl) rfl ?_
          refine wl_ov (ov_move rfl) rfl ?_
          refine wl_ov (ov_move rfl) rfl ?_
          refine wl_got (γ := Int) (val := fun v => .int .i64 v) (φ := fun v => v25 ≤ v ∧ (v ≤ 1440 ∨ v = v25)) rfl cb47 rfl rfl rfl rfl (fun wx hm => (range_any _ _ wx B sb _ hm.k (by omega) (by omega) (by omega) (by omega) (by omega))) fun v26 hv26 => ?_
          refine wl_ov (ov_build (cs := [.int .i64 v25, .int .i64 v26]) rfl (by kernel_rfl)) rfl ?_
          refine wl_ov (ov_field fo56_1 rfl rfl) rfl ?_
          refine wl_ov (ov_indexP (j := 5) ar54 rfl rfl (by decide) rfl) rfl ?_
          refine wl_stores (cs' := [.string nm, .int .i64 h0, .int .i64 h1, .int .i64 h2, .int .i64 h3, .int .i64 h4, .int .i64 h5, .int .i64 h6, .int .i64 h7, .int .i64 h8, .int .i64 h9, .int .i64 v25, .int .i64 v26, .int .i64 h12, .int .i64 h13]) 1 rz31 rfl rfl rfl rfl rfl rfl rfl rfl ?_
          refine wl_nil ?_
          refine nx_then ?_
          refine gw_seq ?_
          refine gw_region ?_
          refine wl_ov (ov_move rfl) rfl ?_
          refine wl_got (γ := Bool) (val := fun v => .bool v) (φ := fun v => True) rfl cb8 rfl rfl rfl rfl (fun wx hm => ((flip_any _ wx B sb _ hm.k (by omega) (by omega) (by omega)).mono fun _ _ ⟨v, he, hS, hg⟩ => ⟨v, trivial, he, hS, hg⟩)) fun f27 _ => ?_
          refine wl_nil ?_
          refine nx_then ?_
          refine gw_cond rfl (fun hh => ?_) (fun hh => ?_)
          · have hf4 : f27 = true := by simpa using hh
            clear hh
            refine gw_region ?_
            refine wl_ov (ov_move rfl) rfl ?_
            refine wl_ov (ov_move rfl) rfl ?_
            refine wl_ov (ov_field fo56_1 rfl rfl) rfl ?_
            refine wl_ov (ov_indexP (j := 5) ar54 rfl rfl (by decide) rfl) rfl ?_
            refine wl_ov (ov_field fo31_1 rfl rfl) rfl ?_
            refine wl_store 1 sc3 rfl rfl rfl rfl rfl rfl ?_
            refine wl_nil ?_
            refine nx_blk_nrm ?_
            refine nx_then ?_
            refine gw_region ?_
            refine wl_ov (ov_add rfl rfl (by omega) (by omega)) rfl ?_
            refine wl_set 40 (v' := .int .i64 6) rfl rfl ?_
            refine wl_ov (ov_move rfl) rfl ?_
            refine wl_nil ?_
            exact nx_round (6, h0, h1, h2, h3, h4, h5, h6, h7, h8, h9, v25, v25, h12, h13) ⟨by dsimp only; omega, b0, b1, b2, b3, b4, b5, b6, b7, b8, b9, (by unfold Bd; dsimp only; omega), (by unfold Bd; dsimp only; omega), b12, b13⟩ (by dsimp only; omega) ⟨rfl, rfl, rfl, rfl, rfl, rfl, rfl, rfl, trivial⟩ (fun _ hm => (hm.more rfl (by first | omega | (dsimp only; omega))).pick [1, 2] [0] [] rfl rfl)
          · have hf4 : f27 = false := by simpa using hh
            clear hh
            refine gw_skip ?_
            refine nx_blk_nrm ?_
            refine nx_then ?_
            refine gw_region ?_
            refine wl_ov (ov_add rfl rfl (by omega) (by omega)) rfl ?_
            refine wl_set 40 (v' := .int .i64 6) rfl rfl ?_
            refine wl_ov (ov_move rfl) rfl ?_
            refine wl_nil ?_
            exact nx_round (6, h0, h1, h2, h3, h4, h5, h6, h7, h8, h9, v25, v26, h12, h13) ⟨by dsimp only; omega, b0, b1, b2, b3, b4, b5, b6, b7, b8, b9, (by unfold Bd; dsimp only; omega), (by unfold Bd; dsimp only; omega), b12, b13⟩ (by dsimp only; omega) ⟨rfl, rfl, rfl, rfl, rfl, rfl, rfl, rfl, trivial⟩ (fun _ hm => (hm.more rfl (by first | omega | (dsimp only; omega))).pick [1, 2] [0] [] rfl rfl)
        · subst hjc
          refine wl_ov (ov_move rfl) rfl ?_
          refine wl_set 21 (v' := .int .i64 6) rfl rfl ?_
          refine wl_ov (ov_assign rfl) rfl ?_
          refine wl_nil ?_
          refine nx_then ?_
          refine gw_seq ?_
          refine gw_region ?_
          refine wl_ov (ov_move rfl) rfl ?_
          refine wl_buildSlice (e := 3) (cs := [.int .i64 0, .int .i64 0, .int .i64 480, .int .i64 600, .int .i64 1440]) rfl (by kernel_rfl) rfl fun g28 => ?_
          refine wl_got (γ := Int) (val := fun v => .int .i64 v) (φ := fun v => v ∈ ([0, 0, 480, 600, 1440] : List Int)) rfl cb7 rfl rfl rfl rfl (fun wx hm => (pick_any [0, 0, 480, 600, 1440] _ _ _ wx B sb _ hm.k (by omega) (by simp) (by simp) (hm.blkI 0 rfl) (hm.neRow 0 rfl rfl))) fun v29 hv29 => ?_
          have bv29 : 0 ≤ v29 ∧ v29 ≤ 1440 := mem_rng hv29 (by decide)
          have bv290 := bv29.1
          have bv291 := bv29.2
          clear bv29
          refine wl_ov (ov_assign rfl) rfl ?_
          refine wl_nil ?_
          refine nx_then ?_
          refine gw_seq ?_
          refine gw_region ?_
          refine wl_ov (ov_move rfl) rfl ?_
          refine wl_ov (ov_move rfl) rfl ?_
          refine wl_ov (ov_move rfl) rfl ?_
          refine wl_ov (ov_move rfl) rfl ?_
          refine wl_got (γ := Int) (val := fun v => .int .i64 v) (φ := fun v => v29 ≤ v ∧ (v ≤ 1440 ∨ v = v29)) rfl cb47 rfl rfl rfl rfl (fun wx hm => (range_any _ _ wx B sb _ hm.k (by omega) (by omega) (by omega) (by omega) (by omega))) fun v30 hv30 => ?_
          refine wl_ov (ov_build (cs := [.int .i64 v29, .int .i64 v30]) rfl (by kernel_rfl)) rfl ?_
          refine wl_ov (ov_field fo56_1 rfl rfl) rfl ?_
          refine wl_ov (ov_indexP (j := 6) ar54 rfl rfl (by decide) rfl) rfl ?_
          refine wl_stores (cs' := [.string nm, .int .i64 h0, .int .i64 h1, .int .i64 h2, .int .i64 h3, .int .i64 h4, .int .i64 h5, .int .i64 h6, .int .i64 h7, .int .i64 h8, .int .i64 h9, .int .i64 h10, .int .i64 h11, .int .i64 v29, .int .i64 v30]) 1 rz31 rfl rfl rfl rfl rfl rfl rfl rfl ?_
          refine wl_nil ?_
          refine nx_then ?_
          refine gw_seq ?_
          refine gw_region ?_
          refine wl_ov (ov_move rfl) rfl ?_
          refine wl_got (γ := Bool) (val := fun v => .bool v) (φ := fun v => True) rfl cb8 rfl rfl rfl rfl (fun wx hm => ((flip_any _ wx B sb _ hm.k (by omega) (by omega) (by omega)).mono fun _ _ ⟨v, he, hS, hg⟩ => ⟨v, trivial, he, hS, hg⟩)) fun f31 _ => ?_
          refine wl_nil ?_
          refine nx_then ?_
          refine gw_cond rfl (fun hh => ?_) (fun hh => ?_)
          · have hf4 : f31 = true := by simpa using hh
            clear hh
            refine gw_region ?_
            refine wl_ov (ov_move rfl) rfl ?_
            refine wl_ov (ov_move rfl) rfl ?_
            refine wl_ov (ov_field fo56_1 rfl rfl) rfl ?_
            refine wl_ov (ov_indexP (j := 6) ar54 rfl rfl (by decide) rfl) rfl ?_
            refine wl_ov (ov_field fo31_1 rfl rfl) rfl ?_
            refine wl_store 1 sc3 rfl rfl rfl rfl rfl rfl ?_
            refine wl_nil ?_
            refine nx_blk_nrm ?_
            refine nx_then ?_
            refine gw_region ?_
            refine wl_ov (ov_add rfl rfl (by omega) (by omega)) rfl ?_
            refine wl_set 40 (v' := .int .i64 7) rfl rfl ?_
            refine wl_ov (ov_move rfl) rfl ?_
            refine wl_nil ?_
            exact nx_round (7, h0, h1, h2, h3, h4, h5, h6, h7, h8, h9, h10, h11, v29, v29) ⟨by dsimp only; omega, b0, b1, b2, b3, b4, b5, b6, b7, b8, b9, b10, b11, (by unfold Bd; dsimp only; omega), (by unfold Bd; dsimp only; omega)⟩ (by dsimp only; omega) ⟨rfl, rfl, rfl, rfl, rfl, rfl, rfl, rfl, trivial⟩ (fun _ hm => (hm.more rfl (by first | omega | (dsimp only; omega))).pick [1, 2] [0] [] rfl rfl)
          · have hf4 : f31 = false := by simpa using hh
            clear hh
            refine gw_skip ?_
            refine nx_blk_nrm ?_
            refine nx_then ?_
            refine gw_region ?_
            refine wl_ov (ov_add rfl rfl (by omega) (by omega)) rfl ?_
            refine wl_set 40 (v' := .int .i64 7) rfl rfl ?_
            refine wl_ov (ov_move rfl) rfl ?_
            refine wl_nil ?_
            exact nx_round (7, h0, h1, h2, h3, h4, h5, h6, h7, h8, h9, h10, h11, v29, v30) ⟨by dsimp only; omega, b0, b1, b2, b3, b4, b5, b6, b7, b8, b9, b10, b11, (by unfold Bd; dsimp only; omega), (by unfold Bd; dsimp only; omega)⟩ (by dsimp only; omega) ⟨rfl, rfl, rfl, rfl, rfl, rfl, rfl, rfl, trivial⟩ (fun _ hm => (hm.more rfl (by first | omega | (dsimp only; omega))).pick [1, 2] [0] [] rfl rfl)
      · have hj : ¬ (((j : Nat) : Int) < 7) := by simpa using hh
        clear hh
        refine gw_exit ?_
        refine nx_then_exit ?_
        refine nx_then_exit ?_
        refine nx_blk_here ?_
        refine nx_then ?_
        refine gw_region ?_
        have hall : ∀ x ∈ [h0, h1, h2, h3, h4, h5, h6, h7, h8, h9, h10, h11, h12, h13], -3000 ≤ x ∧ x ≤ 3000 := bd_all ⟨b0, b1, b2, b3, b4, b5, b6, b7, b8, b9, b10, b11, b12, b13⟩
        refine wl_ov (ov_move rfl) rfl ?_
        refine wl_ov (ov_loads rz56 rfl (fun _ hm => hm.blkI 0 rfl) rfl rfl) rfl ?_
        refine wl_buildSlice (e := 56) (cs := [.string nm, .int .i64 h0, .int .i64 h1, .int .i64 h2, .int .i64 h3, .int .i64 h4, .int .i64 h5, .int .i64 h6, .int .i64 h7, .int .i64 h8, .int .i64 h9, .int .i64 h10, .int .i64 h11, .int .i64 h12, .int .i64 h13]) rfl (by kernel_rfl) rfl fun g32 => ?_
        refine wl_append (news := [.string nm, .int .i64 h0, .int .i64 h1, .int .i64 h2, .int .i64 h3, .int .i64 h4, .int .i64 h5, .int .i64 h6, .int .i64 h7, .int .i64 h8, .int .i64 h9, .int .i64 h10, .int .i64 h11, .int .i64 h12, .int .i64 h13]) 0 0 ap60 rfl rfl rfl rfl rfl rfl rfl (by omega) (by unfold maxLen; omega) rfl rfl fun v2 hv2 => ?_
        refine wl_ov (ov_assign rfl) rfl ?_
        refine wl_nil ?_
        refine nx_blk_nrm ?_
        refine nx_then ?_
        refine gw_region ?_
        refine wl_ov (ov_add rfl rfl (by omega) (by omega)) rfl ?_
        refine wl_ov (ov_move rfl) rfl ?_
        refine wl_nil ?_
        exact nx_round (i + 1, k + 1, v2, l ++ [⟨nm, [h0, h1, h2, h3, h4, h5, h6, h7, h8, h9, h10, h11, h12, h13]⟩], l.flatMap stEnc ++ ([.string nm, .int .i64 h0, .int .i64 h1, .int .i64 h2, .int .i64 h3, .int .i64 h4, .int .i64 h5, .int .i64 h6, .int .i64 h7, .int .i64 h8, .int .i64 h9, .int .i64 h10, .int .i64 h11, .int .i64 h12, .int .i64 h13] : List Value)) ⟨by dsimp only; omega, by dsimp only; omega, by simp [hl], stB_snoc hok ⟨rfl, hnm2, hall⟩, by simp [stEnc, stCells]⟩ (by dsimp only; omega) ⟨rfl, rfl, rfl, rfl, rfl, (some_int (by omega)), trivial⟩ (fun _ hm => (hm.more rfl (by first | omega | (dsimp only; omega))).pick [2] [0] [] rfl rfl)
  · have hi : ¬ (((i : Nat) : Int) < 3) := by simpa using hh
    clear hh
    refine gw_exit ?_
    refine nx_then_exit ?_
    refine nx_then_exit ?_
    refine nx_blk_here ?_
    refine nx_then ?_
    refine gw_seq ?_
    refine gw_region ?_
    refine wl_look (R := ∃ A cc, v = .slice A k cc) (fun wx hm => own_slice (hm.ownI 0 rfl)) ?_
    rintro ⟨A, c, rfl⟩
    refine wl_ov (ov_move rfl) rfl ?_
    refine wl_ov (ov_assign rfl) rfl ?_
    refine wl_nil ?_
    refine nx_then ?_
    refine gw_ret ?_
    refine nx_ret1 rfl rfl fun wx hm => ?_
    exact ⟨A, k, c, l, rfl, hm.ownI 0 rfl, hl, hok, by omega, hm.k.more (by omega), hm.g⟩

end Go.Proofs.YtcggbojhalbkjaaDoor
