/- The walk of the law BookingsFree. -/
import Derived.Test.YtcggbojhalbkjaaGreatDoorBv
import Derived.Test.YtcggbojhalbkjaaGreatDoorSg
import Derived.Test.YtcggbojhalbkjaaGreatDoorBd
namespace Go.Proofs.YtcggbojhalbkjaaGreatDoor
open Go.RowKit

theorem busy_ref {cs : List Cs} {l : List Bk} {q : ByteArray} (h : busyE cs l q = 0) : busyP cs l q = refF (onT (timT q l)) (l.map Bk.fr) := by
  have hb := busyE_ok h
  have ht := timT_ok hb q
  unfold busyP busyT
  rw [if_pos h]
  refine busy_same (fun t ht' => ⟨(ht t ht').1, (ht t ht').2.1⟩) (fun t ht' => ?_) (fun x => ?_) (sortI_pair _)
  · obtain ⟨b, hb', _, rfl⟩ := timT_mem.1 ht'
    exact List.mem_map.2 ⟨b, hb', rfl⟩
  · rw [sortI_mem, List.mem_cons, frsM_mem]
    refine or_congr Iff.rfl ⟨fun ⟨t, h1, h2, _⟩ => ⟨t, h1, h2⟩, fun ⟨t, h1, h2⟩ => ⟨t, h1, h2, ?_⟩⟩
    have := ht t h1
    omega
theorem free_ref {cs : List Cs} {sl : List Sk} {l : List Bk} {q : ByteArray} {a b : Int} (h : freeE cs sl l q a b = 0) : freeP cs sl l q a b = freeV sl l q a b := by
  obtain ⟨hb, h0, h1, h2⟩ := freeE_ok h
  unfold freeP freeV busyT
  rw [if_pos h]
  congr 1
  refine free_same (b := b) (fun t ht' hab => ?_) (fun x hx => ?_) (fun x => ?_) (sortI_pair _)
  · obtain ⟨c, hc, _, rfl⟩ := timT_mem.1 ht'
    exact frsM_mem.2 ⟨_, List.mem_map.2 ⟨c, hc, rfl⟩, rfl, hab.1, hab.2⟩
  · obtain ⟨_, _, _, h3, h4⟩ := frsM_mem.1 hx
    exact ⟨h3, h4⟩
  · rw [sortI_mem, List.mem_cons, frsM_mem]
theorem sk_snoc {l : List Sk} {x : Sk} (h : ∀ y ∈ l, SkOk y) (hx : SkOk x) : ∀ y ∈ l ++ [x], SkOk y := fun y hy => by
  rcases List.mem_append.1 hy with hy | hy
  · exact h y hy
  · rw [List.mem_singleton.1 hy]; exact hx

set_option maxRecDepth 100000 in
set_option maxHeartbeats 400000 in
theorem gclassKeyB_any (w : World) (B sb m : Nat) (hS : Strm 25 w B sb m) (hm : m ≤ 100000000) :
    Calls Tryz.prog 16 #[.pointer (some ⟨sb, 0, none⟩)] w (fun e w' => ∃ v : ByteArray, e = .returned (.string v) ∧ v.size ≤ 100 ∧ Strm 25 w' B sb (m + 1) ∧ w.grownBy w' (some sb)) := by
  refine gw_enter ⟨6, w, (some sb), []⟩ Tryz.func16 rfl Tryz.ntmps16 rfl (memS (X := []) hS allF_nil allL_nil) ?_
  refine gw_seq ?_
  refine gw_region ?_
  refine wl_ov (ov_assign rfl) rfl ?_
  refine wl_nil ?_
  refine nx_then ?_
  refine gw_seq ?_
  refine gw_region ?_
  refine wl_ov (ov_move rfl) rfl ?_
  refine wl_buildSlice (e := 9) (cs := [.string ⟨#[109, 105, 110, 105]⟩, .string ⟨#[109, 105, 110, 105]⟩, .string ⟨#[109, 105, 100, 105]⟩, .string ⟨#[109, 97, 120, 105]⟩, .string ⟨#[98, 105, 103]⟩, .string ⟨#[109, 105, 110, 105]⟩, .string ⟨#[110, 111, 110, 101]⟩, .string ⟨#[]⟩, .string ⟨#[65]⟩]) rfl (by kernel_rfl) rfl fun g1 => ?_
  refine wl_got (γ := ByteArray) (val := fun v => .string v) (φ := fun v => v ∈ ([⟨#[109, 105, 110, 105]⟩, ⟨#[109, 105, 110, 105]⟩, ⟨#[109, 105, 100, 105]⟩, ⟨#[109, 97, 120, 105]⟩, ⟨#[98, 105, 103]⟩, ⟨#[109, 105, 110, 105]⟩, ⟨#[110, 111, 110, 101]⟩, ⟨#[]⟩, ⟨#[65]⟩] : List ByteArray)) rfl cb48 rfl rfl rfl rfl (fun wx hm => (some_any [⟨#[109, 105, 110, 105]⟩, ⟨#[109, 105, 110, 105]⟩, ⟨#[109, 105, 100, 105]⟩, ⟨#[109, 97, 120, 105]⟩, ⟨#[98, 105, 103]⟩, ⟨#[109, 105, 110, 105]⟩, ⟨#[110, 111, 110, 101]⟩, ⟨#[]⟩, ⟨#[65]⟩] _ _ _ wx B sb _ hm.k (by omega) (by simp) (by simp) (hm.blkI 0 rfl) (hm.neRow 0 rfl rfl))) fun s2 hs2 => ?_
  have zs2 : s2.size ≤ 100 := mem_sz hs2 (by decide)
  refine wl_ov (ov_assign rfl) rfl ?_
  refine wl_nil ?_
  refine nx_then ?_
  refine gw_ret ?_
  refine nx_ret1 rfl rfl fun wx hm => ?_
  exact ⟨s2, rfl, by omega, hm.k, hm.g⟩

set_option maxRecDepth 100000 in
set_option maxHeartbeats 1000000 in
theorem gwindowB_any (w : World) (B sb m : Nat) (hS : Strm 25 w B sb m) (hm : m ≤ 100000000) :
    Calls Tryz.prog 17 #[.pointer (some ⟨sb, 0, none⟩)] w (fun e w' => ∃ a b : Int, e = .returned (.agg #[.int .i64 a, .int .i64 b]) ∧ (-2000000000000000 ≤ a ∧ a ≤ 2000000000000000) ∧ (-2000000000000000 ≤ b ∧ b ≤ 2000000000000000) ∧ Strm 25 w' B sb (m + 20) ∧ w.grownBy w' (some sb)) := by
  refine gw_enter ⟨30, w, (some sb), []⟩ Tryz.func17 rfl Tryz.ntmps17 rfl (memS (X := []) hS allF_nil allL_nil) ?_
  refine gw_seq ?_
  refine gw_region ?_
  refine wl_alloc zc35 rfl fun g1 => ?_
  refine wl_nil ?_
  refine nx_then ?_
  refine gw_seq ?_
  refine gw_region ?_
  refine wl_ov (ov_move rfl) rfl ?_
  refine wl_buildSlice (e := 3) (cs := [.int .i64 0, .int .i64 0, .int .i64 10, .int .i64 100, .int .i64 400, .int .i64 1440, .int .i64 5000, .int .i64 10080]) rfl (by kernel_rfl) rfl fun g2 => ?_
  refine wl_got (γ := Int) (val := fun v => .int .i64 v) (φ := fun v => v ∈ ([0, 0, 10, 100, 400, 1440, 5000, 10080] : List Int)) rfl cb32 rfl rfl rfl rfl (fun wx hm => (pick_any [0, 0, 10, 100, 400, 1440, 5000, 10080] _ _ _ wx B sb _ hm.k (by omega) (by simp) (by simp) (hm.blkI 0 rfl) (hm.neRow 0 rfl rfl))) fun v3 hv3 => ?_
  have bv3 : 0 ≤ v3 ∧ v3 ≤ 10080 := mem_rng hv3 (by decide)
  have bv30 := bv3.1
  have bv31 := bv3.2
  clear bv3
  refine wl_ov (ov_move rfl) rfl ?_
  refine wl_buildSlice (e := 3) (cs := [.int .i64 0, .int .i64 10, .int .i64 100, .int .i64 400, .int .i64 1000, .int .i64 10080, .int .i64 30000, .int .i64 5761440]) rfl (by kernel_rfl) rfl fun g4 => ?_
  refine wl_got (γ := Int) (val := fun v => .int .i64 v) (φ := fun v => v ∈ ([0, 10, 100, 400, 1000, 10080, 30000, 5761440] : List Int)) rfl cb32 rfl rfl rfl rfl (fun wx hm => (pick_any [0, 10, 100, 400, 1000, 10080, 30000, 5761440] _ _ _ wx B sb _ hm.k (by omega) (by simp) (by simp) (hm.blkI 0 rfl) (hm.neRow 0 rfl rfl))) fun v5 hv5 => ?_
  have bv5 : 0 ≤ v5 ∧ v5 ≤ 5761440 := mem_rng hv5 (by decide)
  have bv50 := bv5.1
  have bv51 := bv5.2
  clear bv5
  refine wl_ov (ov_assign rfl) rfl ?_
  refine wl_ov (ov_assign rfl) rfl ?_
  refine wl_nil ?_
  refine nx_then ?_
  refine gw_seq ?_
  refine gw_seq ?_
  refine gw_region ?_
  refine wl_ov (ov_move rfl) rfl ?_
  refine wl_ov (ov_move rfl) rfl ?_
  refine wl_ov (ov_gtr rfl rfl) rfl ?_
  refine wl_ov (ov_move rfl) rfl ?_
  rcases Bool.eq_false_or_eq_true (decide (v5 < v3)) with hg0 | hg0
  · refine wl_set 14 rfl (congrArg Value.bool hg0) ?_
    refine wl_guard_on rfl rfl rfl ?_
    refine wl_ov (ov_move rfl) rfl ?_
    refine wl_guard_on rfl rfl rfl ?_
    refine wl_got (γ := Bool) (val := fun v => .bool v) (φ := fun v => True) rfl cb83 rfl rfl rfl rfl (fun wx hm => ((flip_any _ wx B sb _ hm.k (by omega) (by omega) (by omega)).mono fun _ _ ⟨v, he, hS, hg⟩ => ⟨v, trivial, he, hS, hg⟩)) fun f6 _ => ?_
    refine wl_guard_on rfl rfl rfl ?_
    refine wl_ov (ov_un_not rfl) rfl ?_
    refine wl_ov (ov_pick_t rfl rfl) rfl ?_
    refine wl_nil ?_
    refine nx_then ?_
    refine gw_cond rfl (fun hh => ?_) (fun hh => ?_)
    · have hc1 : f6 = false := by simpa using hh
      clear hh
      refine gw_region ?_
      refine wl_ov (ov_move rfl) rfl ?_
      refine wl_ov (ov_move rfl) rfl ?_
      refine wl_ov (ov_assign rfl) rfl ?_
      refine wl_ov (ov_assign rfl) rfl ?_
      refine wl_nil ?_
      refine nx_then ?_
      refine gw_seq ?_
      refine gw_seq ?_
      refine gw_region ?_
      refine wl_ov (ov_move rfl) rfl ?_
      refine wl_got (γ := Bool) (val := fun v => .bool v) (φ := fun v => True) rfl cb83 rfl rfl rfl rfl (fun wx hm => ((flip_any _ wx B sb _ hm.k (by omega) (by omega) (by omega)).mono fun _ _ ⟨v, he, hS, hg⟩ => ⟨v, trivial, he, hS, hg⟩)) fun f7 _ => ?_
      refine wl_nil ?_
      refine nx_then ?_
      refine gw_cond rfl (fun hh => ?_) (fun hh => ?_)
      · have hc2 : f7 = true := by simpa using hh
        clear hh
        refine gw_region ?_
        refine wl_ov (ov_move rfl) rfl ?_
        refine wl_got (γ := Int) (val := fun v => .int .i64 v) (φ := fun v => -2000000000000000 ≤ v ∧ v ≤ 2000000000000000) rfl cb84 rfl rfl rfl rfl (fun wx hm => (odd_any _ _ wx B sb _ hm.k (by omega) (by omega) (by omega) (by omega))) fun v8 hv8 => ?_
        refine wl_ov (ov_move rfl) rfl ?_
        refine wl_got (γ := Int) (val := fun v => .int .i64 v) (φ := fun v => -2000000000000000 ≤ v ∧ v ≤ 2000000000000000) rfl cb84 rfl rfl rfl rfl (fun wx hm => (odd_any _ _ wx B sb _ hm.k (by omega) (by omega) (by omega) (by omega))) fun v9 hv9 => ?_
        refine wl_ov (ov_assign rfl) rfl ?_
        refine wl_ov (ov_assign rfl) rfl ?_
        refine wl_nil ?_
        refine nx_then ?_
        refine gw_seq ?_
        refine gw_region ?_
        refine wl_ov (ov_move rfl) rfl ?_
        refine wl_ov (ov_move rfl) rfl ?_
        refine wl_ov (ov_build (cs := [.int .i64 v8, .int .i64 v9]) rfl (by kernel_rfl)) rfl ?_
        refine wl_stores (cs' := [.int .i64 v8, .int .i64 v9]) 2 rz35 rfl rfl rfl rfl rfl rfl rfl rfl ?_
        refine wl_nil ?_
        refine nx_then ?_
        refine gw_ret ?_
        refine nx_retc 2 rfl rz35 rfl rfl rfl fun wx hm => ?_
        exact ⟨v8, v9, rfl, ⟨by omega, by omega⟩, ⟨by omega, by omega⟩, hm.k.more (by omega), hm.g⟩
      · have hc2 : f7 = false := by simpa using hh
        clear hh
        refine gw_skip ?_
        refine nx_then ?_
        refine gw_seq ?_
        refine gw_region ?_
        refine wl_ov (ov_move rfl) rfl ?_
        refine wl_ov (ov_move rfl) rfl ?_
        refine wl_ov (ov_build (cs := [.int .i64 v5, .int .i64 v3]) rfl (by kernel_rfl)) rfl ?_
        refine wl_stores (cs' := [.int .i64 v5, .int .i64 v3]) 2 rz35 rfl rfl rfl rfl rfl rfl rfl rfl ?_
        refine wl_nil ?_
        refine nx_then ?_
        refine gw_ret ?_
        refine nx_retc 2 rfl rz35 rfl rfl rfl fun wx hm => ?_
        exact ⟨v5, v3, rfl, ⟨by omega, by omega⟩, ⟨by omega, by omega⟩, hm.k.more (by omega), hm.g⟩
    · have hc1 : f6 = true := by simpa using hh
      clear hh
      refine gw_skip ?_
      refine nx_then ?_
      refine gw_seq ?_
      refine gw_seq ?_
      refine gw_region ?_
      refine wl_ov (ov_move rfl) rfl ?_
      refine wl_got (γ := Bool) (val := fun v => .bool v) (φ := fun v => True) rfl cb83 rfl rfl rfl rfl (fun wx hm => ((flip_any _ wx B sb _ hm.k (by omega) (by omega) (by omega)).mono fun _ _ ⟨v, he, hS, hg⟩ => ⟨v, trivial, he, hS, hg⟩)) fun f10 _ => ?_
      refine wl_nil ?_
      refine nx_then ?_
      refine gw_cond rfl (fun hh => ?_) (fun hh => ?_)
      · have hc2 : f10 = true := by simpa using hh
        clear hh
        refine gw_region ?_
        refine wl_ov (ov_move rfl) rfl ?_
        refine wl_got (γ := Int) (val := fun v => .int .i64 v) (φ := fun v => -2000000000000000 ≤ v ∧ v ≤ 2000000000000000) rfl cb84 rfl rfl rfl rfl (fun wx hm => (odd_any _ _ wx B sb _ hm.k (by omega) (by omega) (by omega) (by omega))) fun v11 hv11 => ?_
        refine wl_ov (ov_move rfl) rfl ?_
        refine wl_got (γ := Int) (val := fun v => .int .i64 v) (φ := fun v => -2000000000000000 ≤ v ∧ v ≤ 2000000000000000) rfl cb84 rfl rfl rfl rfl (fun wx hm => (odd_any _ _ wx B sb _ hm.k (by omega) (by omega) (by omega) (by omega))) fun v12 hv12 => ?_
        refine wl_ov (ov_assign rfl) rfl ?_
        refine wl_ov (ov_assign rfl) rfl ?_
        refine wl_nil ?_
        refine nx_then ?_
        refine gw_seq ?_
        refine gw_region ?_
        refine wl_ov (ov_move rfl) rfl ?_
        refine wl_ov (ov_move rfl) rfl ?_
        refine wl_ov (ov_build (cs := [.int .i64 v11, .int .i64 v12]) rfl (by kernel_rfl)) rfl ?_
        refine wl_stores (cs' := [.int .i64 v11, .int .i64 v12]) 2 rz35 rfl rfl rfl rfl rfl rfl rfl rfl ?_
        refine wl_nil ?_
        refine nx_then ?_
        refine gw_ret ?_
        refine nx_retc 2 rfl rz35 rfl rfl rfl fun wx hm => ?_
        exact ⟨v11, v12, rfl, ⟨by omega, by omega⟩, ⟨by omega, by omega⟩, hm.k.more (by omega), hm.g⟩
      · have hc2 : f10 = false := by simpa using hh
        clear hh
        refine gw_skip ?_
        refine nx_then ?_
        refine gw_seq ?_
        refine gw_region ?_
        refine wl_ov (ov_move rfl) rfl ?_
        refine wl_ov (ov_move rfl) rfl ?_
        refine wl_ov (ov_build (cs := [.int .i64 v3, .int .i64 v5]) rfl (by kernel_rfl)) rfl ?_
        refine wl_stores (cs' := [.int .i64 v3, .int .i64 v5]) 2 rz35 rfl rfl rfl rfl rfl rfl rfl rfl ?_
        refine wl_nil ?_
        refine nx_then ?_
        refine gw_ret ?_
        refine nx_retc 2 rfl rz35 rfl rfl rfl fun wx hm => ?_
        exact ⟨v3, v5, rfl, ⟨by omega, by omega⟩, ⟨by omega, by omega⟩, hm.k.more (by omega), hm.g⟩
  · refine wl_set 14 rfl (congrArg Value.bool hg0) ?_
    refine wl_guard_off rfl rfl rfl (by decide) rfl ?_
    refine wl_guard_off rfl rfl rfl (by decide) rfl ?_
    refine wl_guard_off rfl rfl rfl (by decide) rfl ?_
    refine wl_ov (ov_pick_f rfl rfl) rfl ?_
    refine wl_nil ?_
    refine nx_then ?_
    refine gw_cond rfl (fun hh => by cases hh) (fun _ => ?_)
    refine gw_skip ?_
    refine nx_then ?_
    refine gw_seq ?_
    refine gw_seq ?_
    refine gw_region ?_
    refine wl_ov (ov_move rfl) rfl ?_
    refine wl_got (γ := Bool) (val := fun v => .bool v) (φ := fun v => True) rfl cb83 rfl rfl rfl rfl (fun wx hm => ((flip_any _ wx B sb _ hm.k (by omega) (by omega) (by omega)).mono fun _ _ ⟨v, he, hS, hg⟩ => ⟨v, trivial, he, hS, hg⟩)) fun f13 _ => ?_
    refine wl_nil ?_
    refine nx_then ?_
    refine gw_cond rfl (fun hh => ?_) (fun hh => ?_)
    · have hc1 : f13 = true := by simpa using hh
      clear hh
      refine gw_region ?_
      refine wl_ov (ov_move rfl) rfl ?_
      refine wl_got (γ := Int) (val := fun v => .int .i64 v) (φ := fun v => -2000000000000000 ≤ v ∧ v ≤ 2000000000000000) rfl cb84 rfl rfl rfl rfl (fun wx hm => (odd_any _ _ wx B sb _ hm.k (by omega) (by omega) (by omega) (by omega))) fun v14 hv14 => ?_
      refine wl_ov (ov_move rfl) rfl ?_
      refine wl_got (γ := Int) (val := fun v => .int .i64 v) (φ := fun v => -2000000000000000 ≤ v ∧ v ≤ 2000000000000000) rfl cb84 rfl rfl rfl rfl (fun wx hm => (odd_any _ _ wx B sb _ hm.k (by omega) (by omega) (by omega) (by omega))) fun v15 hv15 => ?_
      refine wl_ov (ov_assign rfl) rfl ?_
      refine wl_ov (ov_assign rfl) rfl ?_
      refine wl_nil ?_
      refine nx_then ?_
      refine gw_seq ?_
      refine gw_region ?_
      refine wl_ov (ov_move rfl) rfl ?_
      refine wl_ov (ov_move rfl) rfl ?_
      refine wl_ov (ov_build (cs := [.int .i64 v14, .int .i64 v15]) rfl (by kernel_rfl)) rfl ?_
      refine wl_stores (cs' := [.int .i64 v14, .int .i64 v15]) 2 rz35 rfl rfl rfl rfl rfl rfl rfl rfl ?_
      refine wl_nil ?_
      refine nx_then ?_
      refine gw_ret ?_
      refine nx_retc 2 rfl rz35 rfl rfl rfl fun wx hm => ?_
      exact ⟨v14, v15, rfl, ⟨by omega, by omega⟩, ⟨by omega, by omega⟩, hm.k.more (by omega), hm.g⟩
    · have hc1 : f13 = false := by simpa using hh
      clear hh
      refine gw_skip ?_
      refine nx_then ?_
      refine gw_seq ?_
      refine gw_region ?_
      refine wl_ov (ov_move rfl) rfl ?_
      refine wl_ov (ov_move rfl) rfl ?_
      refine wl_ov (ov_build (cs := [.int .i64 v3, .int .i64 v5]) rfl (by kernel_rfl)) rfl ?_
      refine wl_stores (cs' := [.int .i64 v3, .int .i64 v5]) 2 rz35 rfl rfl rfl rfl rfl rfl rfl rfl ?_
      refine wl_nil ?_
      refine nx_then ?_
      refine gw_ret ?_
      refine nx_retc 2 rfl rz35 rfl rfl rfl fun wx hm => ?_
      exact ⟨v3, v5, rfl, ⟨by omega, by omega⟩, ⟨by omega, by omega⟩, hm.k.more (by omega), hm.g⟩

set_option maxRecDepth 100000 in
set_option maxHeartbeats 2000000 in
theorem gstock_any (w : World) (B sb m : Nat) (hS : Strm 25 w B sb m) (hm : m ≤ 100000000) :
    Calls Tryz.prog 78 #[.pointer (some ⟨sb, 0, none⟩)] w (fun e w' => ∃ (A : Option Addr) (n c : Nat) (l : List Sk), e = .returned (.slice A n c) ∧ w'.ownsRow w.heap.size 139 2 (.slice A n c) n (l.flatMap skEnc) ∧ l.length = n ∧ (∀ x ∈ l, SkOk x) ∧ n ≤ 5 ∧ Strm 25 w' B sb (m + 100) ∧ w.grownBy w' (some sb)) := by
  refine gw_enter ⟨36, w, (some sb), []⟩ Tryz.func78 rfl Tryz.ntmps78 rfl (memS (X := []) hS allF_nil allL_nil) ?_
  refine gw_seq ?_
  refine gw_region ?_
  refine wl_nilOwn 139 2 ?_
  refine wl_ov (ov_assign rfl) rfl ?_
  refine wl_nil ?_
  refine nx_then ?_
  refine gw_seq ?_
  refine gw_region ?_
  refine wl_ov (ov_assign rfl) rfl ?_
  refine wl_nil ?_
  refine nx_then ?_
  refine gw_seq ?_
  refine gw_seq ?_
  refine gw_region ?_
  refine wl_buildSlice (e := 9) (cs := [.string ⟨#[98, 105, 103]⟩, .string ⟨#[109, 97, 120, 105]⟩, .string ⟨#[109, 105, 100, 105]⟩, .string ⟨#[109, 105, 110, 105]⟩]) rfl (by kernel_rfl) rfl fun g1 => ?_
  refine wl_ov (ov_len es36 rfl) rfl ?_
  refine wl_set 7 (v' := .int .i64 4) rfl rfl ?_
  refine wl_ov (ov_move rfl) rfl ?_
  refine wl_nil ?_
  refine nx_then ?_
  refine gw_block ?_
  refine gw_loop (γ := Nat × Nat × Value × List Sk × List Value) (fun (g : Nat × Nat × Value × List Sk × List Value) => g.1 ≤ 4 ∧ g.2.1 ≤ g.1 ∧ g.2.2.2.1.length = g.2.1 ∧ (∀ x ∈ g.2.2.2.1, SkOk x) ∧ g.2.2.2.2 = g.2.2.2.1.flatMap skEnc) (fun (g : Nat × Nat × Value × List Sk × List Value) => [(0, .pointer (some ⟨sb, 0, none⟩)), (2, .slice none 0 0), (3, g.2.2.1), (6, .slice (some ⟨g1, 0, none⟩) 4 4), (7, .int .i64 4), (8, .int .i64 ((g.1 : Nat) : Int))]) (fun (g : Nat × Nat × Value × List Sk × List Value) => fun w => Strm 25 w B sb (m + 2 * g.1)) (fun (g : Nat × Nat × Value × List Sk × List Value) => [(g1, 9, [.string ⟨#[98, 105, 103]⟩, .string ⟨#[109, 97, 120, 105]⟩, .string ⟨#[109, 105, 100, 105]⟩, .string ⟨#[109, 105, 110, 105]⟩])]) (fun (g : Nat × Nat × Value × List Sk × List Value) => [⟨g.2.2.1, 139, 2, g.2.1, g.2.2.2.2⟩]) (fun (g : Nat × Nat × Value × List Sk × List Value) => []) (fun (g : Nat × Nat × Value × List Sk × List Value) => 4 - g.1) (0, 0, .slice none 0 0, [], []) ⟨Nat.zero_le _, Nat.le_refl _, rfl, (fun _ h => by cases h), rfl⟩ ⟨rfl, rfl, rfl, rfl, rfl, rfl, trivial⟩ (fun _ hm => (hm.more rfl (by first | omega | (dsimp only; omega))).pick [0] [0] [] rfl rfl) ?_
  rintro ⟨i, k, v, l, xs⟩ hinv
  replace hinv : i ≤ 4 ∧ k ≤ i ∧ l.length = k ∧ (∀ x ∈ l, SkOk x) ∧ xs = l.flatMap skEnc := hinv
  dsimp only
  refine gw_seq ?_
  refine gw_region ?_
  obtain ⟨hi0, hki, hl, hok, rfl⟩ := hinv
  refine wl_ov (ov_lss rfl rfl) rfl ?_
  refine wl_nil ?_
  refine nx_then ?_
  refine gw_seq ?_
  refine gw_cond rfl (fun hh => ?_) (fun hh => ?_)
  · have hi : ((i : Nat) : Int) < 4 := by simpa using hh
    clear hh
    refine gw_skip ?_
    refine nx_then ?_
    refine gw_seq ?_
    refine gw_block ?_
    refine gw_seq ?_
    refine gw_region ?_
    obtain ⟨nm, hx⟩ : ∃ x, ([⟨#[98, 105, 103]⟩, ⟨#[109, 97, 120, 105]⟩, ⟨#[109, 105, 100, 105]⟩, ⟨#[109, 105, 110, 105]⟩] : List ByteArray)[i]? = some x := ⟨_, List.getElem?_eq_getElem (by simp; omega)⟩
    have hnm : nm.size ≤ 100 := mem_sz (List.mem_of_getElem? hx) (by decide)
    refine wl_ov (ov_index (j := i) es36 rfl rfl (by omega)) rfl ?_
    refine wl_ov (ov_elem1 (k := 0) (v := .string nm) sc9 rfl (fun _ hm => (SlT.ofBlk (l := [⟨#[98, 105, 103]⟩, ⟨#[109, 97, 120, 105]⟩, ⟨#[109, 105, 100, 105]⟩, ⟨#[109, 105, 110, 105]⟩]) sg_len (hm.blkI 0 rfl))) hx rfl rfl) rfl ?_
    refine wl_ov (ov_assign rfl) rfl ?_
    refine wl_nil ?_
    refine nx_then ?_
    refine gw_seq ?_
    refine gw_region ?_
    refine wl_ov (ov_move rfl) rfl ?_
    refine wl_got (γ := Bool) (val := fun v => .bool v) (φ := fun v => True) rfl cb83 rfl rfl rfl rfl (fun wx hm => ((flip_any _ wx B sb _ hm.k (by omega) (by omega) (by omega)).mono fun _ _ ⟨v, he, hS, hg⟩ => ⟨v, trivial, he, hS, hg⟩)) fun f2 _ => ?_
    refine wl_ov (ov_un_not rfl) rfl ?_
    refine wl_nil ?_
    refine nx_then ?_
    refine gw_cond rfl (fun hh => ?_) (fun hh => ?_)
    · have hf : f2 = false := by simpa using hh
      clear hh
      refine gw_region ?_
      refine wl_ov (ov_move rfl) rfl ?_
      refine wl_ov (ov_move rfl) rfl ?_
      refine wl_ov (ov_move rfl) rfl ?_
      refine wl_buildSlice (e := 3) (cs := [.int .i64 0, .int .i64 1, .int .i64 1, .int .i64 2, .int .i64 3]) rfl (by kernel_rfl) rfl fun g3 => ?_
      refine wl_got (γ := Int) (val := fun v => .int .i64 v) (φ := fun v => v ∈ ([0, 1, 1, 2, 3] : List Int)) rfl cb32 rfl rfl rfl rfl (fun wx hm => (pick_any [0, 1, 1, 2, 3] _ _ _ wx B sb _ hm.k (by omega) (by simp) (by simp) (hm.blkI 0 rfl) (hm.neRow 0 rfl rfl))) fun v4 hv4 => ?_
      have bv4 : 0 ≤ v4 ∧ v4 ≤ 3 := mem_rng hv4 (by decide)
      have bv40 := bv4.1
      have bv41 := bv4.2
      clear bv4
      refine wl_ov (ov_build (cs := [.string nm, .int .i64 v4]) rfl (by kernel_rfl)) rfl ?_
      refine wl_buildSlice (e := 139) (cs := [.string nm, .int .i64 v4]) rfl (by kernel_rfl) rfl fun g5 => ?_
      refine wl_append (news := [.string nm, .int .i64 v4]) 0 0 ap51 rfl rfl rfl rfl rfl rfl rfl (by omega) (by unfold maxLen; omega) rfl rfl fun v2 hv2 => ?_
      refine wl_ov (ov_assign rfl) rfl ?_
      refine wl_nil ?_
      refine nx_blk_nrm ?_
      refine nx_then ?_
      refine gw_region ?_
      refine wl_ov (ov_add rfl rfl (by omega) (by omega)) rfl ?_
      refine wl_ov (ov_move rfl) rfl ?_
      refine wl_nil ?_
      exact nx_round (i + 1, k + 1, v2, l ++ [⟨nm, v4⟩], l.flatMap skEnc ++ ([.string nm, .int .i64 v4] : List Value)) ⟨by dsimp only; omega, by dsimp only; omega, by simp [hl], sk_snoc hok ⟨by dsimp only; omega, by dsimp only; omega, by dsimp only; omega⟩, by simp [skEnc]⟩ (by dsimp only; omega) ⟨rfl, rfl, rfl, rfl, rfl, (some_int (by omega)), trivial⟩ (fun _ hm => (hm.more rfl (by first | omega | (dsimp only; omega))).pick [2] [0] [] rfl rfl)
    · have hf : f2 = true := by simpa using hh
      clear hh
      refine gw_skip ?_
      refine nx_blk_nrm ?_
      refine nx_then ?_
      refine gw_region ?_
      refine wl_ov (ov_add rfl rfl (by omega) (by omega)) rfl ?_
      refine wl_ov (ov_move rfl) rfl ?_
      refine wl_nil ?_
      exact nx_round (i + 1, k, v, l, l.flatMap skEnc) ⟨by dsimp only; omega, by dsimp only; omega, hl, hok, rfl⟩ (by dsimp only; omega) ⟨rfl, rfl, rfl, rfl, rfl, (some_int (by omega)), trivial⟩ (fun _ hm => (hm.more rfl (by first | omega | (dsimp only; omega))).pick [0] [0] [] rfl rfl)
  · have hi : ¬ (((i : Nat) : Int) < 4) := by simpa using hh
    clear hh
    refine gw_exit ?_
    refine nx_then_exit ?_
    refine nx_then_exit ?_
    refine nx_blk_here ?_
    refine nx_then ?_
    refine gw_seq ?_
    refine gw_seq ?_
    refine gw_region ?_
    refine wl_ov (ov_move rfl) rfl ?_
    refine wl_got (γ := Bool) (val := fun v => .bool v) (φ := fun v => True) rfl cb83 rfl rfl rfl rfl (fun wx hm => ((flip_any _ wx B sb _ hm.k (by omega) (by omega) (by omega)).mono fun _ _ ⟨v, he, hS, hg⟩ => ⟨v, trivial, he, hS, hg⟩)) fun f6 _ => ?_
    refine wl_nil ?_
    refine nx_then ?_
    refine gw_cond rfl (fun hh => ?_) (fun hh => ?_)
    · have hf : f6 = true := by simpa using hh
      clear hh
      refine gw_region ?_
      refine wl_ov (ov_move rfl) rfl ?_
      refine wl_ov (ov_move rfl) rfl ?_
      refine wl_buildSlice (e := 9) (cs := [.string ⟨#[109, 105, 110, 105]⟩, .string ⟨#[110, 111, 110, 101]⟩, .string ⟨#[98, 105, 103]⟩]) rfl (by kernel_rfl) rfl fun g7 => ?_
      refine wl_got (γ := ByteArray) (val := fun v => .string v) (φ := fun v => v ∈ ([⟨#[109, 105, 110, 105]⟩, ⟨#[110, 111, 110, 101]⟩, ⟨#[98, 105, 103]⟩] : List ByteArray)) rfl cb48 rfl rfl rfl rfl (fun wx hm => (some_any [⟨#[109, 105, 110, 105]⟩, ⟨#[110, 111, 110, 101]⟩, ⟨#[98, 105, 103]⟩] _ _ _ wx B sb _ hm.k (by omega) (by simp) (by simp) (hm.blkI 0 rfl) (hm.neRow 0 rfl rfl))) fun s8 hs8 => ?_
      have zs8 : s8.size ≤ 100 := mem_sz hs8 (by decide)
      refine wl_ov (ov_move rfl) rfl ?_
      refine wl_got (γ := Int) (val := fun v => .int .i64 v) (φ := fun v => -2000000000000000 ≤ v ∧ v ≤ 2000000000000000) rfl cb84 rfl rfl rfl rfl (fun wx hm => (odd_any _ _ wx B sb _ hm.k (by omega) (by omega) (by omega) (by omega))) fun v9 hv9 => ?_
      refine wl_ov (ov_build (cs := [.string s8, .int .i64 v9]) rfl (by kernel_rfl)) rfl ?_
      refine wl_buildSlice (e := 139) (cs := [.string s8, .int .i64 v9]) rfl (by kernel_rfl) rfl fun g10 => ?_
      refine wl_append (news := [.string s8, .int .i64 v9]) 0 0 ap51 rfl rfl rfl rfl rfl rfl rfl (by omega) (by unfold maxLen; omega) rfl rfl fun v2 hv2 => ?_
      refine wl_look (R := ∃ A cc, v2 = .slice A (k + 1) cc) (fun wx hm => own_slice (hm.ownI 0 rfl)) ?_
      rintro ⟨A, c, rfl⟩
      refine wl_ov (ov_assign rfl) rfl ?_
      refine wl_nil ?_
      refine nx_then ?_
      refine gw_seq ?_
      refine gw_region ?_
      refine wl_ov (ov_move rfl) rfl ?_
      refine wl_ov (ov_assign rfl) rfl ?_
      refine wl_nil ?_
      refine nx_then ?_
      refine gw_ret ?_
      refine nx_ret1 rfl rfl fun wx hm => ?_
      exact ⟨A, k + 1, c, l ++ [⟨s8, v9⟩], rfl, by have h := hm.ownI 0 rfl; simpa [skEnc] using h, by simp [hl], sk_snoc hok ⟨by dsimp only; omega, by dsimp only; omega, by dsimp only; omega⟩, by omega, hm.k.more (by omega), hm.g⟩
    · have hf : f6 = false := by simpa using hh
      clear hh
      refine gw_skip ?_
      refine nx_then ?_
      refine gw_seq ?_
      refine gw_region ?_
      refine wl_look (R := ∃ A cc, v = .slice A k cc) (fun wx hm => own_slice (hm.ownI 0 rfl)) ?_
      rintro ⟨A, c, rfl⟩
      refine wl_ov (ov_move rfl) rfl ?_
      refine wl_ov (ov_assign rfl) rfl ?_
      refine wl_nil ?_
      refine nx_then ?_
      refine gw_ret ?_
      refine nx_ret1 rfl rfl fun wx hm => ?_
      exact ⟨A, k, c, l, rfl, by have h := hm.ownI 0 rfl; simpa [skEnc] using h, hl, hok, by omega, hm.k.more (by omega), hm.g⟩

set_option maxRecDepth 100000 in
set_option maxHeartbeats 1000000 in
theorem counterOf_any (q : Nat) (w : World) (B sb m : Nat) (hS : Strm 25 w B sb m) (hm : m ≤ 10000000) (hq : q ≤ 9) :
    Calls Tryz.prog 14 #[.pointer (some ⟨sb, 0, none⟩), .int .i64 ((q : Nat) : Int)] w (fun e w' => ∃ (A0 : Option Addr) (c0 : Nat) (cs : List Cs) (A1 : Option Addr) (n1 c1 : Nat) (sl : List Sk) (A : Option Addr) (n c : Nat) (l : List Bk), e = .returned (.agg #[.slice A0 4 c0, .slice A1 n1 c1, .slice A n c, .int .i64 (stockE cs sl), .int .i64 (checkE cs l)]) ∧ SlT csEnc 2 135 w' A0 4 cs ∧ SlT skEnc 2 139 w' A1 n1 sl ∧ SlT bkEnc 6 142 w' A n l ∧ (∀ x ∈ cs, CsOk x) ∧ (∀ x ∈ sl, SkOk x) ∧ (∀ x ∈ l, BkOk x) ∧ n1 ≤ 5 ∧ n ≤ 9 ∧ Strm 25 w' B sb (m + 2000) ∧ w.grownBy w' (some sb)) := by
  refine gw_enter ⟨27, w, (some sb), []⟩ Tryz.func14 rfl Tryz.ntmps14 rfl (memS (X := []) hS allF_nil allL_nil) ?_
  refine gw_seq ?_
  refine gw_region ?_
  refine wl_alloc zc54 rfl fun g1 => ?_
  refine wl_nil ?_
  refine nx_then ?_
  refine gw_seq ?_
  refine gw_region ?_
  refine wl_ov (ov_move rfl) rfl ?_
  refine wl_callgs (γ := Option Addr × Nat × List Cs) (val := (fun (g : Option Addr × Nat × List Cs) => .slice g.1 4 g.2.1)) (φ := (fun (g : Option Addr × Nat × List Cs) => g.2.2.length = 4 ∧ (∀ x ∈ g.2.2, CsOk x))) (m' := m + 40) (fun (g : Option Addr × Nat × List Cs) => ⟨.slice g.1 4 g.2.1, 135, 2, 4, g.2.2.flatMap csEnc⟩) rfl cb77 rfl rfl rfl rfl (fun wx hm => (ganyClasses_any wx B sb _ hm.k (by omega)).mono fun _ _ ⟨A0, c0, cs, he, ho, hl, hok, hS, hg⟩ => ⟨(A0, c0, cs), he, ⟨hl, hok⟩, hS, hg, ho⟩) ?_
  rintro ⟨A0, c0, cs⟩ hcs
  dsimp only at hcs ⊢
  obtain ⟨hc4, hco⟩ := hcs
  refine wl_ov (ov_move rfl) rfl ?_
  refine wl_callgs (γ := Option Addr × Nat × Nat × List Sk) (val := (fun (g : Option Addr × Nat × Nat × List Sk) => .slice g.1 g.2.1 g.2.2.1)) (φ := (fun (g : Option Addr × Nat × Nat × List Sk) => g.2.2.2.length = g.2.1 ∧ (∀ x ∈ g.2.2.2, SkOk x) ∧ g.2.1 ≤ 5)) (m' := m + 40 + 100) (fun (g : Option Addr × Nat × Nat × List Sk) => ⟨.slice g.1 g.2.1 g.2.2.1, 139, 2, g.2.1, g.2.2.2.flatMap skEnc⟩) rfl cb78 rfl rfl rfl rfl (fun wx hm => (gstock_any wx B sb _ hm.k (by omega)).mono fun _ _ ⟨A1, n1, c1, sl, he, ho, hl, hok, hn, hS, hg⟩ => ⟨(A1, n1, c1, sl), he, ⟨hl, hok, hn⟩, hS, hg, ho⟩) ?_
  rintro ⟨A1, n1, c1, sl⟩ hss
  dsimp only at hss ⊢
  obtain ⟨hs1, hso, hn5⟩ := hss
  refine wl_ov (ov_move rfl) rfl ?_
  refine wl_ov (ov_move rfl) rfl ?_
  refine wl_callgs (γ := Option Addr × Nat × Nat × List Bk) (val := (fun (g : Option Addr × Nat × Nat × List Bk) => .slice g.1 g.2.1 g.2.2.1)) (φ := (fun (g : Option Addr × Nat × Nat × List Bk) => (∀ b ∈ g.2.2.2, BkOk b) ∧ g.2.1 ≤ 9 ∧ g.2.2.2.length = g.2.1)) (m' := m + 40 + 100 + 1000) (fun (g : Option Addr × Nat × Nat × List Bk) => ⟨.slice g.1 g.2.1 g.2.2.1, 142, 6, g.2.1, g.2.2.2.flatMap bkEnc⟩) rfl cb79 rfl rfl rfl rfl (fun wx hm => (gbookings_own q wx B sb _ hm.k (by omega) hq).mono fun _ _ ⟨A, n, c, l, he, ho, hl, hok, hn, hnc, hS, hg⟩ => ⟨(A, n, c, l), he, ⟨hok, hn, hl⟩, hS, hg, ho⟩) ?_
  rintro ⟨A, n, c, l⟩ hbb
  dsimp only at hbb ⊢
  obtain ⟨hok, hn9, hlen⟩ := hbb
  obtain ⟨SE, hSE⟩ : ∃ E, E = stockE cs sl := ⟨_, rfl⟩
  obtain ⟨KE, hKE⟩ : ∃ E, E = checkE cs l := ⟨_, rfl⟩
  refine wl_ov (ov_build (cs := [.slice A0 4 c0, .slice A1 n1 c1, .slice A n c, .int .i64 0, .int .i64 0]) rfl (by kernel_rfl)) rfl ?_
  refine wl_alloc zc54 rfl fun g2 => ?_
  refine wl_stores (cs' := [.slice A0 4 c0, .slice A1 n1 c1, .slice A n c, .int .i64 0, .int .i64 0]) 0 rz54 rfl rfl rfl rfl rfl rfl rfl rfl ?_
  refine wl_nil ?_
  refine nx_then ?_
  refine gw_seq ?_
  refine gw_draw (fun wz => Blk wz g1 54 [.slice none 0 0, .slice none 0 0, .slice none 0 0, .int .i64 0, .int .i64 0] ∧ True) mixed ?_
  refine wa_take 0 rfl (by kernel_rfl) (by kernel_rfl) (by kernel_rfl) (listed' := #[true, false, false, false, false, false, false, false, false, false, false, false, false, false]) rfl (fun _ _ _ h => h) (fun _ hm => ⟨hm.blkI 1 rfl, trivial⟩) (ov_field fo54_0 rfl rfl) rfl ?_
  refine wa_take 2 rfl (by kernel_rfl) (by kernel_rfl) (by kernel_rfl) (listed' := #[true, false, true, false, false, false, false, false, false, false, false, false, false, false]) rfl (fun _ _ _ h => h) (fun _ hm => ⟨hm.blkI 1 rfl, trivial⟩) (ov_field fo54_1 rfl rfl) rfl ?_
  refine wa_take 5 rfl (by kernel_rfl) (by kernel_rfl) (by kernel_rfl) (listed' := #[true, false, true, false, false, true, false, false, false, false, false, false, false, false]) rfl (fun _ _ _ h => h) (fun _ hm => ⟨hm.blkI 1 rfl, trivial⟩) (ov_field fo54_0 rfl rfl) rfl ?_
  refine wa_take 7 rfl (by kernel_rfl) (by kernel_rfl) (by kernel_rfl) (listed' := #[true, false, true, false, false, true, false, true, false, false, false, false, false, false]) rfl (fun _ _ _ h => h) (fun _ hm => ⟨hm.blkI 1 rfl, trivial⟩) (ov_field fo54_2 rfl rfl) rfl ?_
  refine wa_open fun W hW => ?_
  have T255 : W 6 #[true, true, true, true, true, true, true, true, false, false, false, false, false, false] [(0, .pointer (some ⟨sb, 0, none⟩)), (1, .int .i64 ((q : Nat) : Int)), (4, .pointer (some ⟨g1, 0, none⟩)), (5, .pointer (some ⟨g2, 0, none⟩)), (6, .pointer (some ⟨sb, 0, none⟩)), (7, .slice A0 4 c0), (8, .pointer (some ⟨sb, 0, none⟩)), (9, .slice A1 n1 c1), (10, .pointer (some ⟨sb, 0, none⟩)), (11, .int .i64 ((q : Nat) : Int)), (12, .slice A n c), (13, .agg #[.slice A0 4 c0, .slice A1 n1 c1, .slice A n c, .int .i64 0, .int .i64 0]), (14, .pointer (some ⟨g2, 0, none⟩)), (15, .slice A0 4 c0), (16, .pointer (some ⟨g2, 1, none⟩)), (17, .slice A1 n1 c1), (18, .int .i64 SE), (19, .pointer (some ⟨g2, 0, none⟩)), (20, .slice A0 4 c0), (21, .pointer (some ⟨g2, 2, none⟩))] (fun w => Strm 25 w B sb (m + 40 + 100 + 1000)) [(g1, 54, [.slice none 0 0, .slice none 0 0, .slice none 0 0, .int .i64 0, .int .i64 0]), (g2, 54, [.slice A0 4 c0, .slice A1 n1 c1, .slice A n c, .int .i64 0, .int .i64 0])] [⟨.slice A n c, 142, 6, n, l.flatMap bkEnc⟩, ⟨.slice A1 n1 c1, 139, 2, n1, sl.flatMap skEnc⟩, ⟨.slice A0 4 c0, 135, 2, 4, cs.flatMap csEnc⟩] [] := by
    skip
    rw [hW]
    refine wa_all [8] (by kernel_rfl) rfl ⟨⟨_, rfl, ?_⟩, trivial⟩
    refine wl_ov (ov_load sc52 rfl (fun _ hm => hm.blkI 1 rfl) rfl) rfl ?_
    refine wl_nil ?_
    refine nx_wa0 (listed' := #[true, true, true, true, true, true, true, true, true, false, false, false, false, false]) rfl (fun _ hm => ⟨hm.blkI 0 rfl, trivial⟩) ?_
    refine wa_take 10 rfl (by kernel_rfl) (by kernel_rfl) (by kernel_rfl) (listed' := #[true, true, true, true, true, true, true, true, true, false, true, false, false, false]) rfl (fun _ _ _ h => h) (fun _ hm => ⟨hm.blkI 0 rfl, trivial⟩) (ov_field fo54_3 rfl rfl) rfl ?_
    refine wa_all [9] (by kernel_rfl) rfl ⟨⟨_, rfl, ?_⟩, trivial⟩
    refine wl_callv (v := .int .i64 KE) rfl cb81 rfl rfl (fun wx hm => (by rw [hKE]; exact bookingsFault_any cs A0 4 c0 l A n c wx (SlT.ofOwn cs_len (hm.ownI 2 rfl) hc4) hco (by omega) (SlT.ofOwn bk_len (hm.ownI 0 rfl) hlen) hok (by omega))) ?_
    refine wl_nil ?_
    refine nx_wa0 (listed' := #[true, true, true, true, true, true, true, true, true, true, true, false, false, false]) rfl (fun _ hm => ⟨hm.blkI 0 rfl, trivial⟩) ?_
    refine wa_all [11] (by kernel_rfl) rfl ⟨⟨_, rfl, ?_⟩, trivial⟩
    refine wl_store 1 sc41 rfl rfl rfl rfl rfl rfl ?_
    refine wl_nil ?_
    refine nx_wa0 (listed' := #[true, true, true, true, true, true, true, true, true, true, true, true, false, false]) rfl (fun _ hm => ⟨hm.blkI 0 rfl, trivial⟩) ?_
    refine wa_take 12 rfl (by kernel_rfl) (by kernel_rfl) (by kernel_rfl) (listed' := #[true, true, true, true, true, true, true, true, true, true, true, true, true, false]) rfl (fun _ _ _ h => h) (fun _ hm => ⟨hm.blkI 0 rfl, trivial⟩) (ov_field fo54_4 rfl rfl) rfl ?_
    refine wa_all [13] (by kernel_rfl) rfl ⟨⟨_, rfl, ?_⟩, trivial⟩
    refine wl_store 1 sc41 rfl rfl rfl rfl rfl rfl ?_
    refine wl_nil ?_
    refine nx_wa0 (listed' := #[true, true, true, true, true, true, true, true, true, true, true, true, true, true]) rfl (fun _ hm => ⟨hm.blkI 0 rfl, trivial⟩) ?_
    refine wa_done (by kernel_rfl) ?_
    refine nx_then ?_
    refine gw_seq ?_
    refine gw_region ?_
    refine wl_ov (ov_loads rz54 rfl (fun _ hm => hm.blkI 1 rfl) rfl rfl) rfl ?_
    refine wl_stores (cs' := [.slice A0 4 c0, .slice A1 n1 c1, .slice A n c, .int .i64 SE, .int .i64 KE]) 0 rz54 rfl rfl rfl rfl rfl rfl rfl rfl ?_
    refine wl_nil ?_
    refine nx_then ?_
    refine gw_ret ?_
    refine nx_retc 0 rfl rz54 rfl rfl rfl fun wx hm => ?_
    exact ⟨A0, c0, cs, A1, n1, c1, sl, A, n, c, l, by rw [← hSE, ← hKE], (SlT.ofOwn cs_len (hm.ownI 2 rfl) hc4), (SlT.ofOwn sk_len (hm.ownI 1 rfl) hs1), (SlT.ofOwn bk_len (hm.ownI 0 rfl) hlen), hco, hso, hok, hn5, hn9, hm.k.more (by omega), hm.g⟩
  have T447 : W 6 #[true, true, true, true, true, true, false, true, true, false, false, false, false, false] [(0, .pointer (some ⟨sb, 0, none⟩)), (1, .int .i64 ((q : Nat) : Int)), (4, .pointer (some ⟨g1, 0, none⟩)), (5, .pointer (some ⟨g2, 0, none⟩)), (6, .pointer (some ⟨sb, 0, none⟩)), (7, .slice A0 4 c0), (8, .pointer (some ⟨sb, 0, none⟩)), (9, .slice A1 n1 c1), (10, .pointer (some ⟨sb, 0, none⟩)), (11, .int .i64 ((q : Nat) : Int)), (12, .slice A n c), (13, .agg #[.slice A0 4 c0, .slice A1 n1 c1, .slice A n c, .int .i64 0, .int .i64 0]), (14, .pointer (some ⟨g2, 0, none⟩)), (15, .slice A0 4 c0), (16, .pointer (some ⟨g2, 1, none⟩)), (17, .slice A1 n1 c1), (18, .int .i64 SE), (19, .pointer (some ⟨g2, 0, none⟩)), (21, .pointer (some ⟨g2, 2, none⟩)), (22, .slice A n c)] (fun w => Strm 25 w B sb (m + 40 + 100 + 1000)) [(g1, 54, [.slice none 0 0, .slice none 0 0, .slice none 0 0, .int .i64 0, .int .i64 0]), (g2, 54, [.slice A0 4 c0, .slice A1 n1 c1, .slice A n c, .int .i64 0, .int .i64 0])] [⟨.slice A n c, 142, 6, n, l.flatMap bkEnc⟩, ⟨.slice A1 n1 c1, 139, 2, n1, sl.flatMap skEnc⟩, ⟨.slice A0 4 c0, 135, 2, 4, cs.flatMap csEnc⟩] [] := by
    skip
    rw [hW]
    refine wa_all [6] (by kernel_rfl) rfl ⟨⟨_, rfl, ?_⟩, trivial⟩
    refine wl_ov (ov_load sc50 rfl (fun _ hm => hm.blkI 1 rfl) rfl) rfl ?_
    refine wl_nil ?_
    refine nx_wa0 (listed' := #[true, true, true, true, true, true, true, true, true, false, false, false, false, false]) rfl (fun _ hm => ⟨hm.blkI 0 rfl, trivial⟩) ?_
    refine wa_take 10 rfl (by kernel_rfl) (by kernel_rfl) (by kernel_rfl) (listed' := #[true, true, true, true, true, true, true, true, true, false, true, false, false, false]) rfl (fun _ _ _ h => h) (fun _ hm => ⟨hm.blkI 0 rfl, trivial⟩) (ov_field fo54_3 rfl rfl) rfl ?_
    refine wa_all [9] (by kernel_rfl) rfl ⟨⟨_, rfl, ?_⟩, trivial⟩
    refine wl_callv (v := .int .i64 KE) rfl cb81 rfl rfl (fun wx hm => (by rw [hKE]; exact bookingsFault_any cs A0 4 c0 l A n c wx (SlT.ofOwn cs_len (hm.ownI 2 rfl) hc4) hco (by omega) (SlT.ofOwn bk_len (hm.ownI 0 rfl) hlen) hok (by omega))) ?_
    refine wl_nil ?_
    refine nx_wa0 (listed' := #[true, true, true, true, true, true, true, true, true, true, true, false, false, false]) rfl (fun _ hm => ⟨hm.blkI 0 rfl, trivial⟩) ?_
    refine wa_all [11] (by kernel_rfl) rfl ⟨⟨_, rfl, ?_⟩, trivial⟩
    refine wl_store 1 sc41 rfl rfl rfl rfl rfl rfl ?_
    refine wl_nil ?_
    refine nx_wa0 (listed' := #[true, true, true, true, true, true, true, true, true, true, true, true, false, false]) rfl (fun _ hm => ⟨hm.blkI 0 rfl, trivial⟩) ?_
    refine wa_take 12 rfl (by kernel_rfl) (by kernel_rfl) (by kernel_rfl) (listed' := #[true, true, true, true, true, true, true, true, true, true, true, true, true, false]) rfl (fun _ _ _ h => h) (fun _ hm => ⟨hm.blkI 0 rfl, trivial⟩) (ov_field fo54_4 rfl rfl) rfl ?_
    refine wa_all [13] (by kernel_rfl) rfl ⟨⟨_, rfl, ?_⟩, trivial⟩
    refine wl_store 1 sc41 rfl rfl rfl rfl rfl rfl ?_
    refine wl_nil ?_
    refine nx_wa0 (listed' := #[true, true, true, true, true, true, true, true, true, true, true, true, true, true]) rfl (fun _ hm => ⟨hm.blkI 0 rfl, trivial⟩) ?_
    refine wa_done (by kernel_rfl) ?_
    refine nx_then ?_
    refine gw_seq ?_
    refine gw_region ?_
    refine wl_ov (ov_loads rz54 rfl (fun _ hm => hm.blkI 1 rfl) rfl rfl) rfl ?_
    refine wl_stores (cs' := [.slice A0 4 c0, .slice A1 n1 c1, .slice A n c, .int .i64 SE, .int .i64 KE]) 0 rz54 rfl rfl rfl rfl rfl rfl rfl rfl ?_
    refine wl_nil ?_
    refine nx_then ?_
    refine gw_ret ?_
    refine nx_retc 0 rfl rz54 rfl rfl rfl fun wx hm => ?_
    exact ⟨A0, c0, cs, A1, n1, c1, sl, A, n, c, l, by rw [← hSE, ← hKE], (SlT.ofOwn cs_len (hm.ownI 2 rfl) hc4), (SlT.ofOwn sk_len (hm.ownI 1 rfl) hs1), (SlT.ofOwn bk_len (hm.ownI 0 rfl) hlen), hco, hso, hok, hn5, hn9, hm.k.more (by omega), hm.g⟩
  have J191 : W 7 #[true, true, true, true, true, true, false, true, false, false, false, false, false, false] [(0, .pointer (some ⟨sb, 0, none⟩)), (1, .int .i64 ((q : Nat) : Int)), (4, .pointer (some ⟨g1, 0, none⟩)), (5, .pointer (some ⟨g2, 0, none⟩)), (6, .pointer (some ⟨sb, 0, none⟩)), (7, .slice A0 4 c0), (8, .pointer (some ⟨sb, 0, none⟩)), (9, .slice A1 n1 c1), (10, .pointer (some ⟨sb, 0, none⟩)), (11, .int .i64 ((q : Nat) : Int)), (12, .slice A n c), (13, .agg #[.slice A0 4 c0, .slice A1 n1 c1, .slice A n c, .int .i64 0, .int .i64 0]), (14, .pointer (some ⟨g2, 0, none⟩)), (15, .slice A0 4 c0), (16, .pointer (some ⟨g2, 1, none⟩)), (17, .slice A1 n1 c1), (18, .int .i64 SE), (19, .pointer (some ⟨g2, 0, none⟩)), (21, .pointer (some ⟨g2, 2, none⟩))] (fun w => Strm 25 w B sb (m + 40 + 100 + 1000)) [(g1, 54, [.slice none 0 0, .slice none 0 0, .slice none 0 0, .int .i64 0, .int .i64 0]), (g2, 54, [.slice A0 4 c0, .slice A1 n1 c1, .slice A n c, .int .i64 0, .int .i64 0])] [⟨.slice A n c, 142, 6, n, l.flatMap bkEnc⟩, ⟨.slice A1 n1 c1, 139, 2, n1, sl.flatMap skEnc⟩, ⟨.slice A0 4 c0, 135, 2, 4, cs.flatMap csEnc⟩] [] := by
    skip
    rw [hW]
    refine wa_all [6, 8] (by kernel_rfl) rfl ⟨⟨_, rfl, ?_⟩, ⟨_, rfl, ?_⟩, trivial⟩
    · refine wl_ov (ov_load sc50 rfl (fun _ hm => hm.blkI 1 rfl) rfl) rfl ?_
      refine wl_nil ?_
      refine nx_wa0 (listed' := #[true, true, true, true, true, true, true, true, false, false, false, false, false, false]) rfl (fun _ hm => ⟨hm.blkI 0 rfl, trivial⟩) ?_
      have h := T255 
      rw [hW] at h
      refine wa_weak ?_ ?_ h
      · exact ⟨rfl, rfl, rfl, rfl, rfl, rfl, rfl, rfl, rfl, rfl, rfl, rfl, rfl, rfl, rfl, rfl, rfl, rfl, rfl, rfl, trivial⟩
      · exact fun _ hm => hm.pick [0, 1] [0, 1, 2] [] rfl rfl
    · refine wl_ov (ov_load sc52 rfl (fun _ hm => hm.blkI 1 rfl) rfl) rfl ?_
      refine wl_nil ?_
      refine nx_wa0 (listed' := #[true, true, true, true, true, true, false, true, true, false, false, false, false, false]) rfl (fun _ hm => ⟨hm.blkI 0 rfl, trivial⟩) ?_
      have h := T447 
      rw [hW] at h
      refine wa_weak ?_ ?_ h
      · exact ⟨rfl, rfl, rfl, rfl, rfl, rfl, rfl, rfl, rfl, rfl, rfl, rfl, rfl, rfl, rfl, rfl, rfl, rfl, rfl, rfl, trivial⟩
      · exact fun _ hm => hm.pick [0, 1] [0, 1, 2] [] rfl rfl
  have T495 : W 6 #[true, true, true, true, false, true, true, true, true, false, false, false, false, false] [(0, .pointer (some ⟨sb, 0, none⟩)), (1, .int .i64 ((q : Nat) : Int)), (4, .pointer (some ⟨g1, 0, none⟩)), (5, .pointer (some ⟨g2, 0, none⟩)), (6, .pointer (some ⟨sb, 0, none⟩)), (7, .slice A0 4 c0), (8, .pointer (some ⟨sb, 0, none⟩)), (9, .slice A1 n1 c1), (10, .pointer (some ⟨sb, 0, none⟩)), (11, .int .i64 ((q : Nat) : Int)), (12, .slice A n c), (13, .agg #[.slice A0 4 c0, .slice A1 n1 c1, .slice A n c, .int .i64 0, .int .i64 0]), (14, .pointer (some ⟨g2, 0, none⟩)), (15, .slice A0 4 c0), (16, .pointer (some ⟨g2, 1, none⟩)), (17, .slice A1 n1 c1), (19, .pointer (some ⟨g2, 0, none⟩)), (20, .slice A0 4 c0), (21, .pointer (some ⟨g2, 2, none⟩)), (22, .slice A n c)] (fun w => Strm 25 w B sb (m + 40 + 100 + 1000)) [(g1, 54, [.slice none 0 0, .slice none 0 0, .slice none 0 0, .int .i64 0, .int .i64 0]), (g2, 54, [.slice A0 4 c0, .slice A1 n1 c1, .slice A n c, .int .i64 0, .int .i64 0])] [⟨.slice A n c, 142, 6, n, l.flatMap bkEnc⟩, ⟨.slice A1 n1 c1, 139, 2, n1, sl.flatMap skEnc⟩, ⟨.slice A0 4 c0, 135, 2, 4, cs.flatMap csEnc⟩] [] := by
    skip
    rw [hW]
    refine wa_all [4] (by kernel_rfl) rfl ⟨⟨_, rfl, ?_⟩, trivial⟩
    refine wl_callv (v := .int .i64 SE) rfl cb80 rfl rfl (fun wx hm => (by rw [hSE]; exact stockFault_any cs A0 4 c0 sl A1 n1 c1 wx (SlT.ofOwn cs_len (hm.ownI 2 rfl) hc4) hco (by omega) (SlT.ofOwn sk_len (hm.ownI 1 rfl) hs1) hso (by omega))) ?_
    refine wl_nil ?_
    refine nx_wa0 (listed' := #[true, true, true, true, true, true, true, true, true, false, false, false, false, false]) rfl (fun _ hm => ⟨hm.blkI 0 rfl, trivial⟩) ?_
    refine wa_take 10 rfl (by kernel_rfl) (by kernel_rfl) (by kernel_rfl) (listed' := #[true, true, true, true, true, true, true, true, true, false, true, false, false, false]) rfl (fun _ _ _ h => h) (fun _ hm => ⟨hm.blkI 0 rfl, trivial⟩) (ov_field fo54_3 rfl rfl) rfl ?_
    refine wa_all [9] (by kernel_rfl) rfl ⟨⟨_, rfl, ?_⟩, trivial⟩
    refine wl_callv (v := .int .i64 KE) rfl cb81 rfl rfl (fun wx hm => (by rw [hKE]; exact bookingsFault_any cs A0 4 c0 l A n c wx (SlT.ofOwn cs_len (hm.ownI 2 rfl) hc4) hco (by omega) (SlT.ofOwn bk_len (hm.ownI 0 rfl) hlen) hok (by omega))) ?_
    refine wl_nil ?_
    refine nx_wa0 (listed' := #[true, true, true, true, true, true, true, true, true, true, true, false, false, false]) rfl (fun _ hm => ⟨hm.blkI 0 rfl, trivial⟩) ?_
    refine wa_all [11] (by kernel_rfl) rfl ⟨⟨_, rfl, ?_⟩, trivial⟩
    refine wl_store 1 sc41 rfl rfl rfl rfl rfl rfl ?_
    refine wl_nil ?_
    refine nx_wa0 (listed' := #[true, true, true, true, true, true, true, true, true, true, true, true, false, false]) rfl (fun _ hm => ⟨hm.blkI 0 rfl, trivial⟩) ?_
    refine wa_take 12 rfl (by kernel_rfl) (by kernel_rfl) (by kernel_rfl) (listed' := #[true, true, true, true, true, true, true, true, true, true, true, true, true, false]) rfl (fun _ _ _ h => h) (fun _ hm => ⟨hm.blkI 0 rfl, trivial⟩) (ov_field fo54_4 rfl rfl) rfl ?_
    refine wa_all [13] (by kernel_rfl) rfl ⟨⟨_, rfl, ?_⟩, trivial⟩
    refine wl_store 1 sc41 rfl rfl rfl rfl rfl rfl ?_
    refine wl_nil ?_
    refine nx_wa0 (listed' := #[true, true, true, true, true, true, true, true, true, true, true, true, true, true]) rfl (fun _ hm => ⟨hm.blkI 0 rfl, trivial⟩) ?_
    refine wa_done (by kernel_rfl) ?_
    refine nx_then ?_
    refine gw_seq ?_
    refine gw_region ?_
    refine wl_ov (ov_loads rz54 rfl (fun _ hm => hm.blkI 1 rfl) rfl rfl) rfl ?_
    refine wl_stores (cs' := [.slice A0 4 c0, .slice A1 n1 c1, .slice A n c, .int .i64 SE, .int .i64 KE]) 0 rz54 rfl rfl rfl rfl rfl rfl rfl rfl ?_
    refine wl_nil ?_
    refine nx_then ?_
    refine gw_ret ?_
    refine nx_retc 0 rfl rz54 rfl rfl rfl fun wx hm => ?_
    exact ⟨A0, c0, cs, A1, n1, c1, sl, A, n, c, l, by rw [← hSE, ← hKE], (SlT.ofOwn cs_len (hm.ownI 2 rfl) hc4), (SlT.ofOwn sk_len (hm.ownI 1 rfl) hs1), (SlT.ofOwn bk_len (hm.ownI 0 rfl) hlen), hco, hso, hok, hn5, hn9, hm.k.more (by omega), hm.g⟩
  have J239 : W 7 #[true, true, true, true, false, true, true, true, false, false, false, false, false, false] [(0, .pointer (some ⟨sb, 0, none⟩)), (1, .int .i64 ((q : Nat) : Int)), (4, .pointer (some ⟨g1, 0, none⟩)), (5, .pointer (some ⟨g2, 0, none⟩)), (6, .pointer (some ⟨sb, 0, none⟩)), (7, .slice A0 4 c0), (8, .pointer (some ⟨sb, 0, none⟩)), (9, .slice A1 n1 c1), (10, .pointer (some ⟨sb, 0, none⟩)), (11, .int .i64 ((q : Nat) : Int)), (12, .slice A n c), (13, .agg #[.slice A0 4 c0, .slice A1 n1 c1, .slice A n c, .int .i64 0, .int .i64 0]), (14, .pointer (some ⟨g2, 0, none⟩)), (15, .slice A0 4 c0), (16, .pointer (some ⟨g2, 1, none⟩)), (17, .slice A1 n1 c1), (19, .pointer (some ⟨g2, 0, none⟩)), (20, .slice A0 4 c0), (21, .pointer (some ⟨g2, 2, none⟩))] (fun w => Strm 25 w B sb (m + 40 + 100 + 1000)) [(g1, 54, [.slice none 0 0, .slice none 0 0, .slice none 0 0, .int .i64 0, .int .i64 0]), (g2, 54, [.slice A0 4 c0, .slice A1 n1 c1, .slice A n c, .int .i64 0, .int .i64 0])] [⟨.slice A n c, 142, 6, n, l.flatMap bkEnc⟩, ⟨.slice A1 n1 c1, 139, 2, n1, sl.flatMap skEnc⟩, ⟨.slice A0 4 c0, 135, 2, 4, cs.flatMap csEnc⟩] [] := by
    skip
    rw [hW]
    refine wa_all [4, 8] (by kernel_rfl) rfl ⟨⟨_, rfl, ?_⟩, ⟨_, rfl, ?_⟩, trivial⟩
    · refine wl_callv (v := .int .i64 SE) rfl cb80 rfl rfl (fun wx hm => (by rw [hSE]; exact stockFault_any cs A0 4 c0 sl A1 n1 c1 wx (SlT.ofOwn cs_len (hm.ownI 2 rfl) hc4) hco (by omega) (SlT.ofOwn sk_len (hm.ownI 1 rfl) hs1) hso (by omega))) ?_
      refine wl_nil ?_
      refine nx_wa0 (listed' := #[true, true, true, true, true, true, true, true, false, false, false, false, false, false]) rfl (fun _ hm => ⟨hm.blkI 0 rfl, trivial⟩) ?_
      have h := T255 
      rw [hW] at h
      refine wa_weak ?_ ?_ h
      · exact ⟨rfl, rfl, rfl, rfl, rfl, rfl, rfl, rfl, rfl, rfl, rfl, rfl, rfl, rfl, rfl, rfl, rfl, rfl, rfl, rfl, trivial⟩
      · exact fun _ hm => hm.pick [0, 1] [0, 1, 2] [] rfl rfl
    · refine wl_ov (ov_load sc52 rfl (fun _ hm => hm.blkI 1 rfl) rfl) rfl ?_
      refine wl_nil ?_
      refine nx_wa0 (listed' := #[true, true, true, true, false, true, true, true, true, false, false, false, false, false]) rfl (fun _ hm => ⟨hm.blkI 0 rfl, trivial⟩) ?_
      have h := T495 
      rw [hW] at h
      refine wa_weak ?_ ?_ h
      · exact ⟨rfl, rfl, rfl, rfl, rfl, rfl, rfl, rfl, rfl, rfl, rfl, rfl, rfl, rfl, rfl, rfl, rfl, rfl, rfl, rfl, trivial⟩
      · exact fun _ hm => hm.pick [0, 1] [0, 1, 2] [] rfl rfl
  have J431 : W 7 #[true, true, true, true, false, true, false, true, true, false, false, false, false, false] [(0, .pointer (some ⟨sb, 0, none⟩)), (1, .int .i64 ((q : Nat) : Int)), (4, .pointer (some ⟨g1, 0, none⟩)), (5, .pointer (some ⟨g2, 0, none⟩)), (6, .pointer (some ⟨sb, 0, none⟩)), (7, .slice A0 4 c0), (8, .pointer (some ⟨sb, 0, none⟩)), (9, .slice A1 n1 c1), (10, .pointer (some ⟨sb, 0, none⟩)), (11, .int .i64 ((q : Nat) : Int)), (12, .slice A n c), (13, .agg #[.slice A0 4 c0, .slice A1 n1 c1, .slice A n c, .int .i64 0, .int .i64 0]), (14, .pointer (some ⟨g2, 0, none⟩)), (15, .slice A0 4 c0), (16, .pointer (some ⟨g2, 1, none⟩)), (17, .slice A1 n1 c1), (19, .pointer (some ⟨g2, 0, none⟩)), (21, .pointer (some ⟨g2, 2, none⟩)), (22, .slice A n c)] (fun w => Strm 25 w B sb (m + 40 + 100 + 1000)) [(g1, 54, [.slice none 0 0, .slice none 0 0, .slice none 0 0, .int .i64 0, .int .i64 0]), (g2, 54, [.slice A0 4 c0, .slice A1 n1 c1, .slice A n c, .int .i64 0, .int .i64 0])] [⟨.slice A n c, 142, 6, n, l.flatMap bkEnc⟩, ⟨.slice A1 n1 c1, 139, 2, n1, sl.flatMap skEnc⟩, ⟨.slice A0 4 c0, 135, 2, 4, cs.flatMap csEnc⟩] [] := by
    skip
    rw [hW]
    refine wa_all [4, 6] (by kernel_rfl) rfl ⟨⟨_, rfl, ?_⟩, ⟨_, rfl, ?_⟩, trivial⟩
    · refine wl_callv (v := .int .i64 SE) rfl cb80 rfl rfl (fun wx hm => (by rw [hSE]; exact stockFault_any cs A0 4 c0 sl A1 n1 c1 wx (SlT.ofOwn cs_len (hm.ownI 2 rfl) hc4) hco (by omega) (SlT.ofOwn sk_len (hm.ownI 1 rfl) hs1) hso (by omega))) ?_
      refine wl_nil ?_
      refine nx_wa0 (listed' := #[true, true, true, true, true, true, false, true, true, false, false, false, false, false]) rfl (fun _ hm => ⟨hm.blkI 0 rfl, trivial⟩) ?_
      have h := T447 
      rw [hW] at h
      refine wa_weak ?_ ?_ h
      · exact ⟨rfl, rfl, rfl, rfl, rfl, rfl, rfl, rfl, rfl, rfl, rfl, rfl, rfl, rfl, rfl, rfl, rfl, rfl, rfl, rfl, trivial⟩
      · exact fun _ hm => hm.pick [0, 1] [0, 1, 2] [] rfl rfl
    · refine wl_ov (ov_load sc50 rfl (fun _ hm => hm.blkI 1 rfl) rfl) rfl ?_
      refine wl_nil ?_
      refine nx_wa0 (listed' := #[true, true, true, true, false, true, true, true, true, false, false, false, false, false]) rfl (fun _ hm => ⟨hm.blkI 0 rfl, trivial⟩) ?_
      have h := T495 
      rw [hW] at h
      refine wa_weak ?_ ?_ h
      · exact ⟨rfl, rfl, rfl, rfl, rfl, rfl, rfl, rfl, rfl, rfl, rfl, rfl, rfl, rfl, rfl, rfl, rfl, rfl, rfl, rfl, trivial⟩
      · exact fun _ hm => hm.pick [0, 1] [0, 1, 2] [] rfl rfl
  have J175 : W 8 #[true, true, true, true, false, true, false, true, false, false, false, false, false, false] [(0, .pointer (some ⟨sb, 0, none⟩)), (1, .int .i64 ((q : Nat) : Int)), (4, .pointer (some ⟨g1, 0, none⟩)), (5, .pointer (some ⟨g2, 0, none⟩)), (6, .pointer (some ⟨sb, 0, none⟩)), (7, .slice A0 4 c0), (8, .pointer (some ⟨sb, 0, none⟩)), (9, .slice A1 n1 c1), (10, .pointer (some ⟨sb, 0, none⟩)), (11, .int .i64 ((q : Nat) : Int)), (12, .slice A n c), (13, .agg #[.slice A0 4 c0, .slice A1 n1 c1, .slice A n c, .int .i64 0, .int .i64 0]), (14, .pointer (some ⟨g2, 0, none⟩)), (15, .slice A0 4 c0), (16, .pointer (some ⟨g2, 1, none⟩)), (17, .slice A1 n1 c1), (19, .pointer (some ⟨g2, 0, none⟩)), (21, .pointer (some ⟨g2, 2, none⟩))] (fun w => Strm 25 w B sb (m + 40 + 100 + 1000)) [(g1, 54, [.slice none 0 0, .slice none 0 0, .slice none 0 0, .int .i64 0, .int .i64 0]), (g2, 54, [.slice A0 4 c0, .slice A1 n1 c1, .slice A n c, .int .i64 0, .int .i64 0])] [⟨.slice A n c, 142, 6, n, l.flatMap bkEnc⟩, ⟨.slice A1 n1 c1, 139, 2, n1, sl.flatMap skEnc⟩, ⟨.slice A0 4 c0, 135, 2, 4, cs.flatMap csEnc⟩] [] := by
    skip
    rw [hW]
    refine wa_all [4, 6, 8] (by kernel_rfl) rfl ⟨⟨_, rfl, ?_⟩, ⟨_, rfl, ?_⟩, ⟨_, rfl, ?_⟩, trivial⟩
    · refine wl_callv (v := .int .i64 SE) rfl cb80 rfl rfl (fun wx hm => (by rw [hSE]; exact stockFault_any cs A0 4 c0 sl A1 n1 c1 wx (SlT.ofOwn cs_len (hm.ownI 2 rfl) hc4) hco (by omega) (SlT.ofOwn sk_len (hm.ownI 1 rfl) hs1) hso (by omega))) ?_
      refine wl_nil ?_
      refine nx_wa0 (listed' := #[true, true, true, true, true, true, false, true, false, false, false, false, false, false]) rfl (fun _ hm => ⟨hm.blkI 0 rfl, trivial⟩) ?_
      have h := J191 
      rw [hW] at h
      refine wa_weak ?_ ?_ h
      · exact ⟨rfl, rfl, rfl, rfl, rfl, rfl, rfl, rfl, rfl, rfl, rfl, rfl, rfl, rfl, rfl, rfl, rfl, rfl, rfl, trivial⟩
      · exact fun _ hm => hm.pick [0, 1] [0, 1, 2] [] rfl rfl
    · refine wl_ov (ov_load sc50 rfl (fun _ hm => hm.blkI 1 rfl) rfl) rfl ?_
      refine wl_nil ?_
      refine nx_wa0 (listed' := #[true, true, true, true, false, true, true, true, false, false, false, false, false, false]) rfl (fun _ hm => ⟨hm.blkI 0 rfl, trivial⟩) ?_
      have h := J239 
      rw [hW] at h
      refine wa_weak ?_ ?_ h
      · exact ⟨rfl, rfl, rfl, rfl, rfl, rfl, rfl, rfl, rfl, rfl, rfl, rfl, rfl, rfl, rfl, rfl, rfl, rfl, rfl, trivial⟩
      · exact fun _ hm => hm.pick [0, 1] [0, 1, 2] [] rfl rfl
    · refine wl_ov (ov_load sc52 rfl (fun _ hm => hm.blkI 1 rfl) rfl) rfl ?_
      refine wl_nil ?_
      refine nx_wa0 (listed' := #[true, true, true, true, false, true, false, true, true, false, false, false, false, false]) rfl (fun _ hm => ⟨hm.blkI 0 rfl, trivial⟩) ?_
      have h := J431 
      rw [hW] at h
      refine wa_weak ?_ ?_ h
      · exact ⟨rfl, rfl, rfl, rfl, rfl, rfl, rfl, rfl, rfl, rfl, rfl, rfl, rfl, rfl, rfl, rfl, rfl, rfl, rfl, trivial⟩
      · exact fun _ hm => hm.pick [0, 1] [0, 1, 2] [] rfl rfl
  have T487 : W 7 #[true, true, true, false, false, true, true, true, true, false, false, false, false, false] [(0, .pointer (some ⟨sb, 0, none⟩)), (1, .int .i64 ((q : Nat) : Int)), (4, .pointer (some ⟨g1, 0, none⟩)), (5, .pointer (some ⟨g2, 0, none⟩)), (6, .pointer (some ⟨sb, 0, none⟩)), (7, .slice A0 4 c0), (8, .pointer (some ⟨sb, 0, none⟩)), (9, .slice A1 n1 c1), (10, .pointer (some ⟨sb, 0, none⟩)), (11, .int .i64 ((q : Nat) : Int)), (12, .slice A n c), (13, .agg #[.slice A0 4 c0, .slice A1 n1 c1, .slice A n c, .int .i64 0, .int .i64 0]), (14, .pointer (some ⟨g2, 0, none⟩)), (15, .slice A0 4 c0), (16, .pointer (some ⟨g2, 1, none⟩)), (19, .pointer (some ⟨g2, 0, none⟩)), (20, .slice A0 4 c0), (21, .pointer (some ⟨g2, 2, none⟩)), (22, .slice A n c)] (fun w => Strm 25 w B sb (m + 40 + 100 + 1000)) [(g1, 54, [.slice none 0 0, .slice none 0 0, .slice none 0 0, .int .i64 0, .int .i64 0]), (g2, 54, [.slice A0 4 c0, .slice A1 n1 c1, .slice A n c, .int .i64 0, .int .i64 0])] [⟨.slice A n c, 142, 6, n, l.flatMap bkEnc⟩, ⟨.slice A1 n1 c1, 139, 2, n1, sl.flatMap skEnc⟩, ⟨.slice A0 4 c0, 135, 2, 4, cs.flatMap csEnc⟩] [] := by
    skip
    rw [hW]
    refine wa_all [3] (by kernel_rfl) rfl ⟨⟨_, rfl, ?_⟩, trivial⟩
    refine wl_ov (ov_load sc51 rfl (fun _ hm => hm.blkI 1 rfl) rfl) rfl ?_
    refine wl_nil ?_
    refine nx_wa0 (listed' := #[true, true, true, true, false, true, true, true, true, false, false, false, false, false]) rfl (fun _ hm => ⟨hm.blkI 0 rfl, trivial⟩) ?_
    refine wa_all [4] (by kernel_rfl) rfl ⟨⟨_, rfl, ?_⟩, trivial⟩
    refine wl_callv (v := .int .i64 SE) rfl cb80 rfl rfl (fun wx hm => (by rw [hSE]; exact stockFault_any cs A0 4 c0 sl A1 n1 c1 wx (SlT.ofOwn cs_len (hm.ownI 2 rfl) hc4) hco (by omega) (SlT.ofOwn sk_len (hm.ownI 1 rfl) hs1) hso (by omega))) ?_
    refine wl_nil ?_
    refine nx_wa0 (listed' := #[true, true, true, true, true, true, true, true, true, false, false, false, false, false]) rfl (fun _ hm => ⟨hm.blkI 0 rfl, trivial⟩) ?_
    refine wa_take 10 rfl (by kernel_rfl) (by kernel_rfl) (by kernel_rfl) (listed' := #[true, true, true, true, true, true, true, true, true, false, true, false, false, false]) rfl (fun _ _ _ h => h) (fun _ hm => ⟨hm.blkI 0 rfl, trivial⟩) (ov_field fo54_3 rfl rfl) rfl ?_
    refine wa_all [9] (by kernel_rfl) rfl ⟨⟨_, rfl, ?_⟩, trivial⟩
    refine wl_callv (v := .int .i64 KE) rfl cb81 rfl rfl (fun wx hm => (by rw [hKE]; exact bookingsFault_any cs A0 4 c0 l A n c wx (SlT.ofOwn cs_len (hm.ownI 2 rfl) hc4) hco (by omega) (SlT.ofOwn bk_len (hm.ownI 0 rfl) hlen) hok (by omega))) ?_
    refine wl_nil ?_
    refine nx_wa0 (listed' := #[true, true, true, true, true, true, true, true, true, true, true, false, false, false]) rfl (fun _ hm => ⟨hm.blkI 0 rfl, trivial⟩) ?_
    refine wa_all [11] (by kernel_rfl) rfl ⟨⟨_, rfl, ?_⟩, trivial⟩
    refine wl_store 1 sc41 rfl rfl rfl rfl rfl rfl ?_
    refine wl_nil ?_
    refine nx_wa0 (listed' := #[true, true, true, true, true, true, true, true, true, true, true, true, false, false]) rfl (fun _ hm => ⟨hm.blkI 0 rfl, trivial⟩) ?_
    refine wa_take 12 rfl (by kernel_rfl) (by kernel_rfl) (by kernel_rfl) (listed' := #[true, true, true, true, true, true, true, true, true, true, true, true, true, false]) rfl (fun _ _ _ h => h) (fun _ hm => ⟨hm.blkI 0 rfl, trivial⟩) (ov_field fo54_4 rfl rfl) rfl ?_
    refine wa_all [13] (by kernel_rfl) rfl ⟨⟨_, rfl, ?_⟩, trivial⟩
    refine wl_store 1 sc41 rfl rfl rfl rfl rfl rfl ?_
    refine wl_nil ?_
    refine nx_wa0 (listed' := #[true, true, true, true, true, true, true, true, true, true, true, true, true, true]) rfl (fun _ hm => ⟨hm.blkI 0 rfl, trivial⟩) ?_
    refine wa_done (by kernel_rfl) ?_
    refine nx_then ?_
    refine gw_seq ?_
    refine gw_region ?_
    refine wl_ov (ov_loads rz54 rfl (fun _ hm => hm.blkI 1 rfl) rfl rfl) rfl ?_
    refine wl_stores (cs' := [.slice A0 4 c0, .slice A1 n1 c1, .slice A n c, .int .i64 SE, .int .i64 KE]) 0 rz54 rfl rfl rfl rfl rfl rfl rfl rfl ?_
    refine wl_nil ?_
    refine nx_then ?_
    refine gw_ret ?_
    refine nx_retc 0 rfl rz54 rfl rfl rfl fun wx hm => ?_
    exact ⟨A0, c0, cs, A1, n1, c1, sl, A, n, c, l, by rw [← hSE, ← hKE], (SlT.ofOwn cs_len (hm.ownI 2 rfl) hc4), (SlT.ofOwn sk_len (hm.ownI 1 rfl) hs1), (SlT.ofOwn bk_len (hm.ownI 0 rfl) hlen), hco, hso, hok, hn5, hn9, hm.k.more (by omega), hm.g⟩
  have J231 : W 8 #[true, true, true, false, false, true, true, true, false, false, false, false, false, false] [(0, .pointer (some ⟨sb, 0, none⟩)), (1, .int .i64 ((q : Nat) : Int)), (4, .pointer (some ⟨g1, 0, none⟩)), (5, .pointer (some ⟨g2, 0, none⟩)), (6, .pointer (some ⟨sb, 0, none⟩)), (7, .slice A0 4 c0), (8, .pointer (some ⟨sb, 0, none⟩)), (9, .slice A1 n1 c1), (10, .pointer (some ⟨sb, 0, none⟩)), (11, .int .i64 ((q : Nat) : Int)), (12, .slice A n c), (13, .agg #[.slice A0 4 c0, .slice A1 n1 c1, .slice A n c, .int .i64 0, .int .i64 0]), (14, .pointer (some ⟨g2, 0, none⟩)), (15, .slice A0 4 c0), (16, .pointer (some ⟨g2, 1, none⟩)), (19, .pointer (some ⟨g2, 0, none⟩)), (20, .slice A0 4 c0), (21, .pointer (some ⟨g2, 2, none⟩))] (fun w => Strm 25 w B sb (m + 40 + 100 + 1000)) [(g1, 54, [.slice none 0 0, .slice none 0 0, .slice none 0 0, .int .i64 0, .int .i64 0]), (g2, 54, [.slice A0 4 c0, .slice A1 n1 c1, .slice A n c, .int .i64 0, .int .i64 0])] [⟨.slice A n c, 142, 6, n, l.flatMap bkEnc⟩, ⟨.slice A1 n1 c1, 139, 2, n1, sl.flatMap skEnc⟩, ⟨.slice A0 4 c0, 135, 2, 4, cs.flatMap csEnc⟩] [] := by
    skip
    rw [hW]
    refine wa_all [3, 8] (by kernel_rfl) rfl ⟨⟨_, rfl, ?_⟩, ⟨_, rfl, ?_⟩, trivial⟩
    · refine wl_ov (ov_load sc51 rfl (fun _ hm => hm.blkI 1 rfl) rfl) rfl ?_
      refine wl_nil ?_
      refine nx_wa0 (listed' := #[true, true, true, true, false, true, true, true, false, false, false, false, false, false]) rfl (fun _ hm => ⟨hm.blkI 0 rfl, trivial⟩) ?_
      have h := J239 
      rw [hW] at h
      refine wa_weak ?_ ?_ h
      · exact ⟨rfl, rfl, rfl, rfl, rfl, rfl, rfl, rfl, rfl, rfl, rfl, rfl, rfl, rfl, rfl, rfl, rfl, rfl, rfl, trivial⟩
      · exact fun _ hm => hm.pick [0, 1] [0, 1, 2] [] rfl rfl
    · refine wl_ov (ov_load sc52 rfl (fun _ hm => hm.blkI 1 rfl) rfl) rfl ?_
      refine wl_nil ?_
      refine nx_wa0 (listed' := #[true, true, true, false, false, true, true, true, true, false, false, false, false, false]) rfl (fun _ hm => ⟨hm.blkI 0 rfl, trivial⟩) ?_
      have h := T487 
      rw [hW] at h
      refine wa_weak ?_ ?_ h
      · exact ⟨rfl, rfl, rfl, rfl, rfl, rfl, rfl, rfl, rfl, rfl, rfl, rfl, rfl, rfl, rfl, rfl, rfl, rfl, rfl, trivial⟩
      · exact fun _ hm => hm.pick [0, 1] [0, 1, 2] [] rfl rfl
  have J423 : W 8 #[true, true, true, false, false, true, false, true, true, false, false, false, false, false] [(0, .pointer (some ⟨sb, 0, none⟩)), (1, .int .i64 ((q : Nat) : Int)), (4, .pointer (some ⟨g1, 0, none⟩)), (5, .pointer (some ⟨g2, 0, none⟩)), (6, .pointer (some ⟨sb, 0, none⟩)), (7, .slice A0 4 c0), (8, .pointer (some ⟨sb, 0, none⟩)), (9, .slice A1 n1 c1), (10, .pointer (some ⟨sb, 0, none⟩)), (11, .int .i64 ((q : Nat) : Int)), (12, .slice A n c), (13, .agg #[.slice A0 4 c0, .slice A1 n1 c1, .slice A n c, .int .i64 0, .int .i64 0]), (14, .pointer (some ⟨g2, 0, none⟩)), (15, .slice A0 4 c0), (16, .pointer (some ⟨g2, 1, none⟩)), (19, .pointer (some ⟨g2, 0, none⟩)), (21, .pointer (some ⟨g2, 2, none⟩)), (22, .slice A n c)] (fun w => Strm 25 w B sb (m + 40 + 100 + 1000)) [(g1, 54, [.slice none 0 0, .slice none 0 0, .slice none 0 0, .int .i64 0, .int .i64 0]), (g2, 54, [.slice A0 4 c0, .slice A1 n1 c1, .slice A n c, .int .i64 0, .int .i64 0])] [⟨.slice A n c, 142, 6, n, l.flatMap bkEnc⟩, ⟨.slice A1 n1 c1, 139, 2, n1, sl.flatMap skEnc⟩, ⟨.slice A0 4 c0, 135, 2, 4, cs.flatMap csEnc⟩] [] := by
    skip
    rw [hW]
    refine wa_all [3, 6] (by kernel_rfl) rfl ⟨⟨_, rfl, ?_⟩, ⟨_, rfl, ?_⟩, trivial⟩
    · refine wl_ov (ov_load sc51 rfl (fun _ hm => hm.blkI 1 rfl) rfl) rfl ?_
      refine wl_nil ?_
      refine nx_wa0 (listed' := #[true, true, true, true, false, true, false, true, true, false, false, false, false, false]) rfl (fun _ hm => ⟨hm.blkI 0 rfl, trivial⟩) ?_
      have h := J431 
      rw [hW] at h
      refine wa_weak ?_ ?_ h
      · exact ⟨rfl, rfl, rfl, rfl, rfl, rfl, rfl, rfl, rfl, rfl, rfl, rfl, rfl, rfl, rfl, rfl, rfl, rfl, rfl, trivial⟩
      · exact fun _ hm => hm.pick [0, 1] [0, 1, 2] [] rfl rfl
    · refine wl_ov (ov_load sc50 rfl (fun _ hm => hm.blkI 1 rfl) rfl) rfl ?_
      refine wl_nil ?_
      refine nx_wa0 (listed' := #[true, true, true, false, false, true, true, true, true, false, false, false, false, false]) rfl (fun _ hm => ⟨hm.blkI 0 rfl, trivial⟩) ?_
      have h := T487 
      rw [hW] at h
      refine wa_weak ?_ ?_ h
      · exact ⟨rfl, rfl, rfl, rfl, rfl, rfl, rfl, rfl, rfl, rfl, rfl, rfl, rfl, rfl, rfl, rfl, rfl, rfl, rfl, trivial⟩
      · exact fun _ hm => hm.pick [0, 1] [0, 1, 2] [] rfl rfl
  have J167 : W 9 #[true, true, true, false, false, true, false, true, false, false, false, false, false, false] [(0, .pointer (some ⟨sb, 0, none⟩)), (1, .int .i64 ((q : Nat) : Int)), (4, .pointer (some ⟨g1, 0, none⟩)), (5, .pointer (some ⟨g2, 0, none⟩)), (6, .pointer (some ⟨sb, 0, none⟩)), (7, .slice A0 4 c0), (8, .pointer (some ⟨sb, 0, none⟩)), (9, .slice A1 n1 c1), (10, .pointer (some ⟨sb, 0, none⟩)), (11, .int .i64 ((q : Nat) : Int)), (12, .slice A n c), (13, .agg #[.slice A0 4 c0, .slice A1 n1 c1, .slice A n c, .int .i64 0, .int .i64 0]), (14, .pointer (some ⟨g2, 0, none⟩)), (15, .slice A0 4 c0), (16, .pointer (some ⟨g2, 1, none⟩)), (19, .pointer (some ⟨g2, 0, none⟩)), (21, .pointer (some ⟨g2, 2, none⟩))] (fun w => Strm 25 w B sb (m + 40 + 100 + 1000)) [(g1, 54, [.slice none 0 0, .slice none 0 0, .slice none 0 0, .int .i64 0, .int .i64 0]), (g2, 54, [.slice A0 4 c0, .slice A1 n1 c1, .slice A n c, .int .i64 0, .int .i64 0])] [⟨.slice A n c, 142, 6, n, l.flatMap bkEnc⟩, ⟨.slice A1 n1 c1, 139, 2, n1, sl.flatMap skEnc⟩, ⟨.slice A0 4 c0, 135, 2, 4, cs.flatMap csEnc⟩] [] := by
    skip
    rw [hW]
    refine wa_all [3, 6, 8] (by kernel_rfl) rfl ⟨⟨_, rfl, ?_⟩, ⟨_, rfl, ?_⟩, ⟨_, rfl, ?_⟩, trivial⟩
    · refine wl_ov (ov_load sc51 rfl (fun _ hm => hm.blkI 1 rfl) rfl) rfl ?_
      refine wl_nil ?_
      refine nx_wa0 (listed' := #[true, true, true, true, false, true, false, true, false, false, false, false, false, false]) rfl (fun _ hm => ⟨hm.blkI 0 rfl, trivial⟩) ?_
      have h := J175 
      rw [hW] at h
      refine wa_weak ?_ ?_ h
      · exact ⟨rfl, rfl, rfl, rfl, rfl, rfl, rfl, rfl, rfl, rfl, rfl, rfl, rfl, rfl, rfl, rfl, rfl, rfl, trivial⟩
      · exact fun _ hm => hm.pick [0, 1] [0, 1, 2] [] rfl rfl
    · refine wl_ov (ov_load sc50 rfl (fun _ hm => hm.blkI 1 rfl) rfl) rfl ?_
      refine wl_nil ?_
      refine nx_wa0 (listed' := #[true, true, true, false, false, true, true, true, false, false, false, false, false, false]) rfl (fun _ hm => ⟨hm.blkI 0 rfl, trivial⟩) ?_
      have h := J231 
      rw [hW] at h
      refine wa_weak ?_ ?_ h
      · exact ⟨rfl, rfl, rfl, rfl, rfl, rfl, rfl, rfl, rfl, rfl, rfl, rfl, rfl, rfl, rfl, rfl, rfl, rfl, trivial⟩
      · exact fun _ hm => hm.pick [0, 1] [0, 1, 2] [] rfl rfl
    · refine wl_ov (ov_load sc52 rfl (fun _ hm => hm.blkI 1 rfl) rfl) rfl ?_
      refine wl_nil ?_
      refine nx_wa0 (listed' := #[true, true, true, false, false, true, false, true, true, false, false, false, false, false]) rfl (fun _ hm => ⟨hm.blkI 0 rfl, trivial⟩) ?_
      have h := J423 
      rw [hW] at h
      refine wa_weak ?_ ?_ h
      · exact ⟨rfl, rfl, rfl, rfl, rfl, rfl, rfl, rfl, rfl, rfl, rfl, rfl, rfl, rfl, rfl, rfl, rfl, rfl, trivial⟩
      · exact fun _ hm => hm.pick [0, 1] [0, 1, 2] [] rfl rfl
  have T493 : W 7 #[true, false, true, true, false, true, true, true, true, false, false, false, false, false] [(0, .pointer (some ⟨sb, 0, none⟩)), (1, .int .i64 ((q : Nat) : Int)), (4, .pointer (some ⟨g1, 0, none⟩)), (5, .pointer (some ⟨g2, 0, none⟩)), (6, .pointer (some ⟨sb, 0, none⟩)), (7, .slice A0 4 c0), (8, .pointer (some ⟨sb, 0, none⟩)), (9, .slice A1 n1 c1), (10, .pointer (some ⟨sb, 0, none⟩)), (11, .int .i64 ((q : Nat) : Int)), (12, .slice A n c), (13, .agg #[.slice A0 4 c0, .slice A1 n1 c1, .slice A n c, .int .i64 0, .int .i64 0]), (14, .pointer (some ⟨g2, 0, none⟩)), (16, .pointer (some ⟨g2, 1, none⟩)), (17, .slice A1 n1 c1), (19, .pointer (some ⟨g2, 0, none⟩)), (20, .slice A0 4 c0), (21, .pointer (some ⟨g2, 2, none⟩)), (22, .slice A n c)] (fun w => Strm 25 w B sb (m + 40 + 100 + 1000)) [(g1, 54, [.slice none 0 0, .slice none 0 0, .slice none 0 0, .int .i64 0, .int .i64 0]), (g2, 54, [.slice A0 4 c0, .slice A1 n1 c1, .slice A n c, .int .i64 0, .int .i64 0])] [⟨.slice A n c, 142, 6, n, l.flatMap bkEnc⟩, ⟨.slice A1 n1 c1, 139, 2, n1, sl.flatMap skEnc⟩, ⟨.slice A0 4 c0, 135, 2, 4, cs.flatMap csEnc⟩] [] := by
    skip
    rw [hW]
    refine wa_all [1] (by kernel_rfl) rfl ⟨⟨_, rfl, ?_⟩, trivial⟩
    refine wl_ov (ov_load sc50 rfl (fun _ hm => hm.blkI 1 rfl) rfl) rfl ?_
    refine wl_nil ?_
    refine nx_wa0 (listed' := #[true, true, true, true, false, true, true, true, true, false, false, false, false, false]) rfl (fun _ hm => ⟨hm.blkI 0 rfl, trivial⟩) ?_
    refine wa_all [4] (by kernel_rfl) rfl ⟨⟨_, rfl, ?_⟩, trivial⟩
    refine wl_callv (v := .int .i64 SE) rfl cb80 rfl rfl (fun wx hm => (by rw [hSE]; exact stockFault_any cs A0 4 c0 sl A1 n1 c1 wx (SlT.ofOwn cs_len (hm.ownI 2 rfl) hc4) hco (by omega) (SlT.ofOwn sk_len (hm.ownI 1 rfl) hs1) hso (by omega))) ?_
    refine wl_nil ?_
    refine nx_wa0 (listed' := #[true, true, true, true, true, true, true, true, true, false, false, false, false, false]) rfl (fun _ hm => ⟨hm.blkI 0 rfl, trivial⟩) ?_
    refine wa_take 10 rfl (by kernel_rfl) (by kernel_rfl) (by kernel_rfl) (listed' := #[true, true, true, true, true, true, true, true, true, false, true, false, false, false]) rfl (fun _ _ _ h => h) (fun _ hm => ⟨hm.blkI 0 rfl, trivial⟩) (ov_field fo54_3 rfl rfl) rfl ?_
    refine wa_all [9] (by kernel_rfl) rfl ⟨⟨_, rfl, ?_⟩, trivial⟩
    refine wl_callv (v := .int .i64 KE) rfl cb81 rfl rfl (fun wx hm => (by rw [hKE]; exact bookingsFault_any cs A0 4 c0 l A n c wx (SlT.ofOwn cs_len (hm.ownI 2 rfl) hc4) hco (by omega) (SlT.ofOwn bk_len (hm.ownI 0 rfl) hlen) hok (by omega))) ?_
    refine wl_nil ?_
    refine nx_wa0 (listed' := #[true, true, true, true, true, true, true, true, true, true, true, false, false, false]) rfl (fun _ hm => ⟨hm.blkI 0 rfl, trivial⟩) ?_
    refine wa_all [11] (by kernel_rfl) rfl ⟨⟨_, rfl, ?_⟩, trivial⟩
    refine wl_store 1 sc41 rfl rfl rfl rfl rfl rfl ?_
    refine wl_nil ?_
    refine nx_wa0 (listed' := #[true, true, true, true, true, true, true, true, true, true, true, true, false, false]) rfl (fun _ hm => ⟨hm.blkI 0 rfl, trivial⟩) ?_
    refine wa_take 12 rfl (by kernel_rfl) (by kernel_rfl) (by kernel_rfl) (listed' := #[true, true, true, true, true, true, true, true, true, true, true, true, true, false]) rfl (fun _ _ _ h => h) (fun _ hm => ⟨hm.blkI 0 rfl, trivial⟩) (ov_field fo54_4 rfl rfl) rfl ?_
    refine wa_all [13] (by kernel_rfl) rfl ⟨⟨_, rfl, ?_⟩, trivial⟩
    refine wl_store 1 sc41 rfl rfl rfl rfl rfl rfl ?_
    refine wl_nil ?_
    refine nx_wa0 (listed' := #[true, true, true, true, true, true, true, true, true, true, true, true, true, true]) rfl (fun _ hm => ⟨hm.blkI 0 rfl, trivial⟩) ?_
    refine wa_done (by kernel_rfl) ?_
    refine nx_then ?_
    refine gw_seq ?_
    refine gw_region ?_
    refine wl_ov (ov_loads rz54 rfl (fun _ hm => hm.blkI 1 rfl) rfl rfl) rfl ?_
    refine wl_stores (cs' := [.slice A0 4 c0, .slice A1 n1 c1, .slice A n c, .int .i64 SE, .int .i64 KE]) 0 rz54 rfl rfl rfl rfl rfl rfl rfl rfl ?_
    refine wl_nil ?_
    refine nx_then ?_
    refine gw_ret ?_
    refine nx_retc 0 rfl rz54 rfl rfl rfl fun wx hm => ?_
    exact ⟨A0, c0, cs, A1, n1, c1, sl, A, n, c, l, by rw [← hSE, ← hKE], (SlT.ofOwn cs_len (hm.ownI 2 rfl) hc4), (SlT.ofOwn sk_len (hm.ownI 1 rfl) hs1), (SlT.ofOwn bk_len (hm.ownI 0 rfl) hlen), hco, hso, hok, hn5, hn9, hm.k.more (by omega), hm.g⟩
  have J237 : W 8 #[true, false, true, true, false, true, true, true, false, false, false, false, false, false] [(0, .pointer (some ⟨sb, 0, none⟩)), (1, .int .i64 ((q : Nat) : Int)), (4, .pointer (some ⟨g1, 0, none⟩)), (5, .pointer (some ⟨g2, 0, none⟩)), (6, .pointer (some ⟨sb, 0, none⟩)), (7, .slice A0 4 c0), (8, .pointer (some ⟨sb, 0, none⟩)), (9, .slice A1 n1 c1), (10, .pointer (some ⟨sb, 0, none⟩)), (11, .int .i64 ((q : Nat) : Int)), (12, .slice A n c), (13, .agg #[.slice A0 4 c0, .slice A1 n1 c1, .slice A n c, .int .i64 0, .int .i64 0]), (14, .pointer (some ⟨g2, 0, none⟩)), (16, .pointer (some ⟨g2, 1, none⟩)), (17, .slice A1 n1 c1), (19, .pointer (some ⟨g2, 0, none⟩)), (20, .slice A0 4 c0), (21, .pointer (some ⟨g2, 2, none⟩))] (fun w => Strm 25 w B sb (m + 40 + 100 + 1000)) [(g1, 54, [.slice none 0 0, .slice none 0 0, .slice none 0 0, .int .i64 0, .int .i64 0]), (g2, 54, [.slice A0 4 c0, .slice A1 n1 c1, .slice A n c, .int .i64 0, .int .i64 0])] [⟨.slice A n c, 142, 6, n, l.flatMap bkEnc⟩, ⟨.slice A1 n1 c1, 139, 2, n1, sl.flatMap skEnc⟩, ⟨.slice A0 4 c0, 135, 2, 4, cs.flatMap csEnc⟩] [] := by
    skip
    rw [hW]
    refine wa_all [1, 8] (by kernel_rfl) rfl ⟨⟨_, rfl, ?_⟩, ⟨_, rfl, ?_⟩, trivial⟩
    · refine wl_ov (ov_load sc50 rfl (fun _ hm => hm.blkI 1 rfl) rfl) rfl ?_
      refine wl_nil ?_
      refine nx_wa0 (listed' := #[true, true, true, true, false, true, true, true, false, false, false, false, false, false]) rfl (fun _ hm => ⟨hm.blkI 0 rfl, trivial⟩) ?_
      have h := J239 
      rw [hW] at h
      refine wa_weak ?_ ?_ h
      · exact ⟨rfl, rfl, rfl, rfl, rfl, rfl, rfl, rfl, rfl, rfl, rfl, rfl, rfl, rfl, rfl, rfl, rfl, rfl, rfl, trivial⟩
      · exact fun _ hm => hm.pick [0, 1] [0, 1, 2] [] rfl rfl
    · refine wl_ov (ov_load sc52 rfl (fun _ hm => hm.blkI 1 rfl) rfl) rfl ?_
      refine wl_nil ?_
      refine nx_wa0 (listed' := #[true, false, true, true, false, true, true, true, true, false, false, false, false, false]) rfl (fun _ hm => ⟨hm.blkI 0 rfl, trivial⟩) ?_
      have h := T493 
      rw [hW] at h
      refine wa_weak ?_ ?_ h
      · exact ⟨rfl, rfl, rfl, rfl, rfl, rfl, rfl, rfl, rfl, rfl, rfl, rfl, rfl, rfl, rfl, rfl, rfl, rfl, rfl, trivial⟩
      · exact fun _ hm => hm.pick [0, 1] [0, 1, 2] [] rfl rfl
  have J429 : W 8 #[true, false, true, true, false, true, false, true, true, false, false, false, false, false] [(0, .pointer (some ⟨sb, 0, none⟩)), (1, .int .i64 ((q : Nat) : Int)), (4, .pointer (some ⟨g1, 0, none⟩)), (5, .pointer (some ⟨g2, 0, none⟩)), (6, .pointer (some ⟨sb, 0, none⟩)), (7, .slice A0 4 c0), (8, .pointer (some ⟨sb, 0, none⟩)), (9, .slice A1 n1 c1), (10, .pointer (some ⟨sb, 0, none⟩)), (11, .int .i64 ((q : Nat) : Int)), (12, .slice A n c), (13, .agg #[.slice A0 4 c0, .slice A1 n1 c1, .slice A n c, .int .i64 0, .int .i64 0]), (14, .pointer (some ⟨g2, 0, none⟩)), (16, .pointer (some ⟨g2, 1, none⟩)), (17, .slice A1 n1 c1), (19, .pointer (some ⟨g2, 0, none⟩)), (21, .pointer (some ⟨g2, 2, none⟩)), (22, .slice A n c)] (fun w => Strm 25 w B sb (m + 40 + 100 + 1000)) [(g1, 54, [.slice none 0 0, .slice none 0 0, .slice none 0 0, .int .i64 0, .int .i64 0]), (g2, 54, [.slice A0 4 c0, .slice A1 n1 c1, .slice A n c, .int .i64 0, .int .i64 0])] [⟨.slice A n c, 142, 6, n, l.flatMap bkEnc⟩, ⟨.slice A1 n1 c1, 139, 2, n1, sl.flatMap skEnc⟩, ⟨.slice A0 4 c0, 135, 2, 4, cs.flatMap csEnc⟩] [] := by
    skip
    rw [hW]
    refine wa_all [1, 6] (by kernel_rfl) rfl ⟨⟨_, rfl, ?_⟩, ⟨_, rfl, ?_⟩, trivial⟩
    · refine wl_ov (ov_load sc50 rfl (fun _ hm => hm.blkI 1 rfl) rfl) rfl ?_
      refine wl_nil ?_
      refine nx_wa0 (listed' := #[true, true, true, true, false, true, false, true, true, false, false, false, false, false]) rfl (fun _ hm => ⟨hm.blkI 0 rfl, trivial⟩) ?_
      have h := J431 
      rw [hW] at h
      refine wa_weak ?_ ?_ h
      · exact ⟨rfl, rfl, rfl, rfl, rfl, rfl, rfl, rfl, rfl, rfl, rfl, rfl, rfl, rfl, rfl, rfl, rfl, rfl, rfl, trivial⟩
      · exact fun _ hm => hm.pick [0, 1] [0, 1, 2] [] rfl rfl
    · refine wl_ov (ov_load sc50 rfl (fun _ hm => hm.blkI 1 rfl) rfl) rfl ?_
      refine wl_nil ?_
      refine nx_wa0 (listed' := #[true, false, true, true, false, true, true, true, true, false, false, false, false, false]) rfl (fun _ hm => ⟨hm.blkI 0 rfl, trivial⟩) ?_
      have h := T493 
      rw [hW] at h
      refine wa_weak ?_ ?_ h
      · exact ⟨rfl, rfl, rfl, rfl, rfl, rfl, rfl, rfl, rfl, rfl, rfl, rfl, rfl, rfl, rfl, rfl, rfl, rfl, rfl, trivial⟩
      · exact fun _ hm => hm.pick [0, 1] [0, 1, 2] [] rfl rfl
  have J173 : W 9 #[true, false, true, true, false, true, false, true, false, false, false, false, false, false] [(0, .pointer (some ⟨sb, 0, none⟩)), (1, .int .i64 ((q : Nat) : Int)), (4, .pointer (some ⟨g1, 0, none⟩)), (5, .pointer (some ⟨g2, 0, none⟩)), (6, .pointer (some ⟨sb, 0, none⟩)), (7, .slice A0 4 c0), (8, .pointer (some ⟨sb, 0, none⟩)), (9, .slice A1 n1 c1), (10, .pointer (some ⟨sb, 0, none⟩)), (11, .int .i64 ((q : Nat) : Int)), (12, .slice A n c), (13, .agg #[.slice A0 4 c0, .slice A1 n1 c1, .slice A n c, .int .i64 0, .int .i64 0]), (14, .pointer (some ⟨g2, 0, none⟩)), (16, .pointer (some ⟨g2, 1, none⟩)), (17, .slice A1 n1 c1), (19, .pointer (some ⟨g2, 0, none⟩)), (21, .pointer (some ⟨g2, 2, none⟩))] (fun w => Strm 25 w B sb (m + 40 + 100 + 1000)) [(g1, 54, [.slice none 0 0, .slice none 0 0, .slice none 0 0, .int .i64 0, .int .i64 0]), (g2, 54, [.slice A0 4 c0, .slice A1 n1 c1, .slice A n c, .int .i64 0, .int .i64 0])] [⟨.slice A n c, 142, 6, n, l.flatMap bkEnc⟩, ⟨.slice A1 n1 c1, 139, 2, n1, sl.flatMap skEnc⟩, ⟨.slice A0 4 c0, 135, 2, 4, cs.flatMap csEnc⟩] [] := by
    skip
    rw [hW]
    refine wa_all [1, 6, 8] (by kernel_rfl) rfl ⟨⟨_, rfl, ?_⟩, ⟨_, rfl, ?_⟩, ⟨_, rfl, ?_⟩, trivial⟩
    · refine wl_ov (ov_load sc50 rfl (fun _ hm => hm.blkI 1 rfl) rfl) rfl ?_
      refine wl_nil ?_
      refine nx_wa0 (listed' := #[true, true, true, true, false, true, false, true, false, false, false, false, false, false]) rfl (fun _ hm => ⟨hm.blkI 0 rfl, trivial⟩) ?_
      have h := J175 
      rw [hW] at h
      refine wa_weak ?_ ?_ h
      · exact ⟨rfl, rfl, rfl, rfl, rfl, rfl, rfl, rfl, rfl, rfl, rfl, rfl, rfl, rfl, rfl, rfl, rfl, rfl, trivial⟩
      · exact fun _ hm => hm.pick [0, 1] [0, 1, 2] [] rfl rfl
    · refine wl_ov (ov_load sc50 rfl (fun _ hm => hm.blkI 1 rfl) rfl) rfl ?_
      refine wl_nil ?_
      refine nx_wa0 (listed' := #[true, false, true, true, false, true, true, true, false, false, false, false, false, false]) rfl (fun _ hm => ⟨hm.blkI 0 rfl, trivial⟩) ?_
      have h := J237 
      rw [hW] at h
      refine wa_weak ?_ ?_ h
      · exact ⟨rfl, rfl, rfl, rfl, rfl, rfl, rfl, rfl, rfl, rfl, rfl, rfl, rfl, rfl, rfl, rfl, rfl, rfl, trivial⟩
      · exact fun _ hm => hm.pick [0, 1] [0, 1, 2] [] rfl rfl
    · refine wl_ov (ov_load sc52 rfl (fun _ hm => hm.blkI 1 rfl) rfl) rfl ?_
      refine wl_nil ?_
      refine nx_wa0 (listed' := #[true, false, true, true, false, true, false, true, true, false, false, false, false, false]) rfl (fun _ hm => ⟨hm.blkI 0 rfl, trivial⟩) ?_
      have h := J429 
      rw [hW] at h
      refine wa_weak ?_ ?_ h
      · exact ⟨rfl, rfl, rfl, rfl, rfl, rfl, rfl, rfl, rfl, rfl, rfl, rfl, rfl, rfl, rfl, rfl, rfl, rfl, trivial⟩
      · exact fun _ hm => hm.pick [0, 1] [0, 1, 2] [] rfl rfl
  have J485 : W 8 #[true, false, true, false, false, true, true, true, true, false, false, false, false, false] [(0, .pointer (some ⟨sb, 0, none⟩)), (1, .int .i64 ((q : Nat) : Int)), (4, .pointer (some ⟨g1, 0, none⟩)), (5, .pointer (some ⟨g2, 0, none⟩)), (6, .pointer (some ⟨sb, 0, none⟩)), (7, .slice A0 4 c0), (8, .pointer (some ⟨sb, 0, none⟩)), (9, .slice A1 n1 c1), (10, .pointer (some ⟨sb, 0, none⟩)), (11, .int .i64 ((q : Nat) : Int)), (12, .slice A n c), (13, .agg #[.slice A0 4 c0, .slice A1 n1 c1, .slice A n c, .int .i64 0, .int .i64 0]), (14, .pointer (some ⟨g2, 0, none⟩)), (16, .pointer (some ⟨g2, 1, none⟩)), (19, .pointer (some ⟨g2, 0, none⟩)), (20, .slice A0 4 c0), (21, .pointer (some ⟨g2, 2, none⟩)), (22, .slice A n c)] (fun w => Strm 25 w B sb (m + 40 + 100 + 1000)) [(g1, 54, [.slice none 0 0, .slice none 0 0, .slice none 0 0, .int .i64 0, .int .i64 0]), (g2, 54, [.slice A0 4 c0, .slice A1 n1 c1, .slice A n c, .int .i64 0, .int .i64 0])] [⟨.slice A n c, 142, 6, n, l.flatMap bkEnc⟩, ⟨.slice A1 n1 c1, 139, 2, n1, sl.flatMap skEnc⟩, ⟨.slice A0 4 c0, 135, 2, 4, cs.flatMap csEnc⟩] [] := by
    skip
    rw [hW]
    refine wa_all [1, 3] (by kernel_rfl) rfl ⟨⟨_, rfl, ?_⟩, ⟨_, rfl, ?_⟩, trivial⟩
    · refine wl_ov (ov_load sc50 rfl (fun _ hm => hm.blkI 1 rfl) rfl) rfl ?_
      refine wl_nil ?_
      refine nx_wa0 (listed' := #[true, true, true, false, false, true, true, true, true, false, false, false, false, false]) rfl (fun _ hm => ⟨hm.blkI 0 rfl, trivial⟩) ?_
      have h := T487 
      rw [hW] at h
      refine wa_weak ?_ ?_ h
      · exact ⟨rfl, rfl, rfl, rfl, rfl, rfl, rfl, rfl, rfl, rfl, rfl, rfl, rfl, rfl, rfl, rfl, rfl, rfl, rfl, trivial⟩
      · exact fun _ hm => hm.pick [0, 1] [0, 1, 2] [] rfl rfl
    · refine wl_ov (ov_load sc51 rfl (fun _ hm => hm.blkI 1 rfl) rfl) rfl ?_
      refine wl_nil ?_
      refine nx_wa0 (listed' := #[true, false, true, true, false, true, true, true, true, false, false, false, false, false]) rfl (fun _ hm => ⟨hm.blkI 0 rfl, trivial⟩) ?_
      have h := T493 
      rw [hW] at h
      refine wa_weak ?_ ?_ h
      · exact ⟨rfl, rfl, rfl, rfl, rfl, rfl, rfl, rfl, rfl, rfl, rfl, rfl, rfl, rfl, rfl, rfl, rfl, rfl, rfl, trivial⟩
      · exact fun _ hm => hm.pick [0, 1] [0, 1, 2] [] rfl rfl
  have J229 : W 9 #[true, false, true, false, false, true, true, true, false, false, false, false, false, false] [(0, .pointer (some ⟨sb, 0, none⟩)), (1, .int .i64 ((q : Nat) : Int)), (4, .pointer (some ⟨g1, 0, none⟩)), (5, .pointer (some ⟨g2, 0, none⟩)), (6, .pointer (some ⟨sb, 0, none⟩)), (7, .slice A0 4 c0), (8, .pointer (some ⟨sb, 0, none⟩)), (9, .slice A1 n1 c1), (10, .pointer (some ⟨sb, 0, none⟩)), (11, .int .i64 ((q : Nat) : Int)), (12, .slice A n c), (13, .agg #[.slice A0 4 c0, .slice A1 n1 c1, .slice A n c, .int .i64 0, .int .i64 0]), (14, .pointer (some ⟨g2, 0, none⟩)), (16, .pointer (some ⟨g2, 1, none⟩)), (19, .pointer (some ⟨g2, 0, none⟩)), (20, .slice A0 4 c0), (21, .pointer (some ⟨g2, 2, none⟩))] (fun w => Strm 25 w B sb (m + 40 + 100 + 1000)) [(g1, 54, [.slice none 0 0, .slice none 0 0, .slice none 0 0, .int .i64 0, .int .i64 0]), (g2, 54, [.slice A0 4 c0, .slice A1 n1 c1, .slice A n c, .int .i64 0, .int .i64 0])] [⟨.slice A n c, 142, 6, n, l.flatMap bkEnc⟩, ⟨.slice A1 n1 c1, 139, 2, n1, sl.flatMap skEnc⟩, ⟨.slice A0 4 c0, 135, 2, 4, cs.flatMap csEnc⟩] [] := by
    skip
    rw [hW]
    refine wa_all [1, 3, 8] (by kernel_rfl) rfl ⟨⟨_, rfl, ?_⟩, ⟨_, rfl, ?_⟩, ⟨_, rfl, ?_⟩, trivial⟩
    · refine wl_ov (ov_load sc50 rfl (fun _ hm => hm.blkI 1 rfl) rfl) rfl ?_
      refine wl_nil ?_
      refine nx_wa0 (listed' := #[true, true, true, false, false, true, true, true, false, false, false, false, false, false]) rfl (fun _ hm => ⟨hm.blkI 0 rfl, trivial⟩) ?_
      have h := J231 
      rw [hW] at h
      refine wa_weak ?_ ?_ h
      · exact ⟨rfl, rfl, rfl, rfl, rfl, rfl, rfl, rfl, rfl, rfl, rfl, rfl, rfl, rfl, rfl, rfl, rfl, rfl, trivial⟩
      · exact fun _ hm => hm.pick [0, 1] [0, 1, 2] [] rfl rfl
    · refine wl_ov (ov_load sc51 rfl (fun _ hm => hm.blkI 1 rfl) rfl) rfl ?_
      refine wl_nil ?_
      refine nx_wa0 (listed' := #[true, false, true, true, false, true, true, true, false, false, false, false, false, false]) rfl (fun _ hm => ⟨hm.blkI 0 rfl, trivial⟩) ?_
      have h := J237 
      rw [hW] at h
      refine wa_weak ?_ ?_ h
      · exact ⟨rfl, rfl, rfl, rfl, rfl, rfl, rfl, rfl, rfl, rfl, rfl, rfl, rfl, rfl, rfl, rfl, rfl, rfl, trivial⟩
      · exact fun _ hm => hm.pick [0, 1] [0, 1, 2] [] rfl rfl
    · refine wl_ov (ov_load sc52 rfl (fun _ hm => hm.blkI 1 rfl) rfl) rfl ?_
      refine wl_nil ?_
      refine nx_wa0 (listed' := #[true, false, true, false, false, true, true, true, true, false, false, false, false, false]) rfl (fun _ hm => ⟨hm.blkI 0 rfl, trivial⟩) ?_
      have h := J485 
      rw [hW] at h
      refine wa_weak ?_ ?_ h
      · exact ⟨rfl, rfl, rfl, rfl, rfl, rfl, rfl, rfl, rfl, rfl, rfl, rfl, rfl, rfl, rfl, rfl, rfl, rfl, trivial⟩
      · exact fun _ hm => hm.pick [0, 1] [0, 1, 2] [] rfl rfl
  have J421 : W 9 #[true, false, true, false, false, true, false, true, true, false, false, false, false, false] [(0, .pointer (some ⟨sb, 0, none⟩)), (1, .int .i64 ((q : Nat) : Int)), (4, .pointer (some ⟨g1, 0, none⟩)), (5, .pointer (some ⟨g2, 0, none⟩)), (6, .pointer (some ⟨sb, 0, none⟩)), (7, .slice A0 4 c0), (8, .pointer (some ⟨sb, 0, none⟩)), (9, .slice A1 n1 c1), (10, .pointer (some ⟨sb, 0, none⟩)), (11, .int .i64 ((q : Nat) : Int)), (12, .slice A n c), (13, .agg #[.slice A0 4 c0, .slice A1 n1 c1, .slice A n c, .int .i64 0, .int .i64 0]), (14, .pointer (some ⟨g2, 0, none⟩)), (16, .pointer (some ⟨g2, 1, none⟩)), (19, .pointer (some ⟨g2, 0, none⟩)), (21, .pointer (some ⟨g2, 2, none⟩)), (22, .slice A n c)] (fun w => Strm 25 w B sb (m + 40 + 100 + 1000)) [(g1, 54, [.slice none 0 0, .slice none 0 0, .slice none 0 0, .int .i64 0, .int .i64 0]), (g2, 54, [.slice A0 4 c0, .slice A1 n1 c1, .slice A n c, .int .i64 0, .int .i64 0])] [⟨.slice A n c, 142, 6, n, l.flatMap bkEnc⟩, ⟨.slice A1 n1 c1, 139, 2, n1, sl.flatMap skEnc⟩, ⟨.slice A0 4 c0, 135, 2, 4, cs.flatMap csEnc⟩] [] := by
    skip
    rw [hW]
    refine wa_all [1, 3, 6] (by kernel_rfl) rfl ⟨⟨_, rfl, ?_⟩, ⟨_, rfl, ?_⟩, ⟨_, rfl, ?_⟩, trivial⟩
    · refine wl_ov (ov_load sc50 rfl (fun _ hm => hm.blkI 1 rfl) rfl) rfl ?_
      refine wl_nil ?_
      refine nx_wa0 (listed' := #[true, true, true, false, false, true, false, true, true, false, false, false, false, false]) rfl (fun _ hm => ⟨hm.blkI 0 rfl, trivial⟩) ?_
      have h := J423 
      rw [hW] at h
      refine wa_weak ?_ ?_ h
      · exact ⟨rfl, rfl, rfl, rfl, rfl, rfl, rfl, rfl, rfl, rfl, rfl, rfl, rfl, rfl, rfl, rfl, rfl, rfl, trivial⟩
      · exact fun _ hm => hm.pick [0, 1] [0, 1, 2] [] rfl rfl
    · refine wl_ov (ov_load sc51 rfl (fun _ hm => hm.blkI 1 rfl) rfl) rfl ?_
      refine wl_nil ?_
      refine nx_wa0 (listed' := #[true, false, true, true, false, true, false, true, true, false, false, false, false, false]) rfl (fun _ hm => ⟨hm.blkI 0 rfl, trivial⟩) ?_
      have h := J429 
      rw [hW] at h
      refine wa_weak ?_ ?_ h
      · exact ⟨rfl, rfl, rfl, rfl, rfl, rfl, rfl, rfl, rfl, rfl, rfl, rfl, rfl, rfl, rfl, rfl, rfl, rfl, trivial⟩
      · exact fun _ hm => hm.pick [0, 1] [0, 1, 2] [] rfl rfl
    · refine wl_ov (ov_load sc50 rfl (fun _ hm => hm.blkI 1 rfl) rfl) rfl ?_
      refine wl_nil ?_
      refine nx_wa0 (listed' := #[true, false, true, false, false, true, true, true, true, false, false, false, false, false]) rfl (fun _ hm => ⟨hm.blkI 0 rfl, trivial⟩) ?_
      have h := J485 
      rw [hW] at h
      refine wa_weak ?_ ?_ h
      · exact ⟨rfl, rfl, rfl, rfl, rfl, rfl, rfl, rfl, rfl, rfl, rfl, rfl, rfl, rfl, rfl, rfl, rfl, rfl, trivial⟩
      · exact fun _ hm => hm.pick [0, 1] [0, 1, 2] [] rfl rfl
  have J165 : W 10 #[true, false, true, false, false, true, false, true, false, false, false, false, false, false] [(0, .pointer (some ⟨sb, 0, none⟩)), (1, .int .i64 ((q : Nat) : Int)), (4, .pointer (some ⟨g1, 0, none⟩)), (5, .pointer (some ⟨g2, 0, none⟩)), (6, .pointer (some ⟨sb, 0, none⟩)), (7, .slice A0 4 c0), (8, .pointer (some ⟨sb, 0, none⟩)), (9, .slice A1 n1 c1), (10, .pointer (some ⟨sb, 0, none⟩)), (11, .int .i64 ((q : Nat) : Int)), (12, .slice A n c), (13, .agg #[.slice A0 4 c0, .slice A1 n1 c1, .slice A n c, .int .i64 0, .int .i64 0]), (14, .pointer (some ⟨g2, 0, none⟩)), (16, .pointer (some ⟨g2, 1, none⟩)), (19, .pointer (some ⟨g2, 0, none⟩)), (21, .pointer (some ⟨g2, 2, none⟩))] (fun w => Strm 25 w B sb (m + 40 + 100 + 1000)) [(g1, 54, [.slice none 0 0, .slice none 0 0, .slice none 0 0, .int .i64 0, .int .i64 0]), (g2, 54, [.slice A0 4 c0, .slice A1 n1 c1, .slice A n c, .int .i64 0, .int .i64 0])] [⟨.slice A n c, 142, 6, n, l.flatMap bkEnc⟩, ⟨.slice A1 n1 c1, 139, 2, n1, sl.flatMap skEnc⟩, ⟨.slice A0 4 c0, 135, 2, 4, cs.flatMap csEnc⟩] [] := by
    skip
    rw [hW]
    refine wa_all [1, 3, 6, 8] (by kernel_rfl) rfl ⟨⟨_, rfl, ?_⟩, ⟨_, rfl, ?_⟩, ⟨_, rfl, ?_⟩, ⟨_, rfl, ?_⟩, trivial⟩
    · refine wl_ov (ov_load sc50 rfl (fun _ hm => hm.blkI 1 rfl) rfl) rfl ?_
      refine wl_nil ?_
      refine nx_wa0 (listed' := #[true, true, true, false, false, true, false, true, false, false, false, false, false, false]) rfl (fun _ hm => ⟨hm.blkI 0 rfl, trivial⟩) ?_
      have h := J167 
      rw [hW] at h
      refine wa_weak ?_ ?_ h
      · exact ⟨rfl, rfl, rfl, rfl, rfl, rfl, rfl, rfl, rfl, rfl, rfl, rfl, rfl, rfl, rfl, rfl, rfl, trivial⟩
      · exact fun _ hm => hm.pick [0, 1] [0, 1, 2] [] rfl rfl
    · refine wl_ov (ov_load sc51 rfl (fun _ hm => hm.blkI 1 rfl) rfl) rfl ?_
      refine wl_nil ?_
      refine nx_wa0 (listed' := #[true, false, true, true, false, true, false, true, false, false, false, false, false, false]) rfl (fun _ hm => ⟨hm.blkI 0 rfl, trivial⟩) ?_
      have h := J173 
      rw [hW] at h
      refine wa_weak ?_ ?_ h
      · exact ⟨rfl, rfl, rfl, rfl, rfl, rfl, rfl, rfl, rfl, rfl, rfl, rfl, rfl, rfl, rfl, rfl, rfl, trivial⟩
      · exact fun _ hm => hm.pick [0, 1] [0, 1, 2] [] rfl rfl
    · refine wl_ov (ov_load sc50 rfl (fun _ hm => hm.blkI 1 rfl) rfl) rfl ?_
      refine wl_nil ?_
      refine nx_wa0 (listed' := #[true, false, true, false, false, true, true, true, false, false, false, false, false, false]) rfl (fun _ hm => ⟨hm.blkI 0 rfl, trivial⟩) ?_
      have h := J229 
      rw [hW] at h
      refine wa_weak ?_ ?_ h
      · exact ⟨rfl, rfl, rfl, rfl, rfl, rfl, rfl, rfl, rfl, rfl, rfl, rfl, rfl, rfl, rfl, rfl, rfl, trivial⟩
      · exact fun _ hm => hm.pick [0, 1] [0, 1, 2] [] rfl rfl
    · refine wl_ov (ov_load sc52 rfl (fun _ hm => hm.blkI 1 rfl) rfl) rfl ?_
      refine wl_nil ?_
      refine nx_wa0 (listed' := #[true, false, true, false, false, true, false, true, true, false, false, false, false, false]) rfl (fun _ hm => ⟨hm.blkI 0 rfl, trivial⟩) ?_
      have h := J421 
      rw [hW] at h
      refine wa_weak ?_ ?_ h
      · exact ⟨rfl, rfl, rfl, rfl, rfl, rfl, rfl, rfl, rfl, rfl, rfl, rfl, rfl, rfl, rfl, rfl, rfl, trivial⟩
      · exact fun _ hm => hm.pick [0, 1] [0, 1, 2] [] rfl rfl
  rw [hW]
  have h := J165 
  rw [hW] at h
  refine wa_weak ?_ ?_ h
  · exact ⟨rfl, rfl, rfl, rfl, rfl, rfl, rfl, rfl, rfl, rfl, rfl, rfl, rfl, rfl, rfl, rfl, trivial⟩
  · exact fun _ hm => hm.pick [1, 0] [0, 1, 2] [] rfl rfl

set_option maxRecDepth 100000 in
set_option maxHeartbeats 400000 in
theorem call_any (A0 A1 A : Option Addr) (n0 c0 n1 c1 n c : Nat) (x y : Int) (w : World) :
    Calls Tryz.prog 23 #[.agg #[.slice A0 n0 c0, .slice A1 n1 c1, .slice A n c, .int .i64 x, .int .i64 y]] w (GotE w (firstE [x, y])) := by
  refine gw_enter ⟨9, w, none, []⟩ Tryz.func23 rfl Tryz.ntmps23 rfl (mem0 (X := []) allF_nil allL_nil) ?_
  refine gw_seq ?_
  refine gw_region ?_
  refine wl_box rfl rfl rfl fun g1 => ?_
  refine wl_ov (ov_assign rfl) rfl ?_
  refine wl_nil ?_
  refine nx_then ?_
  refine gw_seq ?_
  refine gw_region ?_
  refine wl_ov (ov_field fo54_3 rfl rfl) rfl ?_
  refine wl_ov (ov_load sc41 rfl (fun _ hm => hm.blkI 0 rfl) rfl) rfl ?_
  refine wl_ov (ov_field fo54_4 rfl rfl) rfl ?_
  refine wl_ov (ov_load sc41 rfl (fun _ hm => hm.blkI 0 rfl) rfl) rfl ?_
  refine wl_buildSlice (e := 41) (cs := [.int .i64 x, .int .i64 y]) rfl (by kernel_rfl) rfl fun g2 => ?_
  refine wl_callw rfl cb22 rfl rfl (fun wx hm => (errs_any [x, y] _ _ _ wx (hm.blkI 0 rfl) (by simp))) ?_
  refine wl_ov (ov_assign rfl) rfl ?_
  refine wl_nil ?_
  refine nx_then ?_
  refine gw_ret ?_
  refine nx_ret1 rfl rfl fun wx hm => ?_
  exact ⟨rfl, hm.g⟩

set_option maxRecDepth 100000 in
set_option maxHeartbeats 1000000 in
theorem bookingsFree_walk (a0 : Option Addr) (len0 cap0 : Nat) (z0 : List Int) (w : World) (hR : RowIn w a0 len0 cap0 z0) :
    Calls Tryz.prog 4 #[.slice a0 len0 cap0] w fun e w' => e = .returned (.bool true) ∧ Below w.heap.size w w' := by
  refine gw_enter ⟨145, w, none, []⟩ Tryz.func4 rfl Tryz.ntmps4 rfl (mem0 (X := []) allF_nil allL_nil) ?_
  refine gw_seq ?_
  refine gw_region ?_
  refine wl_ov (ov_assign rfl) rfl ?_
  refine wl_nil ?_
  refine nx_then ?_
  refine gw_seq ?_
  refine gw_region ?_
  refine wl_ov (ov_move rfl) rfl ?_
  refine wl_ov (ov_build (cs := [.slice a0 len0 cap0, .int .i64 0]) rfl (by kernel_rfl)) rfl ?_
  refine wl_box rfl rfl rfl fun sb => ?_
  refine wl_ov (ov_assign rfl) rfl ?_
  refine wl_nil ?_
  refine nx_then ?_
  refine gw_seq ?_
  refine gw_region ?_
  refine wl_ov (ov_move rfl) rfl ?_
  refine wl_ov (ov_move rfl) rfl ?_
  refine wl_law [135, 139, 142] hR 0 rfl fun w1 B hg1 hsb => ?_
  refine wl_got (γ := Int) (val := fun v => .int .i64 v) (φ := fun v => 0 ≤ v ∧ (v ≤ 9 ∨ v = 0)) rfl cb15 rfl rfl rfl rfl (fun wx hm => (range_any _ _ wx B sb _ hm.k (by omega) (by omega) (by omega) (by omega) (by omega))) fun v1 hv1 => ?_
  obtain ⟨q, rfl⟩ := Int.eq_ofNat_of_zero_le (show 0 ≤ v1 by omega)
  have hq9 : q ≤ 9 := by omega
  refine wl_calls (γ := Option Addr × Nat × List Cs × Option Addr × Nat × Nat × List Sk × Option Addr × Nat × Nat × List Bk) (val := (fun (g : Option Addr × Nat × List Cs × Option Addr × Nat × Nat × List Sk × Option Addr × Nat × Nat × List Bk) => .agg #[.slice g.1 4 g.2.1, .slice g.2.2.2.1 g.2.2.2.2.1 g.2.2.2.2.2.1, .slice g.2.2.2.2.2.2.2.1 g.2.2.2.2.2.2.2.2.1 g.2.2.2.2.2.2.2.2.2.1, .int .i64 (stockE g.2.2.1 g.2.2.2.2.2.2.1), .int .i64 (checkE g.2.2.1 g.2.2.2.2.2.2.2.2.2.2)])) (φ := (fun (g : Option Addr × Nat × List Cs × Option Addr × Nat × Nat × List Sk × Option Addr × Nat × Nat × List Bk) => (∀ x ∈ g.2.2.1, CsOk x) ∧ (∀ x ∈ g.2.2.2.2.2.2.1, SkOk x) ∧ (∀ x ∈ g.2.2.2.2.2.2.2.2.2.2, BkOk x) ∧ g.2.2.2.2.1 ≤ 5 ∧ g.2.2.2.2.2.2.2.2.1 ≤ 9)) (Y := (fun (g : Option Addr × Nat × List Cs × Option Addr × Nat × Nat × List Sk × Option Addr × Nat × Nat × List Bk) => fun wy => SlT csEnc 2 135 wy g.1 4 g.2.2.1 ∧ SlT skEnc 2 139 wy g.2.2.2.1 g.2.2.2.2.1 g.2.2.2.2.2.2.1 ∧ SlT bkEnc 6 142 wy g.2.2.2.2.2.2.2.1 g.2.2.2.2.2.2.2.2.1 g.2.2.2.2.2.2.2.2.2.2)) (m' := 0 + 1 + 2000) rfl cb14 rfl rfl rfl rfl (fun wx hm => (counterOf_any q wx B sb _ hm.k (by omega) hq9).mono fun _ _ ⟨A0, c0, cs, A1, n1, c1, sl, A, n, c, l, he, h0, h1, h2, hco, hso, hok, hn1, hn, hS, hg⟩ => ⟨(A0, c0, cs, A1, n1, c1, sl, A, n, c, l), he, ⟨hco, hso, hok, hn1, hn⟩, hS, hg, ⟨h0, h1, h2⟩⟩) (fun _ => (SlT.lasts2 rfl).and_ ((SlT.lasts2 rfl).and_ (SlT.lasts2 rfl))) ?_
  rintro ⟨A0, c0, cs, A1, n1, c1, sl, A, n, c, l⟩ hH
  dsimp only at hH ⊢
  obtain ⟨hco, hso, hok, hn5, hn9⟩ := hH
  refine wl_ov (ov_move rfl) rfl ?_
  refine wl_calls (γ := ByteArray) (val := (fun (g : ByteArray) => .string g)) (φ := (fun (g : ByteArray) => g.size ≤ 100)) (Y := (fun (g : ByteArray) => fun _ => True)) (m' := 0 + 1 + 2000 + 1) rfl cb16 rfl rfl rfl rfl (fun wx hm => (gclassKeyB_any wx B sb _ hm.k (by omega)).mono fun _ _ ⟨v, he, h0, hS, hg⟩ => ⟨v, he, h0, hS, hg, trivial⟩) (fun _ => Lasts2.true_) ?_
  rintro q2 hq2
  refine wl_ov (ov_move rfl) rfl ?_
  refine wl_calls (γ := Int × Int) (val := (fun (g : Int × Int) => .agg #[.int .i64 g.1, .int .i64 g.2])) (φ := (fun (g : Int × Int) => (-2000000000000000 ≤ g.1 ∧ g.1 ≤ 2000000000000000) ∧ (-2000000000000000 ≤ g.2 ∧ g.2 ≤ 2000000000000000))) (Y := (fun (g : Int × Int) => fun _ => True)) (m' := 0 + 1 + 2000 + 1 + 20) rfl cb17 rfl rfl rfl rfl (fun wx hm => (gwindowB_any wx B sb _ hm.k (by omega)).mono fun _ _ ⟨a, b, he, h0, h1, hS, hg⟩ => ⟨(a, b), he, ⟨h0, h1⟩, hS, hg, trivial⟩) (fun _ => Lasts2.true_) ?_
  rintro ⟨wa, wb⟩ hwn
  dsimp only at hwn ⊢
  refine wl_alloc zc54 rfl fun g4 => ?_
  refine wl_alloc zc35 rfl fun g5 => ?_
  refine wl_stores (cs' := [.slice A0 4 c0, .slice A1 n1 c1, .slice A n c, .int .i64 (stockE cs sl), .int .i64 (checkE cs l)]) 1 rz54 rfl rfl rfl rfl rfl rfl rfl rfl ?_
  refine wl_ov (ov_assign rfl) rfl ?_
  refine wl_stores (cs' := [.int .i64 wa, .int .i64 wb]) 0 rz35 rfl rfl rfl rfl rfl rfl rfl rfl ?_
  refine wl_nil ?_
  refine nx_then ?_
  refine gw_seq ?_
  refine gw_region ?_
  refine wl_ov (ov_field fo54_0 rfl rfl) rfl ?_
  refine wl_ov (ov_load sc50 rfl (fun _ hm => hm.blkI 1 rfl) rfl) rfl ?_
  refine wl_ov (ov_field fo54_2 rfl rfl) rfl ?_
  refine wl_ov (ov_load sc52 rfl (fun _ hm => hm.blkI 1 rfl) rfl) rfl ?_
  refine wl_ov (ov_move rfl) rfl ?_
  refine wl_nest none [] fun w2 hm_w2 => ⟨_, _, _, _, mem0 (X := [BlkOld w2.heap.size none g5 35 [.int .i64 wa, .int .i64 wb], BlkOld w2.heap.size none g4 54 [.slice A0 4 c0, .slice A1 n1 c1, .slice A n c, .int .i64 (stockE cs sl), .int .i64 (checkE cs l)], SlOld csEnc 2 135 w2.heap.size none A0 4 cs, SlOld skEnc 2 139 w2.heap.size none A1 n1 sl, SlOld bkEnc 6 142 w2.heap.size none A n l]) (allF_cons (hm_w2.blkI 0 rfl).old (allF_cons (hm_w2.blkI 1 rfl).old (allF_cons (SlT.old (hm_w2.fact 2 rfl).1) (allF_cons (SlT.old (hm_w2.fact 2 rfl).2.1) (allF_cons (SlT.old (hm_w2.fact 2 rfl).2.2) allF_nil))))) (allL_cons BlkOld.lasts (allL_cons BlkOld.lasts (allL_cons SlOld.lasts (allL_cons SlOld.lasts (allL_cons SlOld.lasts allL_nil))))), ?_⟩
  obtain ⟨SE, hSE⟩ : ∃ E, E = stockE cs sl := ⟨_, rfl⟩
  obtain ⟨KE, hKE⟩ : ∃ E, E = checkE cs l := ⟨_, rfl⟩
  obtain ⟨IA, hIA⟩ : ∃ E, E = ixP (csP q2) cs 0 := ⟨_, rfl⟩
  obtain ⟨NB, hNB⟩ : ∃ E, E = noB cs q2 := ⟨_, rfl⟩
  have hNI : decide (IA < 0) = NB := by rw [hNB, hIA]; rfl
  obtain ⟨WB, hWB⟩ : ∃ E, E = winB wa wb := ⟨_, rfl⟩
  obtain ⟨E1, hE1⟩ : ∃ E, E = busyE cs l q2 := ⟨_, rfl⟩
  obtain ⟨E2, hE2⟩ : ∃ E, E = freeE cs sl l q2 wa wb := ⟨_, rfl⟩
  have hone : E1 = firstE [KE, whenE NB 8] := by rw [hE1, hKE, hNB]; rfl
  have htwo : E2 = firstE [firstE [SE, KE], whenE NB 8, whenE WB 1] := by rw [hE2, hSE, hKE, hNB, hWB]; rfl
  obtain ⟨P1, hP1⟩ : ∃ E, E = (busyP cs l q2).1 := ⟨_, rfl⟩
  obtain ⟨P2, hP2⟩ : ∃ E, E = (busyP cs l q2).2 := ⟨_, rfl⟩
  obtain ⟨FP, hFP⟩ : ∃ E, E = freeP cs sl l q2 wa wb := ⟨_, rfl⟩
  by_cases h1 : E1 = 0
  · by_cases h2 : E2 = 0
    · refine wl_callv (v := .tuple #[.int .i64 P1, .int .i64 P2, .int .i64 E1]) rfl cb18 rfl rfl (fun wx hm => (by have h := busy_any cs A0 4 c0 l A n c q2 wx (hm.fact 2 rfl).1 hco (by omega) (hm.fact 4 rfl).1 hok (by omega); rw [← hP1, ← hP2, ← hE1] at h; exact h)) ?_
      refine wl_ov (ov_move rfl) rfl ?_
      refine wl_ov (ov_extract rfl rfl) rfl ?_
      refine wl_ov (ov_extract rfl rfl) rfl ?_
      refine wl_ov (ov_extract rfl rfl) rfl ?_
      refine wl_ov (ov_assign rfl) rfl ?_
      refine wl_ov (ov_assign rfl) rfl ?_
      refine wl_ov (ov_assign rfl) rfl ?_
      refine wl_nil ?_
      refine nx_then ?_
      refine gw_seq ?_
      refine gw_region ?_
      refine wl_ov (ov_field fo54_0 rfl rfl) rfl ?_
      refine wl_ov (ov_load (v := .slice A0 4 c0) sc50 rfl (fun _ hm => (hm.fact 1 rfl).2) rfl) rfl ?_
      refine wl_ov (ov_field fo54_1 rfl rfl) rfl ?_
      refine wl_ov (ov_load (v := .slice A1 n1 c1) sc51 rfl (fun _ hm => (hm.fact 1 rfl).2) rfl) rfl ?_
      refine wl_ov (ov_field fo54_2 rfl rfl) rfl ?_
      refine wl_ov (ov_load (v := .slice A n c) sc52 rfl (fun _ hm => (hm.fact 1 rfl).2) rfl) rfl ?_
      refine wl_ov (ov_move rfl) rfl ?_
      refine wl_ov (ov_loads (vs := [.int .i64 wa, .int .i64 wb]) rz35 rfl (fun _ hm => (hm.fact 0 rfl).2) rfl rfl) rfl ?_
      refine wl_callv (v := .tuple #[.int .i64 FP, .int .i64 E2]) rfl cb19 rfl rfl (fun wx hm => (by have h := free_any cs A0 4 c0 sl A1 n1 c1 l A n c q2 wa wb wx (hm.fact 2 rfl).1 hco (by omega) (hm.fact 3 rfl).1 hso (by omega) (hm.fact 4 rfl).1 hok (by omega); rw [← hFP, ← hE2] at h; exact h)) ?_
      refine wl_ov (ov_move rfl) rfl ?_
      refine wl_ov (ov_extract rfl rfl) rfl ?_
      refine wl_ov (ov_extract rfl rfl) rfl ?_
      refine wl_ov (ov_assign rfl) rfl ?_
      refine wl_ov (ov_assign rfl) rfl ?_
      refine wl_nil ?_
      refine nx_then ?_
      refine gw_seq ?_
      refine gw_region ?_
      refine wl_ov (ov_field fo54_0 rfl rfl) rfl ?_
      refine wl_ov (ov_load (v := .slice A0 4 c0) sc50 rfl (fun _ hm => (hm.fact 1 rfl).2) rfl) rfl ?_
      refine wl_ov (ov_move rfl) rfl ?_
      refine wl_callv (v := .int .i64 IA) rfl cb21 rfl rfl (fun wx hm => (by rw [hIA]; exact rClassAt_any cs A0 4 c0 q2 wx (hm.fact 2 rfl).1 (by omega))) ?_
      refine wl_ov (ov_lss rfl rfl) rfl ?_
      refine wl_set 55 (v' := .bool NB) rfl (congrArg Value.bool hNI) ?_
      refine wl_callw rfl cb20 rfl rfl (fun wx hm => (rwhen_any _ _ wx)) ?_
      refine wl_ov (ov_assign rfl) rfl ?_
      refine wl_nil ?_
      refine nx_then ?_
      refine gw_seq ?_
      refine gw_region ?_
      refine wl_ov (ov_field fo54_4 rfl rfl) rfl ?_
      refine wl_ov (ov_load (v := .int .i64 (checkE cs l)) sc41 rfl (fun _ hm => (hm.fact 1 rfl).2) rfl) rfl ?_
      refine wl_ov (ov_move rfl) rfl ?_
      refine wl_buildSlice (e := 41) (cs := [.int .i64 (checkE cs l), .int .i64 (whenE NB 8)]) rfl (by kernel_rfl) rfl fun g6 => ?_
      refine wl_callw (v := .int .i64 E1) rfl cb22 rfl rfl (fun wx hm => (by have h := errs_any [checkE cs l, whenE NB 8] g6 2 _ wx (hm.blkI 0 rfl) (by simp); rw [show firstE [checkE cs l, whenE NB 8] = E1 from by rw [hone, hKE]] at h; exact h)) ?_
      refine wl_ov (ov_assign rfl) rfl ?_
      refine wl_nil ?_
      refine nx_then ?_
      refine gw_cut (γ := Unit) (I := (fun (u_ : Unit) => True)) (S' := (fun (u_ : Unit) => [(2, .bool false), (4, .pointer (some ⟨g4, 0, none⟩)), (5, .string q2), (6, .pointer (some ⟨g5, 0, none⟩)), (7, .int .i64 P1), (8, .int .i64 P2), (9, .int .i64 E1), (10, .int .i64 FP), (11, .int .i64 E2), (13, .int .i64 E1), (14, .int .i64 E2)])) (K' := (fun (u_ : Unit) => fun _ => True)) (L' := (fun (u_ : Unit) => [])) (O' := (fun (u_ : Unit) => [])) (X' := (fun (u_ : Unit) => [BlkOld w2.heap.size none g5 35 [.int .i64 wa, .int .i64 wb], BlkOld w2.heap.size none g4 54 [.slice A0 4 c0, .slice A1 n1 c1, .slice A n c, .int .i64 (stockE cs sl), .int .i64 (checkE cs l)], SlOld csEnc 2 135 w2.heap.size none A0 4 cs, SlOld skEnc 2 139 w2.heap.size none A1 n1 sl, SlOld bkEnc 6 142 w2.heap.size none A n l])) ?_ ?_
      · refine gw_draw (fun wz => Blk wz g6 41 [.int .i64 (checkE cs l), .int .i64 (whenE NB 8)] ∧ (BlkOld w2.heap.size none g5 35 [.int .i64 wa, .int .i64 wb]) wz ∧ (BlkOld w2.heap.size none g4 54 [.slice A0 4 c0, .slice A1 n1 c1, .slice A n c, .int .i64 (stockE cs sl), .int .i64 (checkE cs l)]) wz ∧ (SlOld csEnc 2 135 w2.heap.size none A0 4 cs) wz ∧ (SlOld skEnc 2 139 w2.heap.size none A1 n1 sl) wz ∧ (SlOld bkEnc 6 142 w2.heap.size none A n l) wz ∧ True) mixed ?_
        refine wa_take 0 rfl (by kernel_rfl) (by kernel_rfl) (by kernel_rfl) (listed' := #[true, false, false, false, false, false, false, false, false, false, false, false, false, false, false, false, false, false, false, false, false, false]) rfl (fun _ _ _ h => h) (fun _ hm => ⟨hm.blkI 0 rfl, hm.fact 0 rfl, hm.fact 1 rfl, hm.fact 2 rfl, hm.fact 3 rfl, hm.fact 4 rfl, trivial⟩) (ov_loads (vs := [.slice A0 4 c0, .slice A1 n1 c1, .slice A n c, .int .i64 (stockE cs sl), .int .i64 (checkE cs l)]) rz54 rfl (fun _ hm => (hm.2.2.1).2) rfl rfl) rfl ?_
        refine wa_take 2 rfl (by kernel_rfl) (by kernel_rfl) (by kernel_rfl) (listed' := #[true, false, true, false, false, false, false, false, false, false, false, false, false, false, false, false, false, false, false, false, false, false]) rfl (fun _ _ _ h => h) (fun _ hm => ⟨hm.blkI 0 rfl, hm.fact 0 rfl, hm.fact 1 rfl, hm.fact 2 rfl, hm.fact 3 rfl, hm.fact 4 rfl, trivial⟩) (ov_move rfl) rfl ?_
        refine wa_take 3 rfl (by kernel_rfl) (by kernel_rfl) (by kernel_rfl) (listed' := #[true, false, true, true, false, false, false, false, false, false, false, false, false, false, false, false, false, false, false, false, false, false]) rfl (fun _ _ _ h => h) (fun _ hm => ⟨hm.blkI 0 rfl, hm.fact 0 rfl, hm.fact 1 rfl, hm.fact 2 rfl, hm.fact 3 rfl, hm.fact 4 rfl, trivial⟩) (ov_field fo35_0 rfl rfl) rfl ?_
        refine wa_take 4 rfl (by kernel_rfl) (by kernel_rfl) (by kernel_rfl) (listed' := #[true, false, true, true, true, false, false, false, false, false, false, false, false, false, false, false, false, false, false, false, false, false]) rfl (fun _ _ _ h => h) (fun _ hm => ⟨hm.blkI 0 rfl, hm.fact 0 rfl, hm.fact 1 rfl, hm.fact 2 rfl, hm.fact 3 rfl, hm.fact 4 rfl, trivial⟩) (ov_load (v := .int .i64 wa) sc3 rfl (fun _ hm => (hm.2.1).2) rfl) rfl ?_
        refine wa_take 5 rfl (by kernel_rfl) (by kernel_rfl) (by kernel_rfl) (listed' := #[true, false, true, true, true, true, false, false, false, false, false, false, false, false, false, false, false, false, false, false, false, false]) rfl (fun _ _ _ h => h) (fun _ hm => ⟨hm.blkI 0 rfl, hm.fact 0 rfl, hm.fact 1 rfl, hm.fact 2 rfl, hm.fact 3 rfl, hm.fact 4 rfl, trivial⟩) (ov_lss rfl rfl) rfl ?_
        refine wa_all [1] (by kernel_rfl) rfl ⟨⟨_, rfl, ?_⟩, trivial⟩
        refine wl_callv rfl cb23 rfl rfl (fun wx hm => (call_any _ _ _ _ _ _ _ _ _ _ _ wx)) ?_
        refine wl_nil ?_
        refine nx_wa0 (listed' := #[true, true, true, true, true, true, false, false, false, false, false, false, false, false, false, false, false, false, false, false, false, false]) rfl (fun _ hm => ⟨hm.blkI 0 rfl, hm.fact 0 rfl, hm.fact 1 rfl, hm.fact 2 rfl, hm.fact 3 rfl, hm.fact 4 rfl, trivial⟩) ?_
        refine wa_take 6 rfl (by kernel_rfl) (by kernel_rfl) (by kernel_rfl) (listed' := #[true, true, true, true, true, true, true, false, false, false, false, false, false, false, false, false, false, false, false, false, false, false]) rfl (fun _ _ _ h => h) (fun _ hm => ⟨hm.blkI 0 rfl, hm.fact 0 rfl, hm.fact 1 rfl, hm.fact 2 rfl, hm.fact 3 rfl, hm.fact 4 rfl, trivial⟩) (ov_move rfl) rfl ?_
        rcases Bool.eq_false_or_eq_true (decide (wa < 0)) with hgd0 | hgd0
        · refine wa_set 68 rfl (congrArg Value.bool hgd0) ?_
          replace hgd0 := of_decide_eq_true hgd0
          have hwv : WB = true := by rw [hWB]; unfold winB; rw [decide_eq_true hgd0]; rfl
          refine wa_take_off 7 rfl rfl rfl (by decide) (by kernel_rfl) (by kernel_rfl) (by kernel_rfl) (listed' := #[true, true, true, true, true, true, true, true, false, false, false, false, false, false, false, false, false, false, false, false, false, false]) rfl (fun _ _ _ h => h) (fun _ hm => ⟨hm.blkI 0 rfl, hm.fact 0 rfl, hm.fact 1 rfl, hm.fact 2 rfl, hm.fact 3 rfl, hm.fact 4 rfl, trivial⟩) rfl ?_
          refine wa_take_off 8 rfl rfl rfl (by decide) (by kernel_rfl) (by kernel_rfl) (by kernel_rfl) (listed' := #[true, true, true, true, true, true, true, true, true, false, false, false, false, false, false, false, false, false, false, false, false, false]) rfl (fun _ _ _ h => h) (fun _ hm => ⟨hm.blkI 0 rfl, hm.fact 0 rfl, hm.fact 1 rfl, hm.fact 2 rfl, hm.fact 3 rfl, hm.fact 4 rfl, trivial⟩) rfl ?_
          refine wa_take_off 9 rfl rfl rfl (by decide) (by kernel_rfl) (by kernel_rfl) (by kernel_rfl) (listed' := #[true, true, true, true, true, true, true, true, true, true, false, false, false, false, false, false, false, false, false, false, false, false]) rfl (fun _ _ _ h => h) (fun _ hm => ⟨hm.blkI 0 rfl, hm.fact 0 rfl, hm.fact 1 rfl, hm.fact 2 rfl, hm.fact 3 rfl, hm.fact 4 rfl, trivial⟩) rfl ?_
          refine wa_take_off 10 rfl rfl rfl (by decide) (by kernel_rfl) (by kernel_rfl) (by kernel_rfl) (listed' := #[true, true, true, true, true, true, true, true, true, true, true, false, false, false, false, false, false, false, false, false, false, false]) rfl (fun _ _ _ h => h) (fun _ hm => ⟨hm.blkI 0 rfl, hm.fact 0 rfl, hm.fact 1 rfl, hm.fact 2 rfl, hm.fact 3 rfl, hm.fact 4 rfl, trivial⟩) rfl ?_
          refine wa_take_off 11 rfl rfl rfl (by decide) (by kernel_rfl) (by kernel_rfl) (by kernel_rfl) (listed' := #[true, true, true, true, true, true, true, true, true, true, true, true, false, false, false, false, false, false, false, false, false, false]) rfl (fun _ _ _ h => h) (fun _ hm => ⟨hm.blkI 0 rfl, hm.fact 0 rfl, hm.fact 1 rfl, hm.fact 2 rfl, hm.fact 3 rfl, hm.fact 4 rfl, trivial⟩) rfl ?_
          refine wa_take 12 rfl (by kernel_rfl) (by kernel_rfl) (by kernel_rfl) (listed' := #[true, true, true, true, true, true, true, true, true, true, true, true, true, false, false, false, false, false, false, false, false, false]) rfl (fun _ _ _ h => h) (fun _ hm => ⟨hm.blkI 0 rfl, hm.fact 0 rfl, hm.fact 1 rfl, hm.fact 2 rfl, hm.fact 3 rfl, hm.fact 4 rfl, trivial⟩) (ov_pick_t rfl rfl) rfl ?_
          refine wa_take 13 rfl (by kernel_rfl) (by kernel_rfl) (by kernel_rfl) (listed' := #[true, true, true, true, true, true, true, true, true, true, true, true, true, true, false, false, false, false, false, false, false, false]) rfl (fun _ _ _ h => h) (fun _ hm => ⟨hm.blkI 0 rfl, hm.fact 0 rfl, hm.fact 1 rfl, hm.fact 2 rfl, hm.fact 3 rfl, hm.fact 4 rfl, trivial⟩) (ov_move rfl) rfl ?_
          refine wa_take_off 14 rfl rfl rfl (by decide) (by kernel_rfl) (by kernel_rfl) (by kernel_rfl) (listed' := #[true, true, true, true, true, true, true, true, true, true, true, true, true, true, true, false, false, false, false, false, false, false]) rfl (fun _ _ _ h => h) (fun _ hm => ⟨hm.blkI 0 rfl, hm.fact 0 rfl, hm.fact 1 rfl, hm.fact 2 rfl, hm.fact 3 rfl, hm.fact 4 rfl, trivial⟩) rfl ?_
          refine wa_take_off 15 rfl rfl rfl (by decide) (by kernel_rfl) (by kernel_rfl) (by kernel_rfl) (listed' := #[true, true, true, true, true, true, true, true, true, true, true, true, true, true, true, true, false, false, false, false, false, false]) rfl (fun _ _ _ h => h) (fun _ hm => ⟨hm.blkI 0 rfl, hm.fact 0 rfl, hm.fact 1 rfl, hm.fact 2 rfl, hm.fact 3 rfl, hm.fact 4 rfl, trivial⟩) rfl ?_
          refine wa_take_off 16 rfl rfl rfl (by decide) (by kernel_rfl) (by kernel_rfl) (by kernel_rfl) (listed' := #[true, true, true, true, true, true, true, true, true, true, true, true, true, true, true, true, true, false, false, false, false, false]) rfl (fun _ _ _ h => h) (fun _ hm => ⟨hm.blkI 0 rfl, hm.fact 0 rfl, hm.fact 1 rfl, hm.fact 2 rfl, hm.fact 3 rfl, hm.fact 4 rfl, trivial⟩) rfl ?_
          refine wa_take 17 rfl (by kernel_rfl) (by kernel_rfl) (by kernel_rfl) (listed' := #[true, true, true, true, true, true, true, true, true, true, true, true, true, true, true, true, true, true, false, false, false, false]) rfl (fun _ _ _ h => h) (fun _ hm => ⟨hm.blkI 0 rfl, hm.fact 0 rfl, hm.fact 1 rfl, hm.fact 2 rfl, hm.fact 3 rfl, hm.fact 4 rfl, trivial⟩) (ov_pick_t rfl rfl) rfl ?_
          refine wa_all [18] (by kernel_rfl) rfl ⟨⟨_, rfl, ?_⟩, trivial⟩
          refine wl_callw rfl cb20 rfl rfl (fun wx hm => (rwhen_any _ _ wx)) ?_
          refine wl_nil ?_
          refine nx_wa0 (listed' := #[true, true, true, true, true, true, true, true, true, true, true, true, true, true, true, true, true, true, true, false, false, false]) rfl (fun _ hm => ⟨hm.blkI 0 rfl, hm.fact 0 rfl, hm.fact 1 rfl, hm.fact 2 rfl, hm.fact 3 rfl, hm.fact 4 rfl, trivial⟩) ?_
          refine wa_all [19] (by kernel_rfl) rfl ⟨⟨_, rfl, ?_⟩, trivial⟩
          refine wl_buildSlice (e := 41) (cs := [.int .i64 (firstE [stockE cs sl, checkE cs l]), .int .i64 (whenE NB 8), .int .i64 (whenE true 1)]) rfl (by kernel_rfl) rfl fun g7 => ?_
          refine wl_nil ?_
          refine nx_wa0 (listed' := #[true, true, true, true, true, true, true, true, true, true, true, true, true, true, true, true, true, true, true, true, false, false]) rfl (fun _ hm => ⟨hm.blkI 1 rfl, hm.fact 0 rfl, hm.fact 1 rfl, hm.fact 2 rfl, hm.fact 3 rfl, hm.fact 4 rfl, trivial⟩) ?_
          refine wa_all [20] (by kernel_rfl) rfl ⟨⟨_, rfl, ?_⟩, trivial⟩
          refine wl_callw (v := .int .i64 E2) rfl cb22 rfl rfl (fun wx hm => (by have h := errs_any [firstE [stockE cs sl, checkE cs l], whenE NB 8, whenE true 1] g7 3 _ wx (hm.blkI 0 rfl) (by simp); rw [show firstE [firstE [stockE cs sl, checkE cs l], whenE NB 8, whenE true 1] = E2 from by rw [htwo, hwv, hSE, hKE]] at h; exact h)) ?_
          refine wl_nil ?_
          refine nx_wa0 (listed' := #[true, true, true, true, true, true, true, true, true, true, true, true, true, true, true, true, true, true, true, true, true, false]) rfl (fun _ hm => ⟨hm.blkI 1 rfl, hm.fact 0 rfl, hm.fact 1 rfl, hm.fact 2 rfl, hm.fact 3 rfl, hm.fact 4 rfl, trivial⟩) ?_
          refine wa_take 21 rfl (by kernel_rfl) (by kernel_rfl) (by kernel_rfl) (listed' := #[true, true, true, true, true, true, true, true, true, true, true, true, true, true, true, true, true, true, true, true, true, true]) rfl (fun _ _ _ h => h) (fun _ hm => ⟨hm.blkI 1 rfl, hm.fact 0 rfl, hm.fact 1 rfl, hm.fact 2 rfl, hm.fact 3 rfl, hm.fact 4 rfl, trivial⟩) (ov_assign rfl) rfl ?_
          refine wa_done (by kernel_rfl) ?_
          exact nx_meet () trivial ⟨rfl, rfl, rfl, rfl, rfl, rfl, rfl, rfl, rfl, rfl, rfl, trivial⟩ (fun _ hm => hm.pick [] [] [0, 1, 2, 3, 4] rfl rfl)
        · refine wa_set 68 rfl (congrArg Value.bool hgd0) ?_
          replace hgd0 := of_decide_eq_false hgd0
          refine wa_take_on 7 rfl rfl rfl (by kernel_rfl) (by kernel_rfl) (by kernel_rfl) (listed' := #[true, true, true, true, true, true, true, true, false, false, false, false, false, false, false, false, false, false, false, false, false, false]) rfl (fun _ _ _ h => h) (fun _ hm => ⟨hm.blkI 0 rfl, hm.fact 0 rfl, hm.fact 1 rfl, hm.fact 2 rfl, hm.fact 3 rfl, hm.fact 4 rfl, trivial⟩) (ov_field fo35_0 rfl rfl) rfl ?_
          refine wa_take_on 8 rfl rfl rfl (by kernel_rfl) (by kernel_rfl) (by kernel_rfl) (listed' := #[true, true, true, true, true, true, true, true, true, false, false, false, false, false, false, false, false, false, false, false, false, false]) rfl (fun _ _ _ h => h) (fun _ hm => ⟨hm.blkI 0 rfl, hm.fact 0 rfl, hm.fact 1 rfl, hm.fact 2 rfl, hm.fact 3 rfl, hm.fact 4 rfl, trivial⟩) (ov_load (v := .int .i64 wa) sc3 rfl (fun _ hm => (hm.2.1).2) rfl) rfl ?_
          refine wa_take_on 9 rfl rfl rfl (by kernel_rfl) (by kernel_rfl) (by kernel_rfl) (listed' := #[true, true, true, true, true, true, true, true, true, true, false, false, false, false, false, false, false, false, false, false, false, false]) rfl (fun _ _ _ h => h) (fun _ hm => ⟨hm.blkI 0 rfl, hm.fact 0 rfl, hm.fact 1 rfl, hm.fact 2 rfl, hm.fact 3 rfl, hm.fact 4 rfl, trivial⟩) (ov_field fo35_1 rfl rfl) rfl ?_
          refine wa_take_on 10 rfl rfl rfl (by kernel_rfl) (by kernel_rfl) (by kernel_rfl) (listed' := #[true, true, true, true, true, true, true, true, true, true, true, false, false, false, false, false, false, false, false, false, false, false]) rfl (fun _ _ _ h => h) (fun _ hm => ⟨hm.blkI 0 rfl, hm.fact 0 rfl, hm.fact 1 rfl, hm.fact 2 rfl, hm.fact 3 rfl, hm.fact 4 rfl, trivial⟩) (ov_load (v := .int .i64 wb) sc3 rfl (fun _ hm => (hm.2.1).2) rfl) rfl ?_
          refine wa_take_on 11 rfl rfl rfl (by kernel_rfl) (by kernel_rfl) (by kernel_rfl) (listed' := #[true, true, true, true, true, true, true, true, true, true, true, true, false, false, false, false, false, false, false, false, false, false]) rfl (fun _ _ _ h => h) (fun _ hm => ⟨hm.blkI 0 rfl, hm.fact 0 rfl, hm.fact 1 rfl, hm.fact 2 rfl, hm.fact 3 rfl, hm.fact 4 rfl, trivial⟩) (ov_geq rfl rfl) rfl ?_
          refine wa_take 12 rfl (by kernel_rfl) (by kernel_rfl) (by kernel_rfl) (listed' := #[true, true, true, true, true, true, true, true, true, true, true, true, true, false, false, false, false, false, false, false, false, false]) rfl (fun _ _ _ h => h) (fun _ hm => ⟨hm.blkI 0 rfl, hm.fact 0 rfl, hm.fact 1 rfl, hm.fact 2 rfl, hm.fact 3 rfl, hm.fact 4 rfl, trivial⟩) (ov_pick_f rfl rfl) rfl ?_
          refine wa_take 13 rfl (by kernel_rfl) (by kernel_rfl) (by kernel_rfl) (listed' := #[true, true, true, true, true, true, true, true, true, true, true, true, true, true, false, false, false, false, false, false, false, false]) rfl (fun _ _ _ h => h) (fun _ hm => ⟨hm.blkI 0 rfl, hm.fact 0 rfl, hm.fact 1 rfl, hm.fact 2 rfl, hm.fact 3 rfl, hm.fact 4 rfl, trivial⟩) (ov_move rfl) rfl ?_
          rcases Bool.eq_false_or_eq_true (decide (wb ≤ wa)) with hgd1 | hgd1
          · refine wa_set 75 rfl (congrArg Value.bool hgd1) ?_
            replace hgd1 := of_decide_eq_true hgd1
            have hwv : WB = true := by rw [hWB]; unfold winB; rw [decide_eq_true hgd1, decide_eq_false hgd0]; rfl
            refine wa_take_off 14 rfl rfl rfl (by decide) (by kernel_rfl) (by kernel_rfl) (by kernel_rfl) (listed' := #[true, true, true, true, true, true, true, true, true, true, true, true, true, true, true, false, false, false, false, false, false, false]) rfl (fun _ _ _ h => h) (fun _ hm => ⟨hm.blkI 0 rfl, hm.fact 0 rfl, hm.fact 1 rfl, hm.fact 2 rfl, hm.fact 3 rfl, hm.fact 4 rfl, trivial⟩) rfl ?_
            refine wa_take_off 15 rfl rfl rfl (by decide) (by kernel_rfl) (by kernel_rfl) (by kernel_rfl) (listed' := #[true, true, true, true, true, true, true, true, true, true, true, true, true, true, true, true, false, false, false, false, false, false]) rfl (fun _ _ _ h => h) (fun _ hm => ⟨hm.blkI 0 rfl, hm.fact 0 rfl, hm.fact 1 rfl, hm.fact 2 rfl, hm.fact 3 rfl, hm.fact 4 rfl, trivial⟩) rfl ?_
            refine wa_take_off 16 rfl rfl rfl (by decide) (by kernel_rfl) (by kernel_rfl) (by kernel_rfl) (listed' := #[true, true, true, true, true, true, true, true, true, true, true, true, true, true, true, true, true, false, false, false, false, false]) rfl (fun _ _ _ h => h) (fun _ hm => ⟨hm.blkI 0 rfl, hm.fact 0 rfl, hm.fact 1 rfl, hm.fact 2 rfl, hm.fact 3 rfl, hm.fact 4 rfl, trivial⟩) rfl ?_
            refine wa_take 17 rfl (by kernel_rfl) (by kernel_rfl) (by kernel_rfl) (listed' := #[true, true, true, true, true, true, true, true, true, true, true, true, true, true, true, true, true, true, false, false, false, false]) rfl (fun _ _ _ h => h) (fun _ hm => ⟨hm.blkI 0 rfl, hm.fact 0 rfl, hm.fact 1 rfl, hm.fact 2 rfl, hm.fact 3 rfl, hm.fact 4 rfl, trivial⟩) (ov_pick_t rfl rfl) rfl ?_
            refine wa_all [18] (by kernel_rfl) rfl ⟨⟨_, rfl, ?_⟩, trivial⟩
            refine wl_callw rfl cb20 rfl rfl (fun wx hm => (rwhen_any _ _ wx)) ?_
            refine wl_nil ?_
            refine nx_wa0 (listed' := #[true, true, true, true, true, true, true, true, true, true, true, true, true, true, true, true, true, true, true, false, false, false]) rfl (fun _ hm => ⟨hm.blkI 0 rfl, hm.fact 0 rfl, hm.fact 1 rfl, hm.fact 2 rfl, hm.fact 3 rfl, hm.fact 4 rfl, trivial⟩) ?_
            refine wa_all [19] (by kernel_rfl) rfl ⟨⟨_, rfl, ?_⟩, trivial⟩
            refine wl_buildSlice (e := 41) (cs := [.int .i64 (firstE [stockE cs sl, checkE cs l]), .int .i64 (whenE NB 8), .int .i64 (whenE true 1)]) rfl (by kernel_rfl) rfl fun g8 => ?_
            refine wl_nil ?_
            refine nx_wa0 (listed' := #[true, true, true, true, true, true, true, true, true, true, true, true, true, true, true, true, true, true, true, true, false, false]) rfl (fun _ hm => ⟨hm.blkI 1 rfl, hm.fact 0 rfl, hm.fact 1 rfl, hm.fact 2 rfl, hm.fact 3 rfl, hm.fact 4 rfl, trivial⟩) ?_
            refine wa_all [20] (by kernel_rfl) rfl ⟨⟨_, rfl, ?_⟩, trivial⟩
            refine wl_callw (v := .int .i64 E2) rfl cb22 rfl rfl (fun wx hm => (by have h := errs_any [firstE [stockE cs sl, checkE cs l], whenE NB 8, whenE true 1] g8 3 _ wx (hm.blkI 0 rfl) (by simp); rw [show firstE [firstE [stockE cs sl, checkE cs l], whenE NB 8, whenE true 1] = E2 from by rw [htwo, hwv, hSE, hKE]] at h; exact h)) ?_
            refine wl_nil ?_
            refine nx_wa0 (listed' := #[true, true, true, true, true, true, true, true, true, true, true, true, true, true, true, true, true, true, true, true, true, false]) rfl (fun _ hm => ⟨hm.blkI 1 rfl, hm.fact 0 rfl, hm.fact 1 rfl, hm.fact 2 rfl, hm.fact 3 rfl, hm.fact 4 rfl, trivial⟩) ?_
            refine wa_take 21 rfl (by kernel_rfl) (by kernel_rfl) (by kernel_rfl) (listed' := #[true, true, true, true, true, true, true, true, true, true, true, true, true, true, true, true, true, true, true, true, true, true]) rfl (fun _ _ _ h => h) (fun _ hm => ⟨hm.blkI 1 rfl, hm.fact 0 rfl, hm.fact 1 rfl, hm.fact 2 rfl, hm.fact 3 rfl, hm.fact 4 rfl, trivial⟩) (ov_assign rfl) rfl ?_
            refine wa_done (by kernel_rfl) ?_
            exact nx_meet () trivial ⟨rfl, rfl, rfl, rfl, rfl, rfl, rfl, rfl, rfl, rfl, rfl, trivial⟩ (fun _ hm => hm.pick [] [] [0, 1, 2, 3, 4] rfl rfl)
          · refine wa_set 75 rfl (congrArg Value.bool hgd1) ?_
            replace hgd1 := of_decide_eq_false hgd1
            have hwv : WB = decide (5761439 < wb) := by rw [hWB]; unfold winB; rw [decide_eq_false hgd0, decide_eq_false hgd1]; rfl
            refine wa_take_on 14 rfl rfl rfl (by kernel_rfl) (by kernel_rfl) (by kernel_rfl) (listed' := #[true, true, true, true, true, true, true, true, true, true, true, true, true, true, true, false, false, false, false, false, false, false]) rfl (fun _ _ _ h => h) (fun _ hm => ⟨hm.blkI 0 rfl, hm.fact 0 rfl, hm.fact 1 rfl, hm.fact 2 rfl, hm.fact 3 rfl, hm.fact 4 rfl, trivial⟩) (ov_field fo35_1 rfl rfl) rfl ?_
            refine wa_take_on 15 rfl rfl rfl (by kernel_rfl) (by kernel_rfl) (by kernel_rfl) (listed' := #[true, true, true, true, true, true, true, true, true, true, true, true, true, true, true, true, false, false, false, false, false, false]) rfl (fun _ _ _ h => h) (fun _ hm => ⟨hm.blkI 0 rfl, hm.fact 0 rfl, hm.fact 1 rfl, hm.fact 2 rfl, hm.fact 3 rfl, hm.fact 4 rfl, trivial⟩) (ov_load (v := .int .i64 wb) sc3 rfl (fun _ hm => (hm.2.1).2) rfl) rfl ?_
            refine wa_take_on 16 rfl rfl rfl (by kernel_rfl) (by kernel_rfl) (by kernel_rfl) (listed' := #[true, true, true, true, true, true, true, true, true, true, true, true, true, true, true, true, true, false, false, false, false, false]) rfl (fun _ _ _ h => h) (fun _ hm => ⟨hm.blkI 0 rfl, hm.fact 0 rfl, hm.fact 1 rfl, hm.fact 2 rfl, hm.fact 3 rfl, hm.fact 4 rfl, trivial⟩) (ov_gtr rfl rfl) rfl ?_
            refine wa_take 17 rfl (by kernel_rfl) (by kernel_rfl) (by kernel_rfl) (listed' := #[true, true, true, true, true, true, true, true, true, true, true, true, true, true, true, true, true, true, false, false, false, false]) rfl (fun _ _ _ h => h) (fun _ hm => ⟨hm.blkI 0 rfl, hm.fact 0 rfl, hm.fact 1 rfl, hm.fact 2 rfl, hm.fact 3 rfl, hm.fact 4 rfl, trivial⟩) (ov_pick_f rfl rfl) rfl ?_
            refine wa_all [18] (by kernel_rfl) rfl ⟨⟨_, rfl, ?_⟩, trivial⟩
            refine wl_callw rfl cb20 rfl rfl (fun wx hm => (rwhen_any _ _ wx)) ?_
            refine wl_nil ?_
            refine nx_wa0 (listed' := #[true, true, true, true, true, true, true, true, true, true, true, true, true, true, true, true, true, true, true, false, false, false]) rfl (fun _ hm => ⟨hm.blkI 0 rfl, hm.fact 0 rfl, hm.fact 1 rfl, hm.fact 2 rfl, hm.fact 3 rfl, hm.fact 4 rfl, trivial⟩) ?_
            refine wa_all [19] (by kernel_rfl) rfl ⟨⟨_, rfl, ?_⟩, trivial⟩
            refine wl_buildSlice (e := 41) (cs := [.int .i64 (firstE [stockE cs sl, checkE cs l]), .int .i64 (whenE NB 8), .int .i64 (whenE (decide (5761439 < wb)) 1)]) rfl (by kernel_rfl) rfl fun g9 => ?_
            refine wl_nil ?_
            refine nx_wa0 (listed' := #[true, true, true, true, true, true, true, true, true, true, true, true, true, true, true, true, true, true, true, true, false, false]) rfl (fun _ hm => ⟨hm.blkI 1 rfl, hm.fact 0 rfl, hm.fact 1 rfl, hm.fact 2 rfl, hm.fact 3 rfl, hm.fact 4 rfl, trivial⟩) ?_
            refine wa_all [20] (by kernel_rfl) rfl ⟨⟨_, rfl, ?_⟩, trivial⟩
            refine wl_callw (v := .int .i64 E2) rfl cb22 rfl rfl (fun wx hm => (by have h := errs_any [firstE [stockE cs sl, checkE cs l], whenE NB 8, whenE (decide (5761439 < wb)) 1] g9 3 _ wx (hm.blkI 0 rfl) (by simp); rw [show firstE [firstE [stockE cs sl, checkE cs l], whenE NB 8, whenE (decide (5761439 < wb)) 1] = E2 from by rw [htwo, hwv, hSE, hKE]] at h; exact h)) ?_
            refine wl_nil ?_
            refine nx_wa0 (listed' := #[true, true, true, true, true, true, true, true, true, true, true, true, true, true, true, true, true, true, true, true, true, false]) rfl (fun _ hm => ⟨hm.blkI 1 rfl, hm.fact 0 rfl, hm.fact 1 rfl, hm.fact 2 rfl, hm.fact 3 rfl, hm.fact 4 rfl, trivial⟩) ?_
            refine wa_take 21 rfl (by kernel_rfl) (by kernel_rfl) (by kernel_rfl) (listed' := #[true, true, true, true, true, true, true, true, true, true, true, true, true, true, true, true, true, true, true, true, true, true]) rfl (fun _ _ _ h => h) (fun _ hm => ⟨hm.blkI 1 rfl, hm.fact 0 rfl, hm.fact 1 rfl, hm.fact 2 rfl, hm.fact 3 rfl, hm.fact 4 rfl, trivial⟩) (ov_assign rfl) rfl ?_
            refine wa_done (by kernel_rfl) ?_
            exact nx_meet () trivial ⟨rfl, rfl, rfl, rfl, rfl, rfl, rfl, rfl, rfl, rfl, rfl, trivial⟩ (fun _ hm => hm.pick [] [] [0, 1, 2, 3, 4] rfl rfl)
      · intro u_ hinv
        replace hinv : True := hinv
        refine gw_seq ?_
        refine gw_seq ?_
        refine gw_draw (fun wz => (BlkOld w2.heap.size none g5 35 [.int .i64 wa, .int .i64 wb]) wz ∧ (BlkOld w2.heap.size none g4 54 [.slice A0 4 c0, .slice A1 n1 c1, .slice A n c, .int .i64 (stockE cs sl), .int .i64 (checkE cs l)]) wz ∧ (SlOld csEnc 2 135 w2.heap.size none A0 4 cs) wz ∧ (SlOld skEnc 2 139 w2.heap.size none A1 n1 sl) wz ∧ (SlOld bkEnc 6 142 w2.heap.size none A n l) wz ∧ True) mixed ?_
        refine wa_take 0 rfl (by kernel_rfl) (by kernel_rfl) (by kernel_rfl) (listed' := #[true, false, false, false, false, false, false, false, false, false, false, false, false, false, false, false, false, false, false, false, false, false, false, false, false, false, false, false]) rfl (fun _ _ _ h => h) (fun _ hm => ⟨hm.fact 0 rfl, hm.fact 1 rfl, hm.fact 2 rfl, hm.fact 3 rfl, hm.fact 4 rfl, trivial⟩) (ov_field fo54_0 rfl rfl) rfl ?_
        refine wa_take 1 rfl (by kernel_rfl) (by kernel_rfl) (by kernel_rfl) (listed' := #[true, true, false, false, false, false, false, false, false, false, false, false, false, false, false, false, false, false, false, false, false, false, false, false, false, false, false, false]) rfl (fun _ _ _ h => h) (fun _ hm => ⟨hm.fact 0 rfl, hm.fact 1 rfl, hm.fact 2 rfl, hm.fact 3 rfl, hm.fact 4 rfl, trivial⟩) (ov_load (v := .slice A0 4 c0) sc50 rfl (fun _ hm => (hm.2.1).2) rfl) rfl ?_
        refine wa_take 2 rfl (by kernel_rfl) (by kernel_rfl) (by kernel_rfl) (listed' := #[true, true, true, false, false, false, false, false, false, false, false, false, false, false, false, false, false, false, false, false, false, false, false, false, false, false, false, false]) rfl (fun _ _ _ h => h) (fun _ hm => ⟨hm.fact 0 rfl, hm.fact 1 rfl, hm.fact 2 rfl, hm.fact 3 rfl, hm.fact 4 rfl, trivial⟩) (ov_field fo54_2 rfl rfl) rfl ?_
        refine wa_take 3 rfl (by kernel_rfl) (by kernel_rfl) (by kernel_rfl) (listed' := #[true, true, true, true, false, false, false, false, false, false, false, false, false, false, false, false, false, false, false, false, false, false, false, false, false, false, false, false]) rfl (fun _ _ _ h => h) (fun _ hm => ⟨hm.fact 0 rfl, hm.fact 1 rfl, hm.fact 2 rfl, hm.fact 3 rfl, hm.fact 4 rfl, trivial⟩) (ov_load (v := .slice A n c) sc52 rfl (fun _ hm => (hm.2.1).2) rfl) rfl ?_
        refine wa_take 5 rfl (by kernel_rfl) (by kernel_rfl) (by kernel_rfl) (listed' := #[true, true, true, true, false, true, false, false, false, false, false, false, false, false, false, false, false, false, false, false, false, false, false, false, false, false, false, false]) rfl (fun _ _ _ h => h) (fun _ hm => ⟨hm.fact 0 rfl, hm.fact 1 rfl, hm.fact 2 rfl, hm.fact 3 rfl, hm.fact 4 rfl, trivial⟩) (ov_field fo54_4 rfl rfl) rfl ?_
        refine wa_take 6 rfl (by kernel_rfl) (by kernel_rfl) (by kernel_rfl) (listed' := #[true, true, true, true, false, true, true, false, false, false, false, false, false, false, false, false, false, false, false, false, false, false, false, false, false, false, false, false]) rfl (fun _ _ _ h => h) (fun _ hm => ⟨hm.fact 0 rfl, hm.fact 1 rfl, hm.fact 2 rfl, hm.fact 3 rfl, hm.fact 4 rfl, trivial⟩) (ov_load (v := .int .i64 (checkE cs l)) sc41 rfl (fun _ hm => (hm.2.1).2) rfl) rfl ?_
        refine wa_all [4] (by kernel_rfl) rfl ⟨⟨_, rfl, ?_⟩, trivial⟩
        refine wl_callv (v := .int .i64 KE) rfl cb24 rfl rfl (fun wx hm => (by rw [hKE]; exact bcheck_any cs A0 4 c0 l A n c wx (hm.fact 2 rfl).1 hco (by omega) (hm.fact 4 rfl).1 hok (by omega))) ?_
        refine wl_nil ?_
        refine nx_wa0 (listed' := #[true, true, true, true, true, true, true, false, false, false, false, false, false, false, false, false, false, false, false, false, false, false, false, false, false, false, false, false]) rfl (fun _ hm => ⟨hm.fact 0 rfl, hm.fact 1 rfl, hm.fact 2 rfl, hm.fact 3 rfl, hm.fact 4 rfl, trivial⟩) ?_
        refine wa_take 7 rfl (by kernel_rfl) (by kernel_rfl) (by kernel_rfl) (listed' := #[true, true, true, true, true, true, true, true, false, false, false, false, false, false, false, false, false, false, false, false, false, false, false, false, false, false, false, false]) rfl (fun _ _ _ h => h) (fun _ hm => ⟨hm.fact 0 rfl, hm.fact 1 rfl, hm.fact 2 rfl, hm.fact 3 rfl, hm.fact 4 rfl, trivial⟩) (ov_neq rfl rfl) rfl ?_
        refine wa_set 90 (v' := .bool false) rfl (congrArg Value.bool (by simp [hKE])) ?_
        refine wa_take 8 rfl (by kernel_rfl) (by kernel_rfl) (by kernel_rfl) (listed' := #[true, true, true, true, true, true, true, true, true, false, false, false, false, false, false, false, false, false, false, false, false, false, false, false, false, false, false, false]) rfl (fun _ _ _ h => h) (fun _ hm => ⟨hm.fact 0 rfl, hm.fact 1 rfl, hm.fact 2 rfl, hm.fact 3 rfl, hm.fact 4 rfl, trivial⟩) (ov_move rfl) rfl ?_
        refine wa_take_on 9 rfl rfl rfl (by kernel_rfl) (by kernel_rfl) (by kernel_rfl) (listed' := #[true, true, true, true, true, true, true, true, true, true, false, false, false, false, false, false, false, false, false, false, false, false, false, false, false, false, false, false]) rfl (fun _ _ _ h => h) (fun _ hm => ⟨hm.fact 0 rfl, hm.fact 1 rfl, hm.fact 2 rfl, hm.fact 3 rfl, hm.fact 4 rfl, trivial⟩) (ov_field fo54_0 rfl rfl) rfl ?_
        refine wa_take_on 10 rfl rfl rfl (by kernel_rfl) (by kernel_rfl) (by kernel_rfl) (listed' := #[true, true, true, true, true, true, true, true, true, true, true, false, false, false, false, false, false, false, false, false, false, false, false, false, false, false, false, false]) rfl (fun _ _ _ h => h) (fun _ hm => ⟨hm.fact 0 rfl, hm.fact 1 rfl, hm.fact 2 rfl, hm.fact 3 rfl, hm.fact 4 rfl, trivial⟩) (ov_load (v := .slice A0 4 c0) sc50 rfl (fun _ hm => (hm.2.1).2) rfl) rfl ?_
        refine wa_take_on 11 rfl rfl rfl (by kernel_rfl) (by kernel_rfl) (by kernel_rfl) (listed' := #[true, true, true, true, true, true, true, true, true, true, true, true, false, false, false, false, false, false, false, false, false, false, false, false, false, false, false, false]) rfl (fun _ _ _ h => h) (fun _ hm => ⟨hm.fact 0 rfl, hm.fact 1 rfl, hm.fact 2 rfl, hm.fact 3 rfl, hm.fact 4 rfl, trivial⟩) (ov_field fo54_1 rfl rfl) rfl ?_
        refine wa_take_on 12 rfl rfl rfl (by kernel_rfl) (by kernel_rfl) (by kernel_rfl) (listed' := #[true, true, true, true, true, true, true, true, true, true, true, true, true, false, false, false, false, false, false, false, false, false, false, false, false, false, false, false]) rfl (fun _ _ _ h => h) (fun _ hm => ⟨hm.fact 0 rfl, hm.fact 1 rfl, hm.fact 2 rfl, hm.fact 3 rfl, hm.fact 4 rfl, trivial⟩) (ov_load (v := .slice A1 n1 c1) sc51 rfl (fun _ hm => (hm.2.1).2) rfl) rfl ?_
        refine wa_take_on 14 rfl rfl rfl (by kernel_rfl) (by kernel_rfl) (by kernel_rfl) (listed' := #[true, true, true, true, true, true, true, true, true, true, true, true, true, false, true, false, false, false, false, false, false, false, false, false, false, false, false, false]) rfl (fun _ _ _ h => h) (fun _ hm => ⟨hm.fact 0 rfl, hm.fact 1 rfl, hm.fact 2 rfl, hm.fact 3 rfl, hm.fact 4 rfl, trivial⟩) (ov_field fo54_3 rfl rfl) rfl ?_
        refine wa_take_on 15 rfl rfl rfl (by kernel_rfl) (by kernel_rfl) (by kernel_rfl) (listed' := #[true, true, true, true, true, true, true, true, true, true, true, true, true, false, true, true, false, false, false, false, false, false, false, false, false, false, false, false]) rfl (fun _ _ _ h => h) (fun _ hm => ⟨hm.fact 0 rfl, hm.fact 1 rfl, hm.fact 2 rfl, hm.fact 3 rfl, hm.fact 4 rfl, trivial⟩) (ov_load (v := .int .i64 (stockE cs sl)) sc41 rfl (fun _ hm => (hm.2.1).2) rfl) rfl ?_
        refine wa_all [13] (by kernel_rfl) rfl ⟨⟨_, rfl, ?_⟩, trivial⟩
        refine wl_guard_on rfl rfl rfl ?_
        refine wl_callv (v := .int .i64 SE) rfl cb25 rfl rfl (fun wx hm => (by rw [hSE]; exact checkStock_any cs A0 4 c0 sl A1 n1 c1 wx (hm.fact 2 rfl).1 hco (by omega) (hm.fact 3 rfl).1 hso (by omega))) ?_
        refine wl_nil ?_
        refine nx_wa0 (listed' := #[true, true, true, true, true, true, true, true, true, true, true, true, true, true, true, true, false, false, false, false, false, false, false, false, false, false, false, false]) rfl (fun _ hm => ⟨hm.fact 0 rfl, hm.fact 1 rfl, hm.fact 2 rfl, hm.fact 3 rfl, hm.fact 4 rfl, trivial⟩) ?_
        refine wa_take_on 16 rfl rfl rfl (by kernel_rfl) (by kernel_rfl) (by kernel_rfl) (listed' := #[true, true, true, true, true, true, true, true, true, true, true, true, true, true, true, true, true, false, false, false, false, false, false, false, false, false, false, false]) rfl (fun _ _ _ h => h) (fun _ hm => ⟨hm.fact 0 rfl, hm.fact 1 rfl, hm.fact 2 rfl, hm.fact 3 rfl, hm.fact 4 rfl, trivial⟩) (ov_neq rfl rfl) rfl ?_
        refine wa_set 99 (v' := .bool false) rfl (congrArg Value.bool (by simp [hSE])) ?_
        refine wa_take 17 rfl (by kernel_rfl) (by kernel_rfl) (by kernel_rfl) (listed' := #[true, true, true, true, true, true, true, true, true, true, true, true, true, true, true, true, true, true, false, false, false, false, false, false, false, false, false, false]) rfl (fun _ _ _ h => h) (fun _ hm => ⟨hm.fact 0 rfl, hm.fact 1 rfl, hm.fact 2 rfl, hm.fact 3 rfl, hm.fact 4 rfl, trivial⟩) (ov_pick_f rfl rfl) rfl ?_
        refine wa_take 18 rfl (by kernel_rfl) (by kernel_rfl) (by kernel_rfl) (listed' := #[true, true, true, true, true, true, true, true, true, true, true, true, true, true, true, true, true, true, true, false, false, false, false, false, false, false, false, false]) rfl (fun _ _ _ h => h) (fun _ hm => ⟨hm.fact 0 rfl, hm.fact 1 rfl, hm.fact 2 rfl, hm.fact 3 rfl, hm.fact 4 rfl, trivial⟩) (ov_move rfl) rfl ?_
        refine wa_take_on 19 rfl rfl rfl (by kernel_rfl) (by kernel_rfl) (by kernel_rfl) (listed' := #[true, true, true, true, true, true, true, true, true, true, true, true, true, true, true, true, true, true, true, true, false, false, false, false, false, false, false, false]) rfl (fun _ _ _ h => h) (fun _ hm => ⟨hm.fact 0 rfl, hm.fact 1 rfl, hm.fact 2 rfl, hm.fact 3 rfl, hm.fact 4 rfl, trivial⟩) (ov_move rfl) rfl ?_
        refine wa_take_on 20 rfl rfl rfl (by kernel_rfl) (by kernel_rfl) (by kernel_rfl) (listed' := #[true, true, true, true, true, true, true, true, true, true, true, true, true, true, true, true, true, true, true, true, true, false, false, false, false, false, false, false]) rfl (fun _ _ _ h => h) (fun _ hm => ⟨hm.fact 0 rfl, hm.fact 1 rfl, hm.fact 2 rfl, hm.fact 3 rfl, hm.fact 4 rfl, trivial⟩) (ov_move rfl) rfl ?_
        refine wa_take_on 21 rfl rfl rfl (by kernel_rfl) (by kernel_rfl) (by kernel_rfl) (listed' := #[true, true, true, true, true, true, true, true, true, true, true, true, true, true, true, true, true, true, true, true, true, true, false, false, false, false, false, false]) rfl (fun _ _ _ h => h) (fun _ hm => ⟨hm.fact 0 rfl, hm.fact 1 rfl, hm.fact 2 rfl, hm.fact 3 rfl, hm.fact 4 rfl, trivial⟩) (ov_neq rfl rfl) rfl ?_
        refine wa_set 104 (v' := .bool false) rfl (congrArg Value.bool (by simp)) ?_
        refine wa_take 22 rfl (by kernel_rfl) (by kernel_rfl) (by kernel_rfl) (listed' := #[true, true, true, true, true, true, true, true, true, true, true, true, true, true, true, true, true, true, true, true, true, true, true, false, false, false, false, false]) rfl (fun _ _ _ h => h) (fun _ hm => ⟨hm.fact 0 rfl, hm.fact 1 rfl, hm.fact 2 rfl, hm.fact 3 rfl, hm.fact 4 rfl, trivial⟩) (ov_pick_f rfl rfl) rfl ?_
        refine wa_take 23 rfl (by kernel_rfl) (by kernel_rfl) (by kernel_rfl) (listed' := #[true, true, true, true, true, true, true, true, true, true, true, true, true, true, true, true, true, true, true, true, true, true, true, true, false, false, false, false]) rfl (fun _ _ _ h => h) (fun _ hm => ⟨hm.fact 0 rfl, hm.fact 1 rfl, hm.fact 2 rfl, hm.fact 3 rfl, hm.fact 4 rfl, trivial⟩) (ov_move rfl) rfl ?_
        refine wa_take_on 24 rfl rfl rfl (by kernel_rfl) (by kernel_rfl) (by kernel_rfl) (listed' := #[true, true, true, true, true, true, true, true, true, true, true, true, true, true, true, true, true, true, true, true, true, true, true, true, true, false, false, false]) rfl (fun _ _ _ h => h) (fun _ hm => ⟨hm.fact 0 rfl, hm.fact 1 rfl, hm.fact 2 rfl, hm.fact 3 rfl, hm.fact 4 rfl, trivial⟩) (ov_move rfl) rfl ?_
        refine wa_take_on 25 rfl rfl rfl (by kernel_rfl) (by kernel_rfl) (by kernel_rfl) (listed' := #[true, true, true, true, true, true, true, true, true, true, true, true, true, true, true, true, true, true, true, true, true, true, true, true, true, true, false, false]) rfl (fun _ _ _ h => h) (fun _ hm => ⟨hm.fact 0 rfl, hm.fact 1 rfl, hm.fact 2 rfl, hm.fact 3 rfl, hm.fact 4 rfl, trivial⟩) (ov_move rfl) rfl ?_
        refine wa_take_on 26 rfl rfl rfl (by kernel_rfl) (by kernel_rfl) (by kernel_rfl) (listed' := #[true, true, true, true, true, true, true, true, true, true, true, true, true, true, true, true, true, true, true, true, true, true, true, true, true, true, true, false]) rfl (fun _ _ _ h => h) (fun _ hm => ⟨hm.fact 0 rfl, hm.fact 1 rfl, hm.fact 2 rfl, hm.fact 3 rfl, hm.fact 4 rfl, trivial⟩) (ov_neq rfl rfl) rfl ?_
        refine wa_set 109 (v' := .bool false) rfl (congrArg Value.bool (by simp)) ?_
        refine wa_take 27 rfl (by kernel_rfl) (by kernel_rfl) (by kernel_rfl) (listed' := #[true, true, true, true, true, true, true, true, true, true, true, true, true, true, true, true, true, true, true, true, true, true, true, true, true, true, true, true]) rfl (fun _ _ _ h => h) (fun _ hm => ⟨hm.fact 0 rfl, hm.fact 1 rfl, hm.fact 2 rfl, hm.fact 3 rfl, hm.fact 4 rfl, trivial⟩) (ov_pick_f rfl rfl) rfl ?_
        refine wa_done (by kernel_rfl) ?_
        refine nx_then ?_
        refine gw_cond rfl (fun hh => by cases hh) (fun _ => ?_)
        refine gw_skip ?_
        refine nx_then ?_
        refine gw_seq ?_
        refine gw_region ?_
        refine wl_ov (ov_assign rfl) rfl ?_
        refine wl_ov (ov_assign rfl) rfl ?_
        refine wl_ov (ov_assign rfl) rfl ?_
        refine wl_nil ?_
        refine nx_then ?_
        refine gw_seq ?_
        refine gw_seq ?_
        refine gw_region ?_
        refine wl_ov (ov_move rfl) rfl ?_
        refine wl_ov (ov_eql rfl rfl) rfl ?_
        refine wl_set 112 (v' := .bool true) rfl (congrArg Value.bool (decide_eq_true h1)) ?_
        refine wl_nil ?_
        refine nx_then ?_
        refine gw_cond rfl (fun _ => ?_) (fun hh => by cases hh)
        refine gw_region ?_
        refine wl_ov (ov_field fo54_2 rfl rfl) rfl ?_
        refine wl_ov (ov_load (v := .slice A n c) sc52 rfl (fun _ hm => (hm.fact 1 rfl).2) rfl) rfl ?_
        refine wl_ov (ov_move rfl) rfl ?_
        refine wl_callv (v := .tuple #[.int .i64 P1, .int .i64 P2]) rfl cb26 rfl rfl (fun wx hm => (by have h := busyOf_any l A n c q2 wx (hm.fact 4 rfl).1 hok (by omega) (busyE_ok (hE1.symm.trans h1)); rw [← busy_ref (hE1.symm.trans h1), ← hP1, ← hP2] at h; exact h)) ?_
        refine wl_ov (ov_move rfl) rfl ?_
        refine wl_ov (ov_extract rfl rfl) rfl ?_
        refine wl_ov (ov_extract rfl rfl) rfl ?_
        refine wl_ov (ov_assign rfl) rfl ?_
        refine wl_ov (ov_assign rfl) rfl ?_
        refine wl_nil ?_
        refine nx_then ?_
        refine gw_seq ?_
        refine gw_seq ?_
        refine gw_region ?_
        refine wl_ov (ov_move rfl) rfl ?_
        refine wl_ov (ov_eql rfl rfl) rfl ?_
        refine wl_set 121 (v' := .bool true) rfl (congrArg Value.bool (decide_eq_true h2)) ?_
        refine wl_nil ?_
        refine nx_then ?_
        refine gw_cond rfl (fun _ => ?_) (fun hh => by cases hh)
        refine gw_region ?_
        refine wl_ov (ov_field fo54_1 rfl rfl) rfl ?_
        refine wl_ov (ov_load (v := .slice A1 n1 c1) sc51 rfl (fun _ hm => (hm.fact 1 rfl).2) rfl) rfl ?_
        refine wl_ov (ov_field fo54_2 rfl rfl) rfl ?_
        refine wl_ov (ov_load (v := .slice A n c) sc52 rfl (fun _ hm => (hm.fact 1 rfl).2) rfl) rfl ?_
        refine wl_ov (ov_move rfl) rfl ?_
        refine wl_ov (ov_loads (vs := [.int .i64 wa, .int .i64 wb]) rz35 rfl (fun _ hm => (hm.fact 0 rfl).2) rfl rfl) rfl ?_
        refine wl_callv (v := .int .i64 FP) rfl cb27 rfl rfl (fun wx hm => (by have h := freeOf_any sl A1 n1 c1 l A n c q2 wa wb wx (hm.fact 3 rfl).1 hso (by omega) (hm.fact 4 rfl).1 hok (by omega) (freeE_ok (hE2.symm.trans h2)).1 (by have := freeE_ok (hE2.symm.trans h2); omega); rw [← free_ref (hE2.symm.trans h2), ← hFP] at h; exact h)) ?_
        refine wl_ov (ov_assign rfl) rfl ?_
        refine wl_nil ?_
        refine nx_then ?_
        refine gw_seq ?_
        refine gw_region ?_
        refine wl_ov (ov_move rfl) rfl ?_
        refine wl_ov (ov_move rfl) rfl ?_
        refine wl_ov (ov_eql rfl rfl) rfl ?_
        refine wl_set 131 (v' := .bool true) rfl (congrArg Value.bool (by simp)) ?_
        refine wl_ov (ov_move rfl) rfl ?_
        refine wl_guard_on rfl rfl rfl ?_
        refine wl_ov (ov_move rfl) rfl ?_
        refine wl_guard_on rfl rfl rfl ?_
        refine wl_ov (ov_move rfl) rfl ?_
        refine wl_guard_on rfl rfl rfl ?_
        refine wl_ov (ov_eql rfl rfl) rfl ?_
        refine wl_set 135 (v' := .bool true) rfl (congrArg Value.bool (by simp)) ?_
        refine wl_ov (ov_pick_t rfl rfl) rfl ?_
        refine wl_ov (ov_move rfl) rfl ?_
        refine wl_guard_on rfl rfl rfl ?_
        refine wl_ov (ov_move rfl) rfl ?_
        refine wl_guard_on rfl rfl rfl ?_
        refine wl_ov (ov_move rfl) rfl ?_
        refine wl_guard_on rfl rfl rfl ?_
        refine wl_ov (ov_eql rfl rfl) rfl ?_
        refine wl_set 140 (v' := .bool true) rfl (congrArg Value.bool (by simp)) ?_
        refine wl_ov (ov_pick_t rfl rfl) rfl ?_
        refine wl_ov (ov_move rfl) rfl ?_
        refine wl_guard_on rfl rfl rfl ?_
        refine wl_callv rfl cb28 rfl rfl (fun wx hm => (booked_any wx)) ?_
        refine wl_ov (ov_pick_t rfl rfl) rfl ?_
        refine wl_ov (ov_assign rfl) rfl ?_
        refine wl_nil ?_
        refine nx_then ?_
        refine gw_ret ?_
        refine nx_ret1 rfl rfl fun wx hm => ?_
        exact ⟨rfl, law_end hg1 hsb (grow_trans hm_w2.g (grow_weak hm.g))⟩
    · have hz2 : freeP cs sl l q2 wa wb = 0 := by unfold freeP; rw [← hE2, if_neg h2]
      refine wl_callv (v := .tuple #[.int .i64 P1, .int .i64 P2, .int .i64 E1]) rfl cb18 rfl rfl (fun wx hm => (by have h := busy_any cs A0 4 c0 l A n c q2 wx (hm.fact 2 rfl).1 hco (by omega) (hm.fact 4 rfl).1 hok (by omega); rw [← hP1, ← hP2, ← hE1] at h; exact h)) ?_
      refine wl_ov (ov_move rfl) rfl ?_
      refine wl_ov (ov_extract rfl rfl) rfl ?_
      refine wl_ov (ov_extract rfl rfl) rfl ?_
      refine wl_ov (ov_extract rfl rfl) rfl ?_
      refine wl_ov (ov_assign rfl) rfl ?_
      refine wl_ov (ov_assign rfl) rfl ?_
      refine wl_ov (ov_assign rfl) rfl ?_
      refine wl_nil ?_
      refine nx_then ?_
      refine gw_seq ?_
      refine gw_region ?_
      refine wl_ov (ov_field fo54_0 rfl rfl) rfl ?_
      refine wl_ov (ov_load (v := .slice A0 4 c0) sc50 rfl (fun _ hm => (hm.fact 1 rfl).2) rfl) rfl ?_
      refine wl_ov (ov_field fo54_1 rfl rfl) rfl ?_
      refine wl_ov (ov_load (v := .slice A1 n1 c1) sc51 rfl (fun _ hm => (hm.fact 1 rfl).2) rfl) rfl ?_
      refine wl_ov (ov_field fo54_2 rfl rfl) rfl ?_
      refine wl_ov (ov_load (v := .slice A n c) sc52 rfl (fun _ hm => (hm.fact 1 rfl).2) rfl) rfl ?_
      refine wl_ov (ov_move rfl) rfl ?_
      refine wl_ov (ov_loads (vs := [.int .i64 wa, .int .i64 wb]) rz35 rfl (fun _ hm => (hm.fact 0 rfl).2) rfl rfl) rfl ?_
      refine wl_callv (v := .tuple #[.int .i64 0, .int .i64 E2]) rfl cb19 rfl rfl (fun wx hm => (by have h := free_any cs A0 4 c0 sl A1 n1 c1 l A n c q2 wa wb wx (hm.fact 2 rfl).1 hco (by omega) (hm.fact 3 rfl).1 hso (by omega) (hm.fact 4 rfl).1 hok (by omega); rw [hz2, ← hE2] at h; exact h)) ?_
      refine wl_ov (ov_move rfl) rfl ?_
      refine wl_ov (ov_extract rfl rfl) rfl ?_
      refine wl_ov (ov_extract rfl rfl) rfl ?_
      refine wl_ov (ov_assign rfl) rfl ?_
      refine wl_ov (ov_assign rfl) rfl ?_
      refine wl_nil ?_
      refine nx_then ?_
      refine gw_seq ?_
      refine gw_region ?_
      refine wl_ov (ov_field fo54_0 rfl rfl) rfl ?_
      refine wl_ov (ov_load (v := .slice A0 4 c0) sc50 rfl (fun _ hm => (hm.fact 1 rfl).2) rfl) rfl ?_
      refine wl_ov (ov_move rfl) rfl ?_
      refine wl_callv (v := .int .i64 IA) rfl cb21 rfl rfl (fun wx hm => (by rw [hIA]; exact rClassAt_any cs A0 4 c0 q2 wx (hm.fact 2 rfl).1 (by omega))) ?_
      refine wl_ov (ov_lss rfl rfl) rfl ?_
      refine wl_set 55 (v' := .bool NB) rfl (congrArg Value.bool hNI) ?_
      refine wl_callw rfl cb20 rfl rfl (fun wx hm => (rwhen_any _ _ wx)) ?_
      refine wl_ov (ov_assign rfl) rfl ?_
      refine wl_nil ?_
      refine nx_then ?_
      refine gw_seq ?_
      refine gw_region ?_
      refine wl_ov (ov_field fo54_4 rfl rfl) rfl ?_
      refine wl_ov (ov_load (v := .int .i64 (checkE cs l)) sc41 rfl (fun _ hm => (hm.fact 1 rfl).2) rfl) rfl ?_
      refine wl_ov (ov_move rfl) rfl ?_
      refine wl_buildSlice (e := 41) (cs := [.int .i64 (checkE cs l), .int .i64 (whenE NB 8)]) rfl (by kernel_rfl) rfl fun g10 => ?_
      refine wl_callw (v := .int .i64 E1) rfl cb22 rfl rfl (fun wx hm => (by have h := errs_any [checkE cs l, whenE NB 8] g10 2 _ wx (hm.blkI 0 rfl) (by simp); rw [show firstE [checkE cs l, whenE NB 8] = E1 from by rw [hone, hKE]] at h; exact h)) ?_
      refine wl_ov (ov_assign rfl) rfl ?_
      refine wl_nil ?_
      refine nx_then ?_
      refine gw_cut (γ := Unit) (I := (fun (u_ : Unit) => True)) (S' := (fun (u_ : Unit) => [(2, .bool false), (4, .pointer (some ⟨g4, 0, none⟩)), (5, .string q2), (6, .pointer (some ⟨g5, 0, none⟩)), (7, .int .i64 P1), (8, .int .i64 P2), (9, .int .i64 E1), (10, .int .i64 0), (11, .int .i64 E2), (13, .int .i64 E1), (14, .int .i64 E2)])) (K' := (fun (u_ : Unit) => fun _ => True)) (L' := (fun (u_ : Unit) => [])) (O' := (fun (u_ : Unit) => [])) (X' := (fun (u_ : Unit) => [BlkOld w2.heap.size none g5 35 [.int .i64 wa, .int .i64 wb], BlkOld w2.heap.size none g4 54 [.slice A0 4 c0, .slice A1 n1 c1, .slice A n c, .int .i64 (stockE cs sl), .int .i64 (checkE cs l)], SlOld csEnc 2 135 w2.heap.size none A0 4 cs, SlOld skEnc 2 139 w2.heap.size none A1 n1 sl, SlOld bkEnc 6 142 w2.heap.size none A n l])) ?_ ?_
      · refine gw_draw (fun wz => Blk wz g10 41 [.int .i64 (checkE cs l), .int .i64 (whenE NB 8)] ∧ (BlkOld w2.heap.size none g5 35 [.int .i64 wa, .int .i64 wb]) wz ∧ (BlkOld w2.heap.size none g4 54 [.slice A0 4 c0, .slice A1 n1 c1, .slice A n c, .int .i64 (stockE cs sl), .int .i64 (checkE cs l)]) wz ∧ (SlOld csEnc 2 135 w2.heap.size none A0 4 cs) wz ∧ (SlOld skEnc 2 139 w2.heap.size none A1 n1 sl) wz ∧ (SlOld bkEnc 6 142 w2.heap.size none A n l) wz ∧ True) mixed ?_
        refine wa_take 0 rfl (by kernel_rfl) (by kernel_rfl) (by kernel_rfl) (listed' := #[true, false, false, false, false, false, false, false, false, false, false, false, false, false, false, false, false, false, false, false, false, false]) rfl (fun _ _ _ h => h) (fun _ hm => ⟨hm.blkI 0 rfl, hm.fact 0 rfl, hm.fact 1 rfl, hm.fact 2 rfl, hm.fact 3 rfl, hm.fact 4 rfl, trivial⟩) (ov_loads (vs := [.slice A0 4 c0, .slice A1 n1 c1, .slice A n c, .int .i64 (stockE cs sl), .int .i64 (checkE cs l)]) rz54 rfl (fun _ hm => (hm.2.2.1).2) rfl rfl) rfl ?_
        refine wa_take 2 rfl (by kernel_rfl) (by kernel_rfl) (by kernel_rfl) (listed' := #[true, false, true, false, false, false, false, false, false, false, false, false, false, false, false, false, false, false, false, false, false, false]) rfl (fun _ _ _ h => h) (fun _ hm => ⟨hm.blkI 0 rfl, hm.fact 0 rfl, hm.fact 1 rfl, hm.fact 2 rfl, hm.fact 3 rfl, hm.fact 4 rfl, trivial⟩) (ov_move rfl) rfl ?_
        refine wa_take 3 rfl (by kernel_rfl) (by kernel_rfl) (by kernel_rfl) (listed' := #[true, false, true, true, false, false, false, false, false, false, false, false, false, false, false, false, false, false, false, false, false, false]) rfl (fun _ _ _ h => h) (fun _ hm => ⟨hm.blkI 0 rfl, hm.fact 0 rfl, hm.fact 1 rfl, hm.fact 2 rfl, hm.fact 3 rfl, hm.fact 4 rfl, trivial⟩) (ov_field fo35_0 rfl rfl) rfl ?_
        refine wa_take 4 rfl (by kernel_rfl) (by kernel_rfl) (by kernel_rfl) (listed' := #[true, false, true, true, true, false, false, false, false, false, false, false, false, false, false, false, false, false, false, false, false, false]) rfl (fun _ _ _ h => h) (fun _ hm => ⟨hm.blkI 0 rfl, hm.fact 0 rfl, hm.fact 1 rfl, hm.fact 2 rfl, hm.fact 3 rfl, hm.fact 4 rfl, trivial⟩) (ov_load (v := .int .i64 wa) sc3 rfl (fun _ hm => (hm.2.1).2) rfl) rfl ?_
        refine wa_take 5 rfl (by kernel_rfl) (by kernel_rfl) (by kernel_rfl) (listed' := #[true, false, true, true, true, true, false, false, false, false, false, false, false, false, false, false, false, false, false, false, false, false]) rfl (fun _ _ _ h => h) (fun _ hm => ⟨hm.blkI 0 rfl, hm.fact 0 rfl, hm.fact 1 rfl, hm.fact 2 rfl, hm.fact 3 rfl, hm.fact 4 rfl, trivial⟩) (ov_lss rfl rfl) rfl ?_
        refine wa_all [1] (by kernel_rfl) rfl ⟨⟨_, rfl, ?_⟩, trivial⟩
        refine wl_callv rfl cb23 rfl rfl (fun wx hm => (call_any _ _ _ _ _ _ _ _ _ _ _ wx)) ?_
        refine wl_nil ?_
        refine nx_wa0 (listed' := #[true, true, true, true, true, true, false, false, false, false, false, false, false, false, false, false, false, false, false, false, false, false]) rfl (fun _ hm => ⟨hm.blkI 0 rfl, hm.fact 0 rfl, hm.fact 1 rfl, hm.fact 2 rfl, hm.fact 3 rfl, hm.fact 4 rfl, trivial⟩) ?_
        refine wa_take 6 rfl (by kernel_rfl) (by kernel_rfl) (by kernel_rfl) (listed' := #[true, true, true, true, true, true, true, false, false, false, false, false, false, false, false, false, false, false, false, false, false, false]) rfl (fun _ _ _ h => h) (fun _ hm => ⟨hm.blkI 0 rfl, hm.fact 0 rfl, hm.fact 1 rfl, hm.fact 2 rfl, hm.fact 3 rfl, hm.fact 4 rfl, trivial⟩) (ov_move rfl) rfl ?_
        rcases Bool.eq_false_or_eq_true (decide (wa < 0)) with hgd0 | hgd0
        · refine wa_set 68 rfl (congrArg Value.bool hgd0) ?_
          replace hgd0 := of_decide_eq_true hgd0
          have hwv : WB = true := by rw [hWB]; unfold winB; rw [decide_eq_true hgd0]; rfl
          refine wa_take_off 7 rfl rfl rfl (by decide) (by kernel_rfl) (by kernel_rfl) (by kernel_rfl) (listed' := #[true, true, true, true, true, true, true, true, false, false, false, false, false, false, false, false, false, false, false, false, false, false]) rfl (fun _ _ _ h => h) (fun _ hm => ⟨hm.blkI 0 rfl, hm.fact 0 rfl, hm.fact 1 rfl, hm.fact 2 rfl, hm.fact 3 rfl, hm.fact 4 rfl, trivial⟩) rfl ?_
          refine wa_take_off 8 rfl rfl rfl (by decide) (by kernel_rfl) (by kernel_rfl) (by kernel_rfl) (listed' := #[true, true, true, true, true, true, true, true, true, false, false, false, false, false, false, false, false, false, false, false, false, false]) rfl (fun _ _ _ h => h) (fun _ hm => ⟨hm.blkI 0 rfl, hm.fact 0 rfl, hm.fact 1 rfl, hm.fact 2 rfl, hm.fact 3 rfl, hm.fact 4 rfl, trivial⟩) rfl ?_
          refine wa_take_off 9 rfl rfl rfl (by decide) (by kernel_rfl) (by kernel_rfl) (by kernel_rfl) (listed' := #[true, true, true, true, true, true, true, true, true, true, false, false, false, false, false, false, false, false, false, false, false, false]) rfl (fun _ _ _ h => h) (fun _ hm => ⟨hm.blkI 0 rfl, hm.fact 0 rfl, hm.fact 1 rfl, hm.fact 2 rfl, hm.fact 3 rfl, hm.fact 4 rfl, trivial⟩) rfl ?_
          refine wa_take_off 10 rfl rfl rfl (by decide) (by kernel_rfl) (by kernel_rfl) (by kernel_rfl) (listed' := #[true, true, true, true, true, true, true, true, true, true, true, false, false, false, false, false, false, false, false, false, false, false]) rfl (fun _ _ _ h => h) (fun _ hm => ⟨hm.blkI 0 rfl, hm.fact 0 rfl, hm.fact 1 rfl, hm.fact 2 rfl, hm.fact 3 rfl, hm.fact 4 rfl, trivial⟩) rfl ?_
          refine wa_take_off 11 rfl rfl rfl (by decide) (by kernel_rfl) (by kernel_rfl) (by kernel_rfl) (listed' := #[true, true, true, true, true, true, true, true, true, true, true, true, false, false, false, false, false, false, false, false, false, false]) rfl (fun _ _ _ h => h) (fun _ hm => ⟨hm.blkI 0 rfl, hm.fact 0 rfl, hm.fact 1 rfl, hm.fact 2 rfl, hm.fact 3 rfl, hm.fact 4 rfl, trivial⟩) rfl ?_
          refine wa_take 12 rfl (by kernel_rfl) (by kernel_rfl) (by kernel_rfl) (listed' := #[true, true, true, true, true, true, true, true, true, true, true, true, true, false, false, false, false, false, false, false, false, false]) rfl (fun _ _ _ h => h) (fun _ hm => ⟨hm.blkI 0 rfl, hm.fact 0 rfl, hm.fact 1 rfl, hm.fact 2 rfl, hm.fact 3 rfl, hm.fact 4 rfl, trivial⟩) (ov_pick_t rfl rfl) rfl ?_
          refine wa_take 13 rfl (by kernel_rfl) (by kernel_rfl) (by kernel_rfl) (listed' := #[true, true, true, true, true, true, true, true, true, true, true, true, true, true, false, false, false, false, false, false, false, false]) rfl (fun _ _ _ h => h) (fun _ hm => ⟨hm.blkI 0 rfl, hm.fact 0 rfl, hm.fact 1 rfl, hm.fact 2 rfl, hm.fact 3 rfl, hm.fact 4 rfl, trivial⟩) (ov_move rfl) rfl ?_
          refine wa_take_off 14 rfl rfl rfl (by decide) (by kernel_rfl) (by kernel_rfl) (by kernel_rfl) (listed' := #[true, true, true, true, true, true, true, true, true, true, true, true, true, true, true, false, false, false, false, false, false, false]) rfl (fun _ _ _ h => h) (fun _ hm => ⟨hm.blkI 0 rfl, hm.fact 0 rfl, hm.fact 1 rfl, hm.fact 2 rfl, hm.fact 3 rfl, hm.fact 4 rfl, trivial⟩) rfl ?_
          refine wa_take_off 15 rfl rfl rfl (by decide) (by kernel_rfl) (by kernel_rfl) (by kernel_rfl) (listed' := #[true, true, true, true, true, true, true, true, true, true, true, true, true, true, true, true, false, false, false, false, false, false]) rfl (fun _ _ _ h => h) (fun _ hm => ⟨hm.blkI 0 rfl, hm.fact 0 rfl, hm.fact 1 rfl, hm.fact 2 rfl, hm.fact 3 rfl, hm.fact 4 rfl, trivial⟩) rfl ?_
          refine wa_take_off 16 rfl rfl rfl (by decide) (by kernel_rfl) (by kernel_rfl) (by kernel_rfl) (listed' := #[true, true, true, true, true, true, true, true, true, true, true, true, true, true, true, true, true, false, false, false, false, false]) rfl (fun _ _ _ h => h) (fun _ hm => ⟨hm.blkI 0 rfl, hm.fact 0 rfl, hm.fact 1 rfl, hm.fact 2 rfl, hm.fact 3 rfl, hm.fact 4 rfl, trivial⟩) rfl ?_
          refine wa_take 17 rfl (by kernel_rfl) (by kernel_rfl) (by kernel_rfl) (listed' := #[true, true, true, true, true, true, true, true, true, true, true, true, true, true, true, true, true, true, false, false, false, false]) rfl (fun _ _ _ h => h) (fun _ hm => ⟨hm.blkI 0 rfl, hm.fact 0 rfl, hm.fact 1 rfl, hm.fact 2 rfl, hm.fact 3 rfl, hm.fact 4 rfl, trivial⟩) (ov_pick_t rfl rfl) rfl ?_
          refine wa_all [18] (by kernel_rfl) rfl ⟨⟨_, rfl, ?_⟩, trivial⟩
          refine wl_callw rfl cb20 rfl rfl (fun wx hm => (rwhen_any _ _ wx)) ?_
          refine wl_nil ?_
          refine nx_wa0 (listed' := #[true, true, true, true, true, true, true, true, true, true, true, true, true, true, true, true, true, true, true, false, false, false]) rfl (fun _ hm => ⟨hm.blkI 0 rfl, hm.fact 0 rfl, hm.fact 1 rfl, hm.fact 2 rfl, hm.fact 3 rfl, hm.fact 4 rfl, trivial⟩) ?_
          refine wa_all [19] (by kernel_rfl) rfl ⟨⟨_, rfl, ?_⟩, trivial⟩
          refine wl_buildSlice (e := 41) (cs := [.int .i64 (firstE [stockE cs sl, checkE cs l]), .int .i64 (whenE NB 8), .int .i64 (whenE true 1)]) rfl (by kernel_rfl) rfl fun g11 => ?_
          refine wl_nil ?_
          refine nx_wa0 (listed' := #[true, true, true, true, true, true, true, true, true, true, true, true, true, true, true, true, true, true, true, true, false, false]) rfl (fun _ hm => ⟨hm.blkI 1 rfl, hm.fact 0 rfl, hm.fact 1 rfl, hm.fact 2 rfl, hm.fact 3 rfl, hm.fact 4 rfl, trivial⟩) ?_
          refine wa_all [20] (by kernel_rfl) rfl ⟨⟨_, rfl, ?_⟩, trivial⟩
          refine wl_callw (v := .int .i64 E2) rfl cb22 rfl rfl (fun wx hm => (by have h := errs_any [firstE [stockE cs sl, checkE cs l], whenE NB 8, whenE true 1] g11 3 _ wx (hm.blkI 0 rfl) (by simp); rw [show firstE [firstE [stockE cs sl, checkE cs l], whenE NB 8, whenE true 1] = E2 from by rw [htwo, hwv, hSE, hKE]] at h; exact h)) ?_
          refine wl_nil ?_
          refine nx_wa0 (listed' := #[true, true, true, true, true, true, true, true, true, true, true, true, true, true, true, true, true, true, true, true, true, false]) rfl (fun _ hm => ⟨hm.blkI 1 rfl, hm.fact 0 rfl, hm.fact 1 rfl, hm.fact 2 rfl, hm.fact 3 rfl, hm.fact 4 rfl, trivial⟩) ?_
          refine wa_take 21 rfl (by kernel_rfl) (by kernel_rfl) (by kernel_rfl) (listed' := #[true, true, true, true, true, true, true, true, true, true, true, true, true, true, true, true, true, true, true, true, true, true]) rfl (fun _ _ _ h => h) (fun _ hm => ⟨hm.blkI 1 rfl, hm.fact 0 rfl, hm.fact 1 rfl, hm.fact 2 rfl, hm.fact 3 rfl, hm.fact 4 rfl, trivial⟩) (ov_assign rfl) rfl ?_
          refine wa_done (by kernel_rfl) ?_
          exact nx_meet () trivial ⟨rfl, rfl, rfl, rfl, rfl, rfl, rfl, rfl, rfl, rfl, rfl, trivial⟩ (fun _ hm => hm.pick [] [] [0, 1, 2, 3, 4] rfl rfl)
        · refine wa_set 68 rfl (congrArg Value.bool hgd0) ?_
          replace hgd0 := of_decide_eq_false hgd0
          refine wa_take_on 7 rfl rfl rfl (by kernel_rfl) (by kernel_rfl) (by kernel_rfl) (listed' := #[true, true, true, true, true, true, true, true, false, false, false, false, false, false, false, false, false, false, false, false, false, false]) rfl (fun _ _ _ h => h) (fun _ hm => ⟨hm.blkI 0 rfl, hm.fact 0 rfl, hm.fact 1 rfl, hm.fact 2 rfl, hm.fact 3 rfl, hm.fact 4 rfl, trivial⟩) (ov_field fo35_0 rfl rfl) rfl ?_
          refine wa_take_on 8 rfl rfl rfl (by kernel_rfl) (by kernel_rfl) (by kernel_rfl) (listed' := #[true, true, true, true, true, true, true, true, true, false, false, false, false, false, false, false, false, false, false, false, false, false]) rfl (fun _ _ _ h => h) (fun _ hm => ⟨hm.blkI 0 rfl, hm.fact 0 rfl, hm.fact 1 rfl, hm.fact 2 rfl, hm.fact 3 rfl, hm.fact 4 rfl, trivial⟩) (ov_load (v := .int .i64 wa) sc3 rfl (fun _ hm => (hm.2.1).2) rfl) rfl ?_
          refine wa_take_on 9 rfl rfl rfl (by kernel_rfl) (by kernel_rfl) (by kernel_rfl) (listed' := #[true, true, true, true, true, true, true, true, true, true, false, false, false, false, false, false, false, false, false, false, false, false]) rfl (fun _ _ _ h => h) (fun _ hm => ⟨hm.blkI 0 rfl, hm.fact 0 rfl, hm.fact 1 rfl, hm.fact 2 rfl, hm.fact 3 rfl, hm.fact 4 rfl, trivial⟩) (ov_field fo35_1 rfl rfl) rfl ?_
          refine wa_take_on 10 rfl rfl rfl (by kernel_rfl) (by kernel_rfl) (by kernel_rfl) (listed' := #[true, true, true, true, true, true, true, true, true, true, true, false, false, false, false, false, false, false, false, false, false, false]) rfl (fun _ _ _ h => h) (fun _ hm => ⟨hm.blkI 0 rfl, hm.fact 0 rfl, hm.fact 1 rfl, hm.fact 2 rfl, hm.fact 3 rfl, hm.fact 4 rfl, trivial⟩) (ov_load (v := .int .i64 wb) sc3 rfl (fun _ hm => (hm.2.1).2) rfl) rfl ?_
          refine wa_take_on 11 rfl rfl rfl (by kernel_rfl) (by kernel_rfl) (by kernel_rfl) (listed' := #[true, true, true, true, true, true, true, true, true, true, true, true, false, false, false, false, false, false, false, false, false, false]) rfl (fun _ _ _ h => h) (fun _ hm => ⟨hm.blkI 0 rfl, hm.fact 0 rfl, hm.fact 1 rfl, hm.fact 2 rfl, hm.fact 3 rfl, hm.fact 4 rfl, trivial⟩) (ov_geq rfl rfl) rfl ?_
          refine wa_take 12 rfl (by kernel_rfl) (by kernel_rfl) (by kernel_rfl) (listed' := #[true, true, true, true, true, true, true, true, true, true, true, true, true, false, false, false, false, false, false, false, false, false]) rfl (fun _ _ _ h => h) (fun _ hm => ⟨hm.blkI 0 rfl, hm.fact 0 rfl, hm.fact 1 rfl, hm.fact 2 rfl, hm.fact 3 rfl, hm.fact 4 rfl, trivial⟩) (ov_pick_f rfl rfl) rfl ?_
          refine wa_take 13 rfl (by kernel_rfl) (by kernel_rfl) (by kernel_rfl) (listed' := #[true, true, true, true, true, true, true, true, true, true, true, true, true, true, false, false, false, false, false, false, false, false]) rfl (fun _ _ _ h => h) (fun _ hm => ⟨hm.blkI 0 rfl, hm.fact 0 rfl, hm.fact 1 rfl, hm.fact 2 rfl, hm.fact 3 rfl, hm.fact 4 rfl, trivial⟩) (ov_move rfl) rfl ?_
          rcases Bool.eq_false_or_eq_true (decide (wb ≤ wa)) with hgd1 | hgd1
          · refine wa_set 75 rfl (congrArg Value.bool hgd1) ?_
            replace hgd1 := of_decide_eq_true hgd1
            have hwv : WB = true := by rw [hWB]; unfold winB; rw [decide_eq_true hgd1, decide_eq_false hgd0]; rfl
            refine wa_take_off 14 rfl rfl rfl (by decide) (by kernel_rfl) (by kernel_rfl) (by kernel_rfl) (listed' := #[true, true, true, true, true, true, true, true, true, true, true, true, true, true, true, false, false, false, false, false, false, false]) rfl (fun _ _ _ h => h) (fun _ hm => ⟨hm.blkI 0 rfl, hm.fact 0 rfl, hm.fact 1 rfl, hm.fact 2 rfl, hm.fact 3 rfl, hm.fact 4 rfl, trivial⟩) rfl ?_
            refine wa_take_off 15 rfl rfl rfl (by decide) (by kernel_rfl) (by kernel_rfl) (by kernel_rfl) (listed' := #[true, true, true, true, true, true, true, true, true, true, true, true, true, true, true, true, false, false, false, false, false, false]) rfl (fun _ _ _ h => h) (fun _ hm => ⟨hm.blkI 0 rfl, hm.fact 0 rfl, hm.fact 1 rfl, hm.fact 2 rfl, hm.fact 3 rfl, hm.fact 4 rfl, trivial⟩) rfl ?_
            refine wa_take_off 16 rfl rfl rfl (by decide) (by kernel_rfl) (by kernel_rfl) (by kernel_rfl) (listed' := #[true, true, true, true, true, true, true, true, true, true, true, true, true, true, true, true, true, false, false, false, false, false]) rfl (fun _ _ _ h => h) (fun _ hm => ⟨hm.blkI 0 rfl, hm.fact 0 rfl, hm.fact 1 rfl, hm.fact 2 rfl, hm.fact 3 rfl, hm.fact 4 rfl, trivial⟩) rfl ?_
            refine wa_take 17 rfl (by kernel_rfl) (by kernel_rfl) (by kernel_rfl) (listed' := #[true, true, true, true, true, true, true, true, true, true, true, true, true, true, true, true, true, true, false, false, false, false]) rfl (fun _ _ _ h => h) (fun _ hm => ⟨hm.blkI 0 rfl, hm.fact 0 rfl, hm.fact 1 rfl, hm.fact 2 rfl, hm.fact 3 rfl, hm.fact 4 rfl, trivial⟩) (ov_pick_t rfl rfl) rfl ?_
            refine wa_all [18] (by kernel_rfl) rfl ⟨⟨_, rfl, ?_⟩, trivial⟩
            refine wl_callw rfl cb20 rfl rfl (fun wx hm => (rwhen_any _ _ wx)) ?_
            refine wl_nil ?_
            refine nx_wa0 (listed' := #[true, true, true, true, true, true, true, true, true, true, true, true, true, true, true, true, true, true, true, false, false, false]) rfl (fun _ hm => ⟨hm.blkI 0 rfl, hm.fact 0 rfl, hm.fact 1 rfl, hm.fact 2 rfl, hm.fact 3 rfl, hm.fact 4 rfl, trivial⟩) ?_
            refine wa_all [19] (by kernel_rfl) rfl ⟨⟨_, rfl, ?_⟩, trivial⟩
            refine wl_buildSlice (e := 41) (cs := [.int .i64 (firstE [stockE cs sl, checkE cs l]), .int .i64 (whenE NB 8), .int .i64 (whenE true 1)]) rfl (by kernel_rfl) rfl fun g12 => ?_
            refine wl_nil ?_
            refine nx_wa0 (listed' := #[true, true, true, true, true, true, true, true, true, true, true, true, true, true, true, true, true, true, true, true, false, false]) rfl (fun _ hm => ⟨hm.blkI 1 rfl, hm.fact 0 rfl, hm.fact 1 rfl, hm.fact 2 rfl, hm.fact 3 rfl, hm.fact 4 rfl, trivial⟩) ?_
            refine wa_all [20] (by kernel_rfl) rfl ⟨⟨_, rfl, ?_⟩, trivial⟩
            refine wl_callw (v := .int .i64 E2) rfl cb22 rfl rfl (fun wx hm => (by have h := errs_any [firstE [stockE cs sl, checkE cs l], whenE NB 8, whenE true 1] g12 3 _ wx (hm.blkI 0 rfl) (by simp); rw [show firstE [firstE [stockE cs sl, checkE cs l], whenE NB 8, whenE true 1] = E2 from by rw [htwo, hwv, hSE, hKE]] at h; exact h)) ?_
            refine wl_nil ?_
            refine nx_wa0 (listed' := #[true, true, true, true, true, true, true, true, true, true, true, true, true, true, true, true, true, true, true, true, true, false]) rfl (fun _ hm => ⟨hm.blkI 1 rfl, hm.fact 0 rfl, hm.fact 1 rfl, hm.fact 2 rfl, hm.fact 3 rfl, hm.fact 4 rfl, trivial⟩) ?_
            refine wa_take 21 rfl (by kernel_rfl) (by kernel_rfl) (by kernel_rfl) (listed' := #[true, true, true, true, true, true, true, true, true, true, true, true, true, true, true, true, true, true, true, true, true, true]) rfl (fun _ _ _ h => h) (fun _ hm => ⟨hm.blkI 1 rfl, hm.fact 0 rfl, hm.fact 1 rfl, hm.fact 2 rfl, hm.fact 3 rfl, hm.fact 4 rfl, trivial⟩) (ov_assign rfl) rfl ?_
            refine wa_done (by kernel_rfl) ?_
            exact nx_meet () trivial ⟨rfl, rfl, rfl, rfl, rfl, rfl, rfl, rfl, rfl, rfl, rfl, trivial⟩ (fun _ hm => hm.pick [] [] [0, 1, 2, 3, 4] rfl rfl)
          · refine wa_set 75 rfl (congrArg Value.bool hgd1) ?_
            replace hgd1 := of_decide_eq_false hgd1
            have hwv : WB = decide (5761439 < wb) := by rw [hWB]; unfold winB; rw [decide_eq_false hgd0, decide_eq_false hgd1]; rfl
            refine wa_take_on 14 rfl rfl rfl (by kernel_rfl) (by kernel_rfl) (by kernel_rfl) (listed' := #[true, true, true, true, true, true, true, true, true, true, true, true, true, true, true, false, false, false, false, false, false, false]) rfl (fun _ _ _ h => h) (fun _ hm => ⟨hm.blkI 0 rfl, hm.fact 0 rfl, hm.fact 1 rfl, hm.fact 2 rfl, hm.fact 3 rfl, hm.fact 4 rfl, trivial⟩) (ov_field fo35_1 rfl rfl) rfl ?_
            refine wa_take_on 15 rfl rfl rfl (by kernel_rfl) (by kernel_rfl) (by kernel_rfl) (listed' := #[true, true, true, true, true, true, true, true, true, true, true, true, true, true, true, true, false, false, false, false, false, false]) rfl (fun _ _ _ h => h) (fun _ hm => ⟨hm.blkI 0 rfl, hm.fact 0 rfl, hm.fact 1 rfl, hm.fact 2 rfl, hm.fact 3 rfl, hm.fact 4 rfl, trivial⟩) (ov_load (v := .int .i64 wb) sc3 rfl (fun _ hm => (hm.2.1).2) rfl) rfl ?_
            refine wa_take_on 16 rfl rfl rfl (by kernel_rfl) (by kernel_rfl) (by kernel_rfl) (listed' := #[true, true, true, true, true, true, true, true, true, true, true, true, true, true, true, true, true, false, false, false, false, false]) rfl (fun _ _ _ h => h) (fun _ hm => ⟨hm.blkI 0 rfl, hm.fact 0 rfl, hm.fact 1 rfl, hm.fact 2 rfl, hm.fact 3 rfl, hm.fact 4 rfl, trivial⟩) (ov_gtr rfl rfl) rfl ?_
            refine wa_take 17 rfl (by kernel_rfl) (by kernel_rfl) (by kernel_rfl) (listed' := #[true, true, true, true, true, true, true, true, true, true, true, true, true, true, true, true, true, true, false, false, false, false]) rfl (fun _ _ _ h => h) (fun _ hm => ⟨hm.blkI 0 rfl, hm.fact 0 rfl, hm.fact 1 rfl, hm.fact 2 rfl, hm.fact 3 rfl, hm.fact 4 rfl, trivial⟩) (ov_pick_f rfl rfl) rfl ?_
            refine wa_all [18] (by kernel_rfl) rfl ⟨⟨_, rfl, ?_⟩, trivial⟩
            refine wl_callw rfl cb20 rfl rfl (fun wx hm => (rwhen_any _ _ wx)) ?_
            refine wl_nil ?_
            refine nx_wa0 (listed' := #[true, true, true, true, true, true, true, true, true, true, true, true, true, true, true, true, true, true, true, false, false, false]) rfl (fun _ hm => ⟨hm.blkI 0 rfl, hm.fact 0 rfl, hm.fact 1 rfl, hm.fact 2 rfl, hm.fact 3 rfl, hm.fact 4 rfl, trivial⟩) ?_
            refine wa_all [19] (by kernel_rfl) rfl ⟨⟨_, rfl, ?_⟩, trivial⟩
            refine wl_buildSlice (e := 41) (cs := [.int .i64 (firstE [stockE cs sl, checkE cs l]), .int .i64 (whenE NB 8), .int .i64 (whenE (decide (5761439 < wb)) 1)]) rfl (by kernel_rfl) rfl fun g13 => ?_
            refine wl_nil ?_
            refine nx_wa0 (listed' := #[true, true, true, true, true, true, true, true, true, true, true, true, true, true, true, true, true, true, true, true, false, false]) rfl (fun _ hm => ⟨hm.blkI 1 rfl, hm.fact 0 rfl, hm.fact 1 rfl, hm.fact 2 rfl, hm.fact 3 rfl, hm.fact 4 rfl, trivial⟩) ?_
            refine wa_all [20] (by kernel_rfl) rfl ⟨⟨_, rfl, ?_⟩, trivial⟩
            refine wl_callw (v := .int .i64 E2) rfl cb22 rfl rfl (fun wx hm => (by have h := errs_any [firstE [stockE cs sl, checkE cs l], whenE NB 8, whenE (decide (5761439 < wb)) 1] g13 3 _ wx (hm.blkI 0 rfl) (by simp); rw [show firstE [firstE [stockE cs sl, checkE cs l], whenE NB 8, whenE (decide (5761439 < wb)) 1] = E2 from by rw [htwo, hwv, hSE, hKE]] at h; exact h)) ?_
            refine wl_nil ?_
            refine nx_wa0 (listed' := #[true, true, true, true, true, true, true, true, true, true, true, true, true, true, true, true, true, true, true, true, true, false]) rfl (fun _ hm => ⟨hm.blkI 1 rfl, hm.fact 0 rfl, hm.fact 1 rfl, hm.fact 2 rfl, hm.fact 3 rfl, hm.fact 4 rfl, trivial⟩) ?_
            refine wa_take 21 rfl (by kernel_rfl) (by kernel_rfl) (by kernel_rfl) (listed' := #[true, true, true, true, true, true, true, true, true, true, true, true, true, true, true, true, true, true, true, true, true, true]) rfl (fun _ _ _ h => h) (fun _ hm => ⟨hm.blkI 1 rfl, hm.fact 0 rfl, hm.fact 1 rfl, hm.fact 2 rfl, hm.fact 3 rfl, hm.fact 4 rfl, trivial⟩) (ov_assign rfl) rfl ?_
            refine wa_done (by kernel_rfl) ?_
            exact nx_meet () trivial ⟨rfl, rfl, rfl, rfl, rfl, rfl, rfl, rfl, rfl, rfl, rfl, trivial⟩ (fun _ hm => hm.pick [] [] [0, 1, 2, 3, 4] rfl rfl)
      · intro u_ hinv
        replace hinv : True := hinv
        refine gw_seq ?_
        refine gw_seq ?_
        refine gw_draw (fun wz => (BlkOld w2.heap.size none g5 35 [.int .i64 wa, .int .i64 wb]) wz ∧ (BlkOld w2.heap.size none g4 54 [.slice A0 4 c0, .slice A1 n1 c1, .slice A n c, .int .i64 (stockE cs sl), .int .i64 (checkE cs l)]) wz ∧ (SlOld csEnc 2 135 w2.heap.size none A0 4 cs) wz ∧ (SlOld skEnc 2 139 w2.heap.size none A1 n1 sl) wz ∧ (SlOld bkEnc 6 142 w2.heap.size none A n l) wz ∧ True) mixed ?_
        refine wa_take 0 rfl (by kernel_rfl) (by kernel_rfl) (by kernel_rfl) (listed' := #[true, false, false, false, false, false, false, false, false, false, false, false, false, false, false, false, false, false, false, false, false, false, false, false, false, false, false, false]) rfl (fun _ _ _ h => h) (fun _ hm => ⟨hm.fact 0 rfl, hm.fact 1 rfl, hm.fact 2 rfl, hm.fact 3 rfl, hm.fact 4 rfl, trivial⟩) (ov_field fo54_0 rfl rfl) rfl ?_
        refine wa_take 1 rfl (by kernel_rfl) (by kernel_rfl) (by kernel_rfl) (listed' := #[true, true, false, false, false, false, false, false, false, false, false, false, false, false, false, false, false, false, false, false, false, false, false, false, false, false, false, false]) rfl (fun _ _ _ h => h) (fun _ hm => ⟨hm.fact 0 rfl, hm.fact 1 rfl, hm.fact 2 rfl, hm.fact 3 rfl, hm.fact 4 rfl, trivial⟩) (ov_load (v := .slice A0 4 c0) sc50 rfl (fun _ hm => (hm.2.1).2) rfl) rfl ?_
        refine wa_take 2 rfl (by kernel_rfl) (by kernel_rfl) (by kernel_rfl) (listed' := #[true, true, true, false, false, false, false, false, false, false, false, false, false, false, false, false, false, false, false, false, false, false, false, false, false, false, false, false]) rfl (fun _ _ _ h => h) (fun _ hm => ⟨hm.fact 0 rfl, hm.fact 1 rfl, hm.fact 2 rfl, hm.fact 3 rfl, hm.fact 4 rfl, trivial⟩) (ov_field fo54_2 rfl rfl) rfl ?_
        refine wa_take 3 rfl (by kernel_rfl) (by kernel_rfl) (by kernel_rfl) (listed' := #[true, true, true, true, false, false, false, false, false, false, false, false, false, false, false, false, false, false, false, false, false, false, false, false, false, false, false, false]) rfl (fun _ _ _ h => h) (fun _ hm => ⟨hm.fact 0 rfl, hm.fact 1 rfl, hm.fact 2 rfl, hm.fact 3 rfl, hm.fact 4 rfl, trivial⟩) (ov_load (v := .slice A n c) sc52 rfl (fun _ hm => (hm.2.1).2) rfl) rfl ?_
        refine wa_take 5 rfl (by kernel_rfl) (by kernel_rfl) (by kernel_rfl) (listed' := #[true, true, true, true, false, true, false, false, false, false, false, false, false, false, false, false, false, false, false, false, false, false, false, false, false, false, false, false]) rfl (fun _ _ _ h => h) (fun _ hm => ⟨hm.fact 0 rfl, hm.fact 1 rfl, hm.fact 2 rfl, hm.fact 3 rfl, hm.fact 4 rfl, trivial⟩) (ov_field fo54_4 rfl rfl) rfl ?_
        refine wa_take 6 rfl (by kernel_rfl) (by kernel_rfl) (by kernel_rfl) (listed' := #[true, true, true, true, false, true, true, false, false, false, false, false, false, false, false, false, false, false, false, false, false, false, false, false, false, false, false, false]) rfl (fun _ _ _ h => h) (fun _ hm => ⟨hm.fact 0 rfl, hm.fact 1 rfl, hm.fact 2 rfl, hm.fact 3 rfl, hm.fact 4 rfl, trivial⟩) (ov_load (v := .int .i64 (checkE cs l)) sc41 rfl (fun _ hm => (hm.2.1).2) rfl) rfl ?_
        refine wa_all [4] (by kernel_rfl) rfl ⟨⟨_, rfl, ?_⟩, trivial⟩
        refine wl_callv (v := .int .i64 KE) rfl cb24 rfl rfl (fun wx hm => (by rw [hKE]; exact bcheck_any cs A0 4 c0 l A n c wx (hm.fact 2 rfl).1 hco (by omega) (hm.fact 4 rfl).1 hok (by omega))) ?_
        refine wl_nil ?_
        refine nx_wa0 (listed' := #[true, true, true, true, true, true, true, false, false, false, false, false, false, false, false, false, false, false, false, false, false, false, false, false, false, false, false, false]) rfl (fun _ hm => ⟨hm.fact 0 rfl, hm.fact 1 rfl, hm.fact 2 rfl, hm.fact 3 rfl, hm.fact 4 rfl, trivial⟩) ?_
        refine wa_take 7 rfl (by kernel_rfl) (by kernel_rfl) (by kernel_rfl) (listed' := #[true, true, true, true, true, true, true, true, false, false, false, false, false, false, false, false, false, false, false, false, false, false, false, false, false, false, false, false]) rfl (fun _ _ _ h => h) (fun _ hm => ⟨hm.fact 0 rfl, hm.fact 1 rfl, hm.fact 2 rfl, hm.fact 3 rfl, hm.fact 4 rfl, trivial⟩) (ov_neq rfl rfl) rfl ?_
        refine wa_set 90 (v' := .bool false) rfl (congrArg Value.bool (by simp [hKE])) ?_
        refine wa_take 8 rfl (by kernel_rfl) (by kernel_rfl) (by kernel_rfl) (listed' := #[true, true, true, true, true, true, true, true, true, false, false, false, false, false, false, false, false, false, false, false, false, false, false, false, false, false, false, false]) rfl (fun _ _ _ h => h) (fun _ hm => ⟨hm.fact 0 rfl, hm.fact 1 rfl, hm.fact 2 rfl, hm.fact 3 rfl, hm.fact 4 rfl, trivial⟩) (ov_move rfl) rfl ?_
        refine wa_take_on 9 rfl rfl rfl (by kernel_rfl) (by kernel_rfl) (by kernel_rfl) (listed' := #[true, true, true, true, true, true, true, true, true, true, false, false, false, false, false, false, false, false, false, false, false, false, false, false, false, false, false, false]) rfl (fun _ _ _ h => h) (fun _ hm => ⟨hm.fact 0 rfl, hm.fact 1 rfl, hm.fact 2 rfl, hm.fact 3 rfl, hm.fact 4 rfl, trivial⟩) (ov_field fo54_0 rfl rfl) rfl ?_
        refine wa_take_on 10 rfl rfl rfl (by kernel_rfl) (by kernel_rfl) (by kernel_rfl) (listed' := #[true, true, true, true, true, true, true, true, true, true, true, false, false, false, false, false, false, false, false, false, false, false, false, false, false, false, false, false]) rfl (fun _ _ _ h => h) (fun _ hm => ⟨hm.fact 0 rfl, hm.fact 1 rfl, hm.fact 2 rfl, hm.fact 3 rfl, hm.fact 4 rfl, trivial⟩) (ov_load (v := .slice A0 4 c0) sc50 rfl (fun _ hm => (hm.2.1).2) rfl) rfl ?_
        refine wa_take_on 11 rfl rfl rfl (by kernel_rfl) (by kernel_rfl) (by kernel_rfl) (listed' := #[true, true, true, true, true, true, true, true, true, true, true, true, false, false, false, false, false, false, false, false, false, false, false, false, false, false, false, false]) rfl (fun _ _ _ h => h) (fun _ hm => ⟨hm.fact 0 rfl, hm.fact 1 rfl, hm.fact 2 rfl, hm.fact 3 rfl, hm.fact 4 rfl, trivial⟩) (ov_field fo54_1 rfl rfl) rfl ?_
        refine wa_take_on 12 rfl rfl rfl (by kernel_rfl) (by kernel_rfl) (by kernel_rfl) (listed' := #[true, true, true, true, true, true, true, true, true, true, true, true, true, false, false, false, false, false, false, false, false, false, false, false, false, false, false, false]) rfl (fun _ _ _ h => h) (fun _ hm => ⟨hm.fact 0 rfl, hm.fact 1 rfl, hm.fact 2 rfl, hm.fact 3 rfl, hm.fact 4 rfl, trivial⟩) (ov_load (v := .slice A1 n1 c1) sc51 rfl (fun _ hm => (hm.2.1).2) rfl) rfl ?_
        refine wa_take_on 14 rfl rfl rfl (by kernel_rfl) (by kernel_rfl) (by kernel_rfl) (listed' := #[true, true, true, true, true, true, true, true, true, true, true, true, true, false, true, false, false, false, false, false, false, false, false, false, false, false, false, false]) rfl (fun _ _ _ h => h) (fun _ hm => ⟨hm.fact 0 rfl, hm.fact 1 rfl, hm.fact 2 rfl, hm.fact 3 rfl, hm.fact 4 rfl, trivial⟩) (ov_field fo54_3 rfl rfl) rfl ?_
        refine wa_take_on 15 rfl rfl rfl (by kernel_rfl) (by kernel_rfl) (by kernel_rfl) (listed' := #[true, true, true, true, true, true, true, true, true, true, true, true, true, false, true, true, false, false, false, false, false, false, false, false, false, false, false, false]) rfl (fun _ _ _ h => h) (fun _ hm => ⟨hm.fact 0 rfl, hm.fact 1 rfl, hm.fact 2 rfl, hm.fact 3 rfl, hm.fact 4 rfl, trivial⟩) (ov_load (v := .int .i64 (stockE cs sl)) sc41 rfl (fun _ hm => (hm.2.1).2) rfl) rfl ?_
        refine wa_all [13] (by kernel_rfl) rfl ⟨⟨_, rfl, ?_⟩, trivial⟩
        refine wl_guard_on rfl rfl rfl ?_
        refine wl_callv (v := .int .i64 SE) rfl cb25 rfl rfl (fun wx hm => (by rw [hSE]; exact checkStock_any cs A0 4 c0 sl A1 n1 c1 wx (hm.fact 2 rfl).1 hco (by omega) (hm.fact 3 rfl).1 hso (by omega))) ?_
        refine wl_nil ?_
        refine nx_wa0 (listed' := #[true, true, true, true, true, true, true, true, true, true, true, true, true, true, true, true, false, false, false, false, false, false, false, false, false, false, false, false]) rfl (fun _ hm => ⟨hm.fact 0 rfl, hm.fact 1 rfl, hm.fact 2 rfl, hm.fact 3 rfl, hm.fact 4 rfl, trivial⟩) ?_
        refine wa_take_on 16 rfl rfl rfl (by kernel_rfl) (by kernel_rfl) (by kernel_rfl) (listed' := #[true, true, true, true, true, true, true, true, true, true, true, true, true, true, true, true, true, false, false, false, false, false, false, false, false, false, false, false]) rfl (fun _ _ _ h => h) (fun _ hm => ⟨hm.fact 0 rfl, hm.fact 1 rfl, hm.fact 2 rfl, hm.fact 3 rfl, hm.fact 4 rfl, trivial⟩) (ov_neq rfl rfl) rfl ?_
        refine wa_set 99 (v' := .bool false) rfl (congrArg Value.bool (by simp [hSE])) ?_
        refine wa_take 17 rfl (by kernel_rfl) (by kernel_rfl) (by kernel_rfl) (listed' := #[true, true, true, true, true, true, true, true, true, true, true, true, true, true, true, true, true, true, false, false, false, false, false, false, false, false, false, false]) rfl (fun _ _ _ h => h) (fun _ hm => ⟨hm.fact 0 rfl, hm.fact 1 rfl, hm.fact 2 rfl, hm.fact 3 rfl, hm.fact 4 rfl, trivial⟩) (ov_pick_f rfl rfl) rfl ?_
        refine wa_take 18 rfl (by kernel_rfl) (by kernel_rfl) (by kernel_rfl) (listed' := #[true, true, true, true, true, true, true, true, true, true, true, true, true, true, true, true, true, true, true, false, false, false, false, false, false, false, false, false]) rfl (fun _ _ _ h => h) (fun _ hm => ⟨hm.fact 0 rfl, hm.fact 1 rfl, hm.fact 2 rfl, hm.fact 3 rfl, hm.fact 4 rfl, trivial⟩) (ov_move rfl) rfl ?_
        refine wa_take_on 19 rfl rfl rfl (by kernel_rfl) (by kernel_rfl) (by kernel_rfl) (listed' := #[true, true, true, true, true, true, true, true, true, true, true, true, true, true, true, true, true, true, true, true, false, false, false, false, false, false, false, false]) rfl (fun _ _ _ h => h) (fun _ hm => ⟨hm.fact 0 rfl, hm.fact 1 rfl, hm.fact 2 rfl, hm.fact 3 rfl, hm.fact 4 rfl, trivial⟩) (ov_move rfl) rfl ?_
        refine wa_take_on 20 rfl rfl rfl (by kernel_rfl) (by kernel_rfl) (by kernel_rfl) (listed' := #[true, true, true, true, true, true, true, true, true, true, true, true, true, true, true, true, true, true, true, true, true, false, false, false, false, false, false, false]) rfl (fun _ _ _ h => h) (fun _ hm => ⟨hm.fact 0 rfl, hm.fact 1 rfl, hm.fact 2 rfl, hm.fact 3 rfl, hm.fact 4 rfl, trivial⟩) (ov_move rfl) rfl ?_
        refine wa_take_on 21 rfl rfl rfl (by kernel_rfl) (by kernel_rfl) (by kernel_rfl) (listed' := #[true, true, true, true, true, true, true, true, true, true, true, true, true, true, true, true, true, true, true, true, true, true, false, false, false, false, false, false]) rfl (fun _ _ _ h => h) (fun _ hm => ⟨hm.fact 0 rfl, hm.fact 1 rfl, hm.fact 2 rfl, hm.fact 3 rfl, hm.fact 4 rfl, trivial⟩) (ov_neq rfl rfl) rfl ?_
        refine wa_set 104 (v' := .bool false) rfl (congrArg Value.bool (by simp)) ?_
        refine wa_take 22 rfl (by kernel_rfl) (by kernel_rfl) (by kernel_rfl) (listed' := #[true, true, true, true, true, true, true, true, true, true, true, true, true, true, true, true, true, true, true, true, true, true, true, false, false, false, false, false]) rfl (fun _ _ _ h => h) (fun _ hm => ⟨hm.fact 0 rfl, hm.fact 1 rfl, hm.fact 2 rfl, hm.fact 3 rfl, hm.fact 4 rfl, trivial⟩) (ov_pick_f rfl rfl) rfl ?_
        refine wa_take 23 rfl (by kernel_rfl) (by kernel_rfl) (by kernel_rfl) (listed' := #[true, true, true, true, true, true, true, true, true, true, true, true, true, true, true, true, true, true, true, true, true, true, true, true, false, false, false, false]) rfl (fun _ _ _ h => h) (fun _ hm => ⟨hm.fact 0 rfl, hm.fact 1 rfl, hm.fact 2 rfl, hm.fact 3 rfl, hm.fact 4 rfl, trivial⟩) (ov_move rfl) rfl ?_
        refine wa_take_on 24 rfl rfl rfl (by kernel_rfl) (by kernel_rfl) (by kernel_rfl) (listed' := #[true, true, true, true, true, true, true, true, true, true, true, true, true, true, true, true, true, true, true, true, true, true, true, true, true, false, false, false]) rfl (fun _ _ _ h => h) (fun _ hm => ⟨hm.fact 0 rfl, hm.fact 1 rfl, hm.fact 2 rfl, hm.fact 3 rfl, hm.fact 4 rfl, trivial⟩) (ov_move rfl) rfl ?_
        refine wa_take_on 25 rfl rfl rfl (by kernel_rfl) (by kernel_rfl) (by kernel_rfl) (listed' := #[true, true, true, true, true, true, true, true, true, true, true, true, true, true, true, true, true, true, true, true, true, true, true, true, true, true, false, false]) rfl (fun _ _ _ h => h) (fun _ hm => ⟨hm.fact 0 rfl, hm.fact 1 rfl, hm.fact 2 rfl, hm.fact 3 rfl, hm.fact 4 rfl, trivial⟩) (ov_move rfl) rfl ?_
        refine wa_take_on 26 rfl rfl rfl (by kernel_rfl) (by kernel_rfl) (by kernel_rfl) (listed' := #[true, true, true, true, true, true, true, true, true, true, true, true, true, true, true, true, true, true, true, true, true, true, true, true, true, true, true, false]) rfl (fun _ _ _ h => h) (fun _ hm => ⟨hm.fact 0 rfl, hm.fact 1 rfl, hm.fact 2 rfl, hm.fact 3 rfl, hm.fact 4 rfl, trivial⟩) (ov_neq rfl rfl) rfl ?_
        refine wa_set 109 (v' := .bool false) rfl (congrArg Value.bool (by simp)) ?_
        refine wa_take 27 rfl (by kernel_rfl) (by kernel_rfl) (by kernel_rfl) (listed' := #[true, true, true, true, true, true, true, true, true, true, true, true, true, true, true, true, true, true, true, true, true, true, true, true, true, true, true, true]) rfl (fun _ _ _ h => h) (fun _ hm => ⟨hm.fact 0 rfl, hm.fact 1 rfl, hm.fact 2 rfl, hm.fact 3 rfl, hm.fact 4 rfl, trivial⟩) (ov_pick_f rfl rfl) rfl ?_
        refine wa_done (by kernel_rfl) ?_
        refine nx_then ?_
        refine gw_cond rfl (fun hh => by cases hh) (fun _ => ?_)
        refine gw_skip ?_
        refine nx_then ?_
        refine gw_seq ?_
        refine gw_region ?_
        refine wl_ov (ov_assign rfl) rfl ?_
        refine wl_ov (ov_assign rfl) rfl ?_
        refine wl_ov (ov_assign rfl) rfl ?_
        refine wl_nil ?_
        refine nx_then ?_
        refine gw_seq ?_
        refine gw_seq ?_
        refine gw_region ?_
        refine wl_ov (ov_move rfl) rfl ?_
        refine wl_ov (ov_eql rfl rfl) rfl ?_
        refine wl_set 112 (v' := .bool true) rfl (congrArg Value.bool (decide_eq_true h1)) ?_
        refine wl_nil ?_
        refine nx_then ?_
        refine gw_cond rfl (fun _ => ?_) (fun hh => by cases hh)
        refine gw_region ?_
        refine wl_ov (ov_field fo54_2 rfl rfl) rfl ?_
        refine wl_ov (ov_load (v := .slice A n c) sc52 rfl (fun _ hm => (hm.fact 1 rfl).2) rfl) rfl ?_
        refine wl_ov (ov_move rfl) rfl ?_
        refine wl_callv (v := .tuple #[.int .i64 P1, .int .i64 P2]) rfl cb26 rfl rfl (fun wx hm => (by have h := busyOf_any l A n c q2 wx (hm.fact 4 rfl).1 hok (by omega) (busyE_ok (hE1.symm.trans h1)); rw [← busy_ref (hE1.symm.trans h1), ← hP1, ← hP2] at h; exact h)) ?_
        refine wl_ov (ov_move rfl) rfl ?_
        refine wl_ov (ov_extract rfl rfl) rfl ?_
        refine wl_ov (ov_extract rfl rfl) rfl ?_
        refine wl_ov (ov_assign rfl) rfl ?_
        refine wl_ov (ov_assign rfl) rfl ?_
        refine wl_nil ?_
        refine nx_then ?_
        refine gw_seq ?_
        refine gw_seq ?_
        refine gw_region ?_
        refine wl_ov (ov_move rfl) rfl ?_
        refine wl_ov (ov_eql rfl rfl) rfl ?_
        refine wl_set 121 (v' := .bool false) rfl (congrArg Value.bool (decide_eq_false h2)) ?_
        refine wl_nil ?_
        refine nx_then ?_
        refine gw_cond rfl (fun hh => by cases hh) (fun _ => ?_)
        refine gw_skip ?_
        refine nx_then ?_
        refine gw_seq ?_
        refine gw_region ?_
        refine wl_ov (ov_move rfl) rfl ?_
        refine wl_ov (ov_move rfl) rfl ?_
        refine wl_ov (ov_eql rfl rfl) rfl ?_
        refine wl_set 131 (v' := .bool true) rfl (congrArg Value.bool (by simp)) ?_
        refine wl_ov (ov_move rfl) rfl ?_
        refine wl_guard_on rfl rfl rfl ?_
        refine wl_ov (ov_move rfl) rfl ?_
        refine wl_guard_on rfl rfl rfl ?_
        refine wl_ov (ov_move rfl) rfl ?_
        refine wl_guard_on rfl rfl rfl ?_
        refine wl_ov (ov_eql rfl rfl) rfl ?_
        refine wl_set 135 (v' := .bool true) rfl (congrArg Value.bool (by simp)) ?_
        refine wl_ov (ov_pick_t rfl rfl) rfl ?_
        refine wl_ov (ov_move rfl) rfl ?_
        refine wl_guard_on rfl rfl rfl ?_
        refine wl_ov (ov_move rfl) rfl ?_
        refine wl_guard_on rfl rfl rfl ?_
        refine wl_ov (ov_move rfl) rfl ?_
        refine wl_guard_on rfl rfl rfl ?_
        refine wl_ov (ov_eql rfl rfl) rfl ?_
        refine wl_set 140 (v' := .bool true) rfl (congrArg Value.bool (by simp)) ?_
        refine wl_ov (ov_pick_t rfl rfl) rfl ?_
        refine wl_ov (ov_move rfl) rfl ?_
        refine wl_guard_on rfl rfl rfl ?_
        refine wl_callv rfl cb28 rfl rfl (fun wx hm => (booked_any wx)) ?_
        refine wl_ov (ov_pick_t rfl rfl) rfl ?_
        refine wl_ov (ov_assign rfl) rfl ?_
        refine wl_nil ?_
        refine nx_then ?_
        refine gw_ret ?_
        refine nx_ret1 rfl rfl fun wx hm => ?_
        exact ⟨rfl, law_end hg1 hsb (grow_trans hm_w2.g (grow_weak hm.g))⟩
  · have hz1 : (busyP cs l q2).1 = 0 ∧ (busyP cs l q2).2 = 0 := by unfold busyP; rw [← hE1, if_neg h1]; exact ⟨rfl, rfl⟩
    by_cases h2 : E2 = 0
    · refine wl_callv (v := .tuple #[.int .i64 0, .int .i64 0, .int .i64 E1]) rfl cb18 rfl rfl (fun wx hm => (by have h := busy_any cs A0 4 c0 l A n c q2 wx (hm.fact 2 rfl).1 hco (by omega) (hm.fact 4 rfl).1 hok (by omega); rw [hz1.1, hz1.2, ← hE1] at h; exact h)) ?_
      refine wl_ov (ov_move rfl) rfl ?_
      refine wl_ov (ov_extract rfl rfl) rfl ?_
      refine wl_ov (ov_extract rfl rfl) rfl ?_
      refine wl_ov (ov_extract rfl rfl) rfl ?_
      refine wl_ov (ov_assign rfl) rfl ?_
      refine wl_ov (ov_assign rfl) rfl ?_
      refine wl_ov (ov_assign rfl) rfl ?_
      refine wl_nil ?_
      refine nx_then ?_
      refine gw_seq ?_
      refine gw_region ?_
      refine wl_ov (ov_field fo54_0 rfl rfl) rfl ?_
      refine wl_ov (ov_load (v := .slice A0 4 c0) sc50 rfl (fun _ hm => (hm.fact 1 rfl).2) rfl) rfl ?_
      refine wl_ov (ov_field fo54_1 rfl rfl) rfl ?_
      refine wl_ov (ov_load (v := .slice A1 n1 c1) sc51 rfl (fun _ hm => (hm.fact 1 rfl).2) rfl) rfl ?_
      refine wl_ov (ov_field fo54_2 rfl rfl) rfl ?_
      refine wl_ov (ov_load (v := .slice A n c) sc52 rfl (fun _ hm => (hm.fact 1 rfl).2) rfl) rfl ?_
      refine wl_ov (ov_move rfl) rfl ?_
      refine wl_ov (ov_loads (vs := [.int .i64 wa, .int .i64 wb]) rz35 rfl (fun _ hm => (hm.fact 0 rfl).2) rfl rfl) rfl ?_
      refine wl_callv (v := .tuple #[.int .i64 FP, .int .i64 E2]) rfl cb19 rfl rfl (fun wx hm => (by have h := free_any cs A0 4 c0 sl A1 n1 c1 l A n c q2 wa wb wx (hm.fact 2 rfl).1 hco (by omega) (hm.fact 3 rfl).1 hso (by omega) (hm.fact 4 rfl).1 hok (by omega); rw [← hFP, ← hE2] at h; exact h)) ?_
      refine wl_ov (ov_move rfl) rfl ?_
      refine wl_ov (ov_extract rfl rfl) rfl ?_
      refine wl_ov (ov_extract rfl rfl) rfl ?_
      refine wl_ov (ov_assign rfl) rfl ?_
      refine wl_ov (ov_assign rfl) rfl ?_
      refine wl_nil ?_
      refine nx_then ?_
      refine gw_seq ?_
      refine gw_region ?_
      refine wl_ov (ov_field fo54_0 rfl rfl) rfl ?_
      refine wl_ov (ov_load (v := .slice A0 4 c0) sc50 rfl (fun _ hm => (hm.fact 1 rfl).2) rfl) rfl ?_
      refine wl_ov (ov_move rfl) rfl ?_
      refine wl_callv (v := .int .i64 IA) rfl cb21 rfl rfl (fun wx hm => (by rw [hIA]; exact rClassAt_any cs A0 4 c0 q2 wx (hm.fact 2 rfl).1 (by omega))) ?_
      refine wl_ov (ov_lss rfl rfl) rfl ?_
      refine wl_set 55 (v' := .bool NB) rfl (congrArg Value.bool hNI) ?_
      refine wl_callw rfl cb20 rfl rfl (fun wx hm => (rwhen_any _ _ wx)) ?_
      refine wl_ov (ov_assign rfl) rfl ?_
      refine wl_nil ?_
      refine nx_then ?_
      refine gw_seq ?_
      refine gw_region ?_
      refine wl_ov (ov_field fo54_4 rfl rfl) rfl ?_
      refine wl_ov (ov_load (v := .int .i64 (checkE cs l)) sc41 rfl (fun _ hm => (hm.fact 1 rfl).2) rfl) rfl ?_
      refine wl_ov (ov_move rfl) rfl ?_
      refine wl_buildSlice (e := 41) (cs := [.int .i64 (checkE cs l), .int .i64 (whenE NB 8)]) rfl (by kernel_rfl) rfl fun g14 => ?_
      refine wl_callw (v := .int .i64 E1) rfl cb22 rfl rfl (fun wx hm => (by have h := errs_any [checkE cs l, whenE NB 8] g14 2 _ wx (hm.blkI 0 rfl) (by simp); rw [show firstE [checkE cs l, whenE NB 8] = E1 from by rw [hone, hKE]] at h; exact h)) ?_
      refine wl_ov (ov_assign rfl) rfl ?_
      refine wl_nil ?_
      refine nx_then ?_
      refine gw_cut (γ := Unit) (I := (fun (u_ : Unit) => True)) (S' := (fun (u_ : Unit) => [(2, .bool false), (4, .pointer (some ⟨g4, 0, none⟩)), (5, .string q2), (6, .pointer (some ⟨g5, 0, none⟩)), (7, .int .i64 0), (8, .int .i64 0), (9, .int .i64 E1), (10, .int .i64 FP), (11, .int .i64 E2), (13, .int .i64 E1), (14, .int .i64 E2)])) (K' := (fun (u_ : Unit) => fun _ => True)) (L' := (fun (u_ : Unit) => [])) (O' := (fun (u_ : Unit) => [])) (X' := (fun (u_ : Unit) => [BlkOld w2.heap.size none g5 35 [.int .i64 wa, .int .i64 wb], BlkOld w2.heap.size none g4 54 [.slice A0 4 c0, .slice A1 n1 c1, .slice A n c, .int .i64 (stockE cs sl), .int .i64 (checkE cs l)], SlOld csEnc 2 135 w2.heap.size none A0 4 cs, SlOld skEnc 2 139 w2.heap.size none A1 n1 sl, SlOld bkEnc 6 142 w2.heap.size none A n l])) ?_ ?_
      · refine gw_draw (fun wz => Blk wz g14 41 [.int .i64 (checkE cs l), .int .i64 (whenE NB 8)] ∧ (BlkOld w2.heap.size none g5 35 [.int .i64 wa, .int .i64 wb]) wz ∧ (BlkOld w2.heap.size none g4 54 [.slice A0 4 c0, .slice A1 n1 c1, .slice A n c, .int .i64 (stockE cs sl), .int .i64 (checkE cs l)]) wz ∧ (SlOld csEnc 2 135 w2.heap.size none A0 4 cs) wz ∧ (SlOld skEnc 2 139 w2.heap.size none A1 n1 sl) wz ∧ (SlOld bkEnc 6 142 w2.heap.size none A n l) wz ∧ True) mixed ?_
        refine wa_take 0 rfl (by kernel_rfl) (by kernel_rfl) (by kernel_rfl) (listed' := #[true, false, false, false, false, false, false, false, false, false, false, false, false, false, false, false, false, false, false, false, false, false]) rfl (fun _ _ _ h => h) (fun _ hm => ⟨hm.blkI 0 rfl, hm.fact 0 rfl, hm.fact 1 rfl, hm.fact 2 rfl, hm.fact 3 rfl, hm.fact 4 rfl, trivial⟩) (ov_loads (vs := [.slice A0 4 c0, .slice A1 n1 c1, .slice A n c, .int .i64 (stockE cs sl), .int .i64 (checkE cs l)]) rz54 rfl (fun _ hm => (hm.2.2.1).2) rfl rfl) rfl ?_
        refine wa_take 2 rfl (by kernel_rfl) (by kernel_rfl) (by kernel_rfl) (listed' := #[true, false, true, false, false, false, false, false, false, false, false, false, false, false, false, false, false, false, false, false, false, false]) rfl (fun _ _ _ h => h) (fun _ hm => ⟨hm.blkI 0 rfl, hm.fact 0 rfl, hm.fact 1 rfl, hm.fact 2 rfl, hm.fact 3 rfl, hm.fact 4 rfl, trivial⟩) (ov_move rfl) rfl ?_
        refine wa_take 3 rfl (by kernel_rfl) (by kernel_rfl) (by kernel_rfl) (listed' := #[true, false, true, true, false, false, false, false, false, false, false, false, false, false, false, false, false, false, false, false, false, false]) rfl (fun _ _ _ h => h) (fun _ hm => ⟨hm.blkI 0 rfl, hm.fact 0 rfl, hm.fact 1 rfl, hm.fact 2 rfl, hm.fact 3 rfl, hm.fact 4 rfl, trivial⟩) (ov_field fo35_0 rfl rfl) rfl ?_
        refine wa_take 4 rfl (by kernel_rfl) (by kernel_rfl) (by kernel_rfl) (listed' := #[true, false, true, true, true, false, false, false, false, false, false, false, false, false, false, false, false, false, false, false, false, false]) rfl (fun _ _ _ h => h) (fun _ hm => ⟨hm.blkI 0 rfl, hm.fact 0 rfl, hm.fact 1 rfl, hm.fact 2 rfl, hm.fact 3 rfl, hm.fact 4 rfl, trivial⟩) (ov_load (v := .int .i64 wa) sc3 rfl (fun _ hm => (hm.2.1).2) rfl) rfl ?_
        refine wa_take 5 rfl (by kernel_rfl) (by kernel_rfl) (by kernel_rfl) (listed' := #[true, false, true, true, true, true, false, false, false, false, false, false, false, false, false, false, false, false, false, false, false, false]) rfl (fun _ _ _ h => h) (fun _ hm => ⟨hm.blkI 0 rfl, hm.fact 0 rfl, hm.fact 1 rfl, hm.fact 2 rfl, hm.fact 3 rfl, hm.fact 4 rfl, trivial⟩) (ov_lss rfl rfl) rfl ?_
        refine wa_all [1] (by kernel_rfl) rfl ⟨⟨_, rfl, ?_⟩, trivial⟩
        refine wl_callv rfl cb23 rfl rfl (fun wx hm => (call_any _ _ _ _ _ _ _ _ _ _ _ wx)) ?_
        refine wl_nil ?_
        refine nx_wa0 (listed' := #[true, true, true, true, true, true, false, false, false, false, false, false, false, false, false, false, false, false, false, false, false, false]) rfl (fun _ hm => ⟨hm.blkI 0 rfl, hm.fact 0 rfl, hm.fact 1 rfl, hm.fact 2 rfl, hm.fact 3 rfl, hm.fact 4 rfl, trivial⟩) ?_
        refine wa_take 6 rfl (by kernel_rfl) (by kernel_rfl) (by kernel_rfl) (listed' := #[true, true, true, true, true, true, true, false, false, false, false, false, false, false, false, false, false, false, false, false, false, false]) rfl (fun _ _ _ h => h) (fun _ hm => ⟨hm.blkI 0 rfl, hm.fact 0 rfl, hm.fact 1 rfl, hm.fact 2 rfl, hm.fact 3 rfl, hm.fact 4 rfl, trivial⟩) (ov_move rfl) rfl ?_
        rcases Bool.eq_false_or_eq_true (decide (wa < 0)) with hgd0 | hgd0
        · refine wa_set 68 rfl (congrArg Value.bool hgd0) ?_
          replace hgd0 := of_decide_eq_true hgd0
          have hwv : WB = true := by rw [hWB]; unfold winB; rw [decide_eq_true hgd0]; rfl
          refine wa_take_off 7 rfl rfl rfl (by decide) (by kernel_rfl) (by kernel_rfl) (by kernel_rfl) (listed' := #[true, true, true, true, true, true, true, true, false, false, false, false, false, false, false, false, false, false, false, false, false, false]) rfl (fun _ _ _ h => h) (fun _ hm => ⟨hm.blkI 0 rfl, hm.fact 0 rfl, hm.fact 1 rfl, hm.fact 2 rfl, hm.fact 3 rfl, hm.fact 4 rfl, trivial⟩) rfl ?_
          refine wa_take_off 8 rfl rfl rfl (by decide) (by kernel_rfl) (by kernel_rfl) (by kernel_rfl) (listed' := #[true, true, true, true, true, true, true, true, true, false, false, false, false, false, false, false, false, false, false, false, false, false]) rfl (fun _ _ _ h => h) (fun _ hm => ⟨hm.blkI 0 rfl, hm.fact 0 rfl, hm.fact 1 rfl, hm.fact 2 rfl, hm.fact 3 rfl, hm.fact 4 rfl, trivial⟩) rfl ?_
          refine wa_take_off 9 rfl rfl rfl (by decide) (by kernel_rfl) (by kernel_rfl) (by kernel_rfl) (listed' := #[true, true, true, true, true, true, true, true, true, true, false, false, false, false, false, false, false, false, false, false, false, false]) rfl (fun _ _ _ h => h) (fun _ hm => ⟨hm.blkI 0 rfl, hm.fact 0 rfl, hm.fact 1 rfl, hm.fact 2 rfl, hm.fact 3 rfl, hm.fact 4 rfl, trivial⟩) rfl ?_
          refine wa_take_off 10 rfl rfl rfl (by decide) (by kernel_rfl) (by kernel_rfl) (by kernel_rfl) (listed' := #[true, true, true, true, true, true, true, true, true, true, true, false, false, false, false, false, false, false, false, false, false, false]) rfl (fun _ _ _ h => h) (fun _ hm => ⟨hm.blkI 0 rfl, hm.fact 0 rfl, hm.fact 1 rfl, hm.fact 2 rfl, hm.fact 3 rfl, hm.fact 4 rfl, trivial⟩) rfl ?_
          refine wa_take_off 11 rfl rfl rfl (by decide) (by kernel_rfl) (by kernel_rfl) (by kernel_rfl) (listed' := #[true, true, true, true, true, true, true, true, true, true, true, true, false, false, false, false, false, false, false, false, false, false]) rfl (fun _ _ _ h => h) (fun _ hm => ⟨hm.blkI 0 rfl, hm.fact 0 rfl, hm.fact 1 rfl, hm.fact 2 rfl, hm.fact 3 rfl, hm.fact 4 rfl, trivial⟩) rfl ?_
          refine wa_take 12 rfl (by kernel_rfl) (by kernel_rfl) (by kernel_rfl) (listed' := #[true, true, true, true, true, true, true, true, true, true, true, true, true, false, false, false, false, false, false, false, false, false]) rfl (fun _ _ _ h => h) (fun _ hm => ⟨hm.blkI 0 rfl, hm.fact 0 rfl, hm.fact 1 rfl, hm.fact 2 rfl, hm.fact 3 rfl, hm.fact 4 rfl, trivial⟩) (ov_pick_t rfl rfl) rfl ?_
          refine wa_take 13 rfl (by kernel_rfl) (by kernel_rfl) (by kernel_rfl) (listed' := #[true, true, true, true, true, true, true, true, true, true, true, true, true, true, false, false, false, false, false, false, false, false]) rfl (fun _ _ _ h => h) (fun _ hm => ⟨hm.blkI 0 rfl, hm.fact 0 rfl, hm.fact 1 rfl, hm.fact 2 rfl, hm.fact 3 rfl, hm.fact 4 rfl, trivial⟩) (ov_move rfl) rfl ?_
          refine wa_take_off 14 rfl rfl rfl (by decide) (by kernel_rfl) (by kernel_rfl) (by kernel_rfl) (listed' := #[true, true, true, true, true, true, true, true, true, true, true, true, true, true, true, false, false, false, false, false, false, false]) rfl (fun _ _ _ h => h) (fun _ hm => ⟨hm.blkI 0 rfl, hm.fact 0 rfl, hm.fact 1 rfl, hm.fact 2 rfl, hm.fact 3 rfl, hm.fact 4 rfl, trivial⟩) rfl ?_
          refine wa_take_off 15 rfl rfl rfl (by decide) (by kernel_rfl) (by kernel_rfl) (by kernel_rfl) (listed' := #[true, true, true, true, true, true, true, true, true, true, true, true, true, true, true, true, false, false, false, false, false, false]) rfl (fun _ _ _ h => h) (fun _ hm => ⟨hm.blkI 0 rfl, hm.fact 0 rfl, hm.fact 1 rfl, hm.fact 2 rfl, hm.fact 3 rfl, hm.fact 4 rfl, trivial⟩) rfl ?_
          refine wa_take_off 16 rfl rfl rfl (by decide) (by kernel_rfl) (by kernel_rfl) (by kernel_rfl) (listed' := #[true, true, true, true, true, true, true, true, true, true, true, true, true, true, true, true, true, false, false, false, false, false]) rfl (fun _ _ _ h => h) (fun _ hm => ⟨hm.blkI 0 rfl, hm.fact 0 rfl, hm.fact 1 rfl, hm.fact 2 rfl, hm.fact 3 rfl, hm.fact 4 rfl, trivial⟩) rfl ?_
          refine wa_take 17 rfl (by kernel_rfl) (by kernel_rfl) (by kernel_rfl) (listed' := #[true, true, true, true, true, true, true, true, true, true, true, true, true, true, true, true, true, true, false, false, false, false]) rfl (fun _ _ _ h => h) (fun _ hm => ⟨hm.blkI 0 rfl, hm.fact 0 rfl, hm.fact 1 rfl, hm.fact 2 rfl, hm.fact 3 rfl, hm.fact 4 rfl, trivial⟩) (ov_pick_t rfl rfl) rfl ?_
          refine wa_all [18] (by kernel_rfl) rfl ⟨⟨_, rfl, ?_⟩, trivial⟩
          refine wl_callw rfl cb20 rfl rfl (fun wx hm => (rwhen_any _ _ wx)) ?_
          refine wl_nil ?_
          refine nx_wa0 (listed' := #[true, true, true, true, true, true, true, true, true, true, true, true, true, true, true, true, true, true, true, false, false, false]) rfl (fun _ hm => ⟨hm.blkI 0 rfl, hm.fact 0 rfl, hm.fact 1 rfl, hm.fact 2 rfl, hm.fact 3 rfl, hm.fact 4 rfl, trivial⟩) ?_
          refine wa_all [19] (by kernel_rfl) rfl ⟨⟨_, rfl, ?_⟩, trivial⟩
          refine wl_buildSlice (e := 41) (cs := [.int .i64 (firstE [stockE cs sl, checkE cs l]), .int .i64 (whenE NB 8), .int .i64 (whenE true 1)]) rfl (by kernel_rfl) rfl fun g15 => ?_
          refine wl_nil ?_
          refine nx_wa0 (listed' := #[true, true, true, true, true, true, true, true, true, true, true, true, true, true, true, true, true, true, true, true, false, false]) rfl (fun _ hm => ⟨hm.blkI 1 rfl, hm.fact 0 rfl, hm.fact 1 rfl, hm.fact 2 rfl, hm.fact 3 rfl, hm.fact 4 rfl, trivial⟩) ?_
          refine wa_all [20] (by kernel_rfl) rfl ⟨⟨_, rfl, ?_⟩, trivial⟩
          refine wl_callw (v := .int .i64 E2) rfl cb22 rfl rfl (fun wx hm => (by have h := errs_any [firstE [stockE cs sl, checkE cs l], whenE NB 8, whenE true 1] g15 3 _ wx (hm.blkI 0 rfl) (by simp); rw [show firstE [firstE [stockE cs sl, checkE cs l], whenE NB 8, whenE true 1] = E2 from by rw [htwo, hwv, hSE, hKE]] at h; exact h)) ?_
          refine wl_nil ?_
          refine nx_wa0 (listed' := #[true, true, true, true, true, true, true, true, true, true, true, true, true, true, true, true, true, true, true, true, true, false]) rfl (fun _ hm => ⟨hm.blkI 1 rfl, hm.fact 0 rfl, hm.fact 1 rfl, hm.fact 2 rfl, hm.fact 3 rfl, hm.fact 4 rfl, trivial⟩) ?_
          refine wa_take 21 rfl (by kernel_rfl) (by kernel_rfl) (by kernel_rfl) (listed' := #[true, true, true, true, true, true, true, true, true, true, true, true, true, true, true, true, true, true, true, true, true, true]) rfl (fun _ _ _ h => h) (fun _ hm => ⟨hm.blkI 1 rfl, hm.fact 0 rfl, hm.fact 1 rfl, hm.fact 2 rfl, hm.fact 3 rfl, hm.fact 4 rfl, trivial⟩) (ov_assign rfl) rfl ?_
          refine wa_done (by kernel_rfl) ?_
          exact nx_meet () trivial ⟨rfl, rfl, rfl, rfl, rfl, rfl, rfl, rfl, rfl, rfl, rfl, trivial⟩ (fun _ hm => hm.pick [] [] [0, 1, 2, 3, 4] rfl rfl)
        · refine wa_set 68 rfl (congrArg Value.bool hgd0) ?_
          replace hgd0 := of_decide_eq_false hgd0
          refine wa_take_on 7 rfl rfl rfl (by kernel_rfl) (by kernel_rfl) (by kernel_rfl) (listed' := #[true, true, true, true, true, true, true, true, false, false, false, false, false, false, false, false, false, false, false, false, false, false]) rfl (fun _ _ _ h => h) (fun _ hm => ⟨hm.blkI 0 rfl, hm.fact 0 rfl, hm.fact 1 rfl, hm.fact 2 rfl, hm.fact 3 rfl, hm.fact 4 rfl, trivial⟩) (ov_field fo35_0 rfl rfl) rfl ?_
          refine wa_take_on 8 rfl rfl rfl (by kernel_rfl) (by kernel_rfl) (by kernel_rfl) (listed' := #[true, true, true, true, true, true, true, true, true, false, false, false, false, false, false, false, false, false, false, false, false, false]) rfl (fun _ _ _ h => h) (fun _ hm => ⟨hm.blkI 0 rfl, hm.fact 0 rfl, hm.fact 1 rfl, hm.fact 2 rfl, hm.fact 3 rfl, hm.fact 4 rfl, trivial⟩) (ov_load (v := .int .i64 wa) sc3 rfl (fun _ hm => (hm.2.1).2) rfl) rfl ?_
          refine wa_take_on 9 rfl rfl rfl (by kernel_rfl) (by kernel_rfl) (by kernel_rfl) (listed' := #[true, true, true, true, true, true, true, true, true, true, false, false, false, false, false, false, false, false, false, false, false, false]) rfl (fun _ _ _ h => h) (fun _ hm => ⟨hm.blkI 0 rfl, hm.fact 0 rfl, hm.fact 1 rfl, hm.fact 2 rfl, hm.fact 3 rfl, hm.fact 4 rfl, trivial⟩) (ov_field fo35_1 rfl rfl) rfl ?_
          refine wa_take_on 10 rfl rfl rfl (by kernel_rfl) (by kernel_rfl) (by kernel_rfl) (listed' := #[true, true, true, true, true, true, true, true, true, true, true, false, false, false, false, false, false, false, false, false, false, false]) rfl (fun _ _ _ h => h) (fun _ hm => ⟨hm.blkI 0 rfl, hm.fact 0 rfl, hm.fact 1 rfl, hm.fact 2 rfl, hm.fact 3 rfl, hm.fact 4 rfl, trivial⟩) (ov_load (v := .int .i64 wb) sc3 rfl (fun _ hm => (hm.2.1).2) rfl) rfl ?_
          refine wa_take_on 11 rfl rfl rfl (by kernel_rfl) (by kernel_rfl) (by kernel_rfl) (listed' := #[true, true, true, true, true, true, true, true, true, true, true, true, false, false, false, false, false, false, false, false, false, false]) rfl (fun _ _ _ h => h) (fun _ hm => ⟨hm.blkI 0 rfl, hm.fact 0 rfl, hm.fact 1 rfl, hm.fact 2 rfl, hm.fact 3 rfl, hm.fact 4 rfl, trivial⟩) (ov_geq rfl rfl) rfl ?_
          refine wa_take 12 rfl (by kernel_rfl) (by kernel_rfl) (by kernel_rfl) (listed' := #[true, true, true, true, true, true, true, true, true, true, true, true, true, false, false, false, false, false, false, false, false, false]) rfl (fun _ _ _ h => h) (fun _ hm => ⟨hm.blkI 0 rfl, hm.fact 0 rfl, hm.fact 1 rfl, hm.fact 2 rfl, hm.fact 3 rfl, hm.fact 4 rfl, trivial⟩) (ov_pick_f rfl rfl) rfl ?_
          refine wa_take 13 rfl (by kernel_rfl) (by kernel_rfl) (by kernel_rfl) (listed' := #[true, true, true, true, true, true, true, true, true, true, true, true, true, true, false, false, false, false, false, false, false, false]) rfl (fun _ _ _ h => h) (fun _ hm => ⟨hm.blkI 0 rfl, hm.fact 0 rfl, hm.fact 1 rfl, hm.fact 2 rfl, hm.fact 3 rfl, hm.fact 4 rfl, trivial⟩) (ov_move rfl) rfl ?_
          rcases Bool.eq_false_or_eq_true (decide (wb ≤ wa)) with hgd1 | hgd1
          · refine wa_set 75 rfl (congrArg Value.bool hgd1) ?_
            replace hgd1 := of_decide_eq_true hgd1
            have hwv : WB = true := by rw [hWB]; unfold winB; rw [decide_eq_true hgd1, decide_eq_false hgd0]; rfl
            refine wa_take_off 14 rfl rfl rfl (by decide) (by kernel_rfl) (by kernel_rfl) (by kernel_rfl) (listed' := #[true, true, true, true, true, true, true, true, true, true, true, true, true, true, true, false, false, false, false, false, false, false]) rfl (fun _ _ _ h => h) (fun _ hm => ⟨hm.blkI 0 rfl, hm.fact 0 rfl, hm.fact 1 rfl, hm.fact 2 rfl, hm.fact 3 rfl, hm.fact 4 rfl, trivial⟩) rfl ?_
            refine wa_take_off 15 rfl rfl rfl (by decide) (by kernel_rfl) (by kernel_rfl) (by kernel_rfl) (listed' := #[true, true, true, true, true, true, true, true, true, true, true, true, true, true, true, true, false, false, false, false, false, false]) rfl (fun _ _ _ h => h) (fun _ hm => ⟨hm.blkI 0 rfl, hm.fact 0 rfl, hm.fact 1 rfl, hm.fact 2 rfl, hm.fact 3 rfl, hm.fact 4 rfl, trivial⟩) rfl ?_
            refine wa_take_off 16 rfl rfl rfl (by decide) (by kernel_rfl) (by kernel_rfl) (by kernel_rfl) (listed' := #[true, true, true, true, true, true, true, true, true, true, true, true, true, true, true, true, true, false, false, false, false, false]) rfl (fun _ _ _ h => h) (fun _ hm => ⟨hm.blkI 0 rfl, hm.fact 0 rfl, hm.fact 1 rfl, hm.fact 2 rfl, hm.fact 3 rfl, hm.fact 4 rfl, trivial⟩) rfl ?_
            refine wa_take 17 rfl (by kernel_rfl) (by kernel_rfl) (by kernel_rfl) (listed' := #[true, true, true, true, true, true, true, true, true, true, true, true, true, true, true, true, true, true, false, false, false, false]) rfl (fun _ _ _ h => h) (fun _ hm => ⟨hm.blkI 0 rfl, hm.fact 0 rfl, hm.fact 1 rfl, hm.fact 2 rfl, hm.fact 3 rfl, hm.fact 4 rfl, trivial⟩) (ov_pick_t rfl rfl) rfl ?_
            refine wa_all [18] (by kernel_rfl) rfl ⟨⟨_, rfl, ?_⟩, trivial⟩
            refine wl_callw rfl cb20 rfl rfl (fun wx hm => (rwhen_any _ _ wx)) ?_
            refine wl_nil ?_
            refine nx_wa0 (listed' := #[true, true, true, true, true, true, true, true, true, true, true, true, true, true, true, true, true, true, true, false, false, false]) rfl (fun _ hm => ⟨hm.blkI 0 rfl, hm.fact 0 rfl, hm.fact 1 rfl, hm.fact 2 rfl, hm.fact 3 rfl, hm.fact 4 rfl, trivial⟩) ?_
            refine wa_all [19] (by kernel_rfl) rfl ⟨⟨_, rfl, ?_⟩, trivial⟩
            refine wl_buildSlice (e := 41) (cs := [.int .i64 (firstE [stockE cs sl, checkE cs l]), .int .i64 (whenE NB 8), .int .i64 (whenE true 1)]) rfl (by kernel_rfl) rfl fun g16 => ?_
            refine wl_nil ?_
            refine nx_wa0 (listed' := #[true, true, true, true, true, true, true, true, true, true, true, true, true, true, true, true, true, true, true, true, false, false]) rfl (fun _ hm => ⟨hm.blkI 1 rfl, hm.fact 0 rfl, hm.fact 1 rfl, hm.fact 2 rfl, hm.fact 3 rfl, hm.fact 4 rfl, trivial⟩) ?_
            refine wa_all [20] (by kernel_rfl) rfl ⟨⟨_, rfl, ?_⟩, trivial⟩
            refine wl_callw (v := .int .i64 E2) rfl cb22 rfl rfl (fun wx hm => (by have h := errs_any [firstE [stockE cs sl, checkE cs l], whenE NB 8, whenE true 1] g16 3 _ wx (hm.blkI 0 rfl) (by simp); rw [show firstE [firstE [stockE cs sl, checkE cs l], whenE NB 8, whenE true 1] = E2 from by rw [htwo, hwv, hSE, hKE]] at h; exact h)) ?_
            refine wl_nil ?_
            refine nx_wa0 (listed' := #[true, true, true, true, true, true, true, true, true, true, true, true, true, true, true, true, true, true, true, true, true, false]) rfl (fun _ hm => ⟨hm.blkI 1 rfl, hm.fact 0 rfl, hm.fact 1 rfl, hm.fact 2 rfl, hm.fact 3 rfl, hm.fact 4 rfl, trivial⟩) ?_
            refine wa_take 21 rfl (by kernel_rfl) (by kernel_rfl) (by kernel_rfl) (listed' := #[true, true, true, true, true, true, true, true, true, true, true, true, true, true, true, true, true, true, true, true, true, true]) rfl (fun _ _ _ h => h) (fun _ hm => ⟨hm.blkI 1 rfl, hm.fact 0 rfl, hm.fact 1 rfl, hm.fact 2 rfl, hm.fact 3 rfl, hm.fact 4 rfl, trivial⟩) (ov_assign rfl) rfl ?_
            refine wa_done (by kernel_rfl) ?_
            exact nx_meet () trivial ⟨rfl, rfl, rfl, rfl, rfl, rfl, rfl, rfl, rfl, rfl, rfl, trivial⟩ (fun _ hm => hm.pick [] [] [0, 1, 2, 3, 4] rfl rfl)
          · refine wa_set 75 rfl (congrArg Value.bool hgd1) ?_
            replace hgd1 := of_decide_eq_false hgd1
            have hwv : WB = decide (5761439 < wb) := by rw [hWB]; unfold winB; rw [decide_eq_false hgd0, decide_eq_false hgd1]; rfl
            refine wa_take_on 14 rfl rfl rfl (by kernel_rfl) (by kernel_rfl) (by kernel_rfl) (listed' := #[true, true, true, true, true, true, true, true, true, true, true, true, true, true, true, false, false, false, false, false, false, false]) rfl (fun _ _ _ h => h) (fun _ hm => ⟨hm.blkI 0 rfl, hm.fact 0 rfl, hm.fact 1 rfl, hm.fact 2 rfl, hm.fact 3 rfl, hm.fact 4 rfl, trivial⟩) (ov_field fo35_1 rfl rfl) rfl ?_
            refine wa_take_on 15 rfl rfl rfl (by kernel_rfl) (by kernel_rfl) (by kernel_rfl) (listed' := #[true, true, true, true, true, true, true, true, true, true, true, true, true, true, true, true, false, false, false, false, false, false]) rfl (fun _ _ _ h => h) (fun _ hm => ⟨hm.blkI 0 rfl, hm.fact 0 rfl, hm.fact 1 rfl, hm.fact 2 rfl, hm.fact 3 rfl, hm.fact 4 rfl, trivial⟩) (ov_load (v := .int .i64 wb) sc3 rfl (fun _ hm => (hm.2.1).2) rfl) rfl ?_
            refine wa_take_on 16 rfl rfl rfl (by kernel_rfl) (by kernel_rfl) (by kernel_rfl) (listed' := #[true, true, true, true, true, true, true, true, true, true, true, true, true, true, true, true, true, false, false, false, false, false]) rfl (fun _ _ _ h => h) (fun _ hm => ⟨hm.blkI 0 rfl, hm.fact 0 rfl, hm.fact 1 rfl, hm.fact 2 rfl, hm.fact 3 rfl, hm.fact 4 rfl, trivial⟩) (ov_gtr rfl rfl) rfl ?_
            refine wa_take 17 rfl (by kernel_rfl) (by kernel_rfl) (by kernel_rfl) (listed' := #[true, true, true, true, true, true, true, true, true, true, true, true, true, true, true, true, true, true, false, false, false, false]) rfl (fun _ _ _ h => h) (fun _ hm => ⟨hm.blkI 0 rfl, hm.fact 0 rfl, hm.fact 1 rfl, hm.fact 2 rfl, hm.fact 3 rfl, hm.fact 4 rfl, trivial⟩) (ov_pick_f rfl rfl) rfl ?_
            refine wa_all [18] (by kernel_rfl) rfl ⟨⟨_, rfl, ?_⟩, trivial⟩
            refine wl_callw rfl cb20 rfl rfl (fun wx hm => (rwhen_any _ _ wx)) ?_
            refine wl_nil ?_
            refine nx_wa0 (listed' := #[true, true, true, true, true, true, true, true, true, true, true, true, true, true, true, true, true, true, true, false, false, false]) rfl (fun _ hm => ⟨hm.blkI 0 rfl, hm.fact 0 rfl, hm.fact 1 rfl, hm.fact 2 rfl, hm.fact 3 rfl, hm.fact 4 rfl, trivial⟩) ?_
            refine wa_all [19] (by kernel_rfl) rfl ⟨⟨_, rfl, ?_⟩, trivial⟩
            refine wl_buildSlice (e := 41) (cs := [.int .i64 (firstE [stockE cs sl, checkE cs l]), .int .i64 (whenE NB 8), .int .i64 (whenE (decide (5761439 < wb)) 1)]) rfl (by kernel_rfl) rfl fun g17 => ?_
            refine wl_nil ?_
            refine nx_wa0 (listed' := #[true, true, true, true, true, true, true, true, true, true, true, true, true, true, true, true, true, true, true, true, false, false]) rfl (fun _ hm => ⟨hm.blkI 1 rfl, hm.fact 0 rfl, hm.fact 1 rfl, hm.fact 2 rfl, hm.fact 3 rfl, hm.fact 4 rfl, trivial⟩) ?_
            refine wa_all [20] (by kernel_rfl) rfl ⟨⟨_, rfl, ?_⟩, trivial⟩
            refine wl_callw (v := .int .i64 E2) rfl cb22 rfl rfl (fun wx hm => (by have h := errs_any [firstE [stockE cs sl, checkE cs l], whenE NB 8, whenE (decide (5761439 < wb)) 1] g17 3 _ wx (hm.blkI 0 rfl) (by simp); rw [show firstE [firstE [stockE cs sl, checkE cs l], whenE NB 8, whenE (decide (5761439 < wb)) 1] = E2 from by rw [htwo, hwv, hSE, hKE]] at h; exact h)) ?_
            refine wl_nil ?_
            refine nx_wa0 (listed' := #[true, true, true, true, true, true, true, true, true, true, true, true, true, true, true, true, true, true, true, true, true, false]) rfl (fun _ hm => ⟨hm.blkI 1 rfl, hm.fact 0 rfl, hm.fact 1 rfl, hm.fact 2 rfl, hm.fact 3 rfl, hm.fact 4 rfl, trivial⟩) ?_
            refine wa_take 21 rfl (by kernel_rfl) (by kernel_rfl) (by kernel_rfl) (listed' := #[true, true, true, true, true, true, true, true, true, true, true, true, true, true, true, true, true, true, true, true, true, true]) rfl (fun _ _ _ h => h) (fun _ hm => ⟨hm.blkI 1 rfl, hm.fact 0 rfl, hm.fact 1 rfl, hm.fact 2 rfl, hm.fact 3 rfl, hm.fact 4 rfl, trivial⟩) (ov_assign rfl) rfl ?_
            refine wa_done (by kernel_rfl) ?_
            exact nx_meet () trivial ⟨rfl, rfl, rfl, rfl, rfl, rfl, rfl, rfl, rfl, rfl, rfl, trivial⟩ (fun _ hm => hm.pick [] [] [0, 1, 2, 3, 4] rfl rfl)
      · intro u_ hinv
        replace hinv : True := hinv
        refine gw_seq ?_
        refine gw_seq ?_
        refine gw_draw (fun wz => (BlkOld w2.heap.size none g5 35 [.int .i64 wa, .int .i64 wb]) wz ∧ (BlkOld w2.heap.size none g4 54 [.slice A0 4 c0, .slice A1 n1 c1, .slice A n c, .int .i64 (stockE cs sl), .int .i64 (checkE cs l)]) wz ∧ (SlOld csEnc 2 135 w2.heap.size none A0 4 cs) wz ∧ (SlOld skEnc 2 139 w2.heap.size none A1 n1 sl) wz ∧ (SlOld bkEnc 6 142 w2.heap.size none A n l) wz ∧ True) mixed ?_
        refine wa_take 0 rfl (by kernel_rfl) (by kernel_rfl) (by kernel_rfl) (listed' := #[true, false, false, false, false, false, false, false, false, false, false, false, false, false, false, false, false, false, false, false, false, false, false, false, false, false, false, false]) rfl (fun _ _ _ h => h) (fun _ hm => ⟨hm.fact 0 rfl, hm.fact 1 rfl, hm.fact 2 rfl, hm.fact 3 rfl, hm.fact 4 rfl, trivial⟩) (ov_field fo54_0 rfl rfl) rfl ?_
        refine wa_take 1 rfl (by kernel_rfl) (by kernel_rfl) (by kernel_rfl) (listed' := #[true, true, false, false, false, false, false, false, false, false, false, false, false, false, false, false, false, false, false, false, false, false, false, false, false, false, false, false]) rfl (fun _ _ _ h => h) (fun _ hm => ⟨hm.fact 0 rfl, hm.fact 1 rfl, hm.fact 2 rfl, hm.fact 3 rfl, hm.fact 4 rfl, trivial⟩) (ov_load (v := .slice A0 4 c0) sc50 rfl (fun _ hm => (hm.2.1).2) rfl) rfl ?_
        refine wa_take 2 rfl (by kernel_rfl) (by kernel_rfl) (by kernel_rfl) (listed' := #[true, true, true, false, false, false, false, false, false, false, false, false, false, false, false, false, false, false, false, false, false, false, false, false, false, false, false, false]) rfl (fun _ _ _ h => h) (fun _ hm => ⟨hm.fact 0 rfl, hm.fact 1 rfl, hm.fact 2 rfl, hm.fact 3 rfl, hm.fact 4 rfl, trivial⟩) (ov_field fo54_2 rfl rfl) rfl ?_
        refine wa_take 3 rfl (by kernel_rfl) (by kernel_rfl) (by kernel_rfl) (listed' := #[true, true, true, true, false, false, false, false, false, false, false, false, false, false, false, false, false, false, false, false, false, false, false, false, false, false, false, false]) rfl (fun _ _ _ h => h) (fun _ hm => ⟨hm.fact 0 rfl, hm.fact 1 rfl, hm.fact 2 rfl, hm.fact 3 rfl, hm.fact 4 rfl, trivial⟩) (ov_load (v := .slice A n c) sc52 rfl (fun _ hm => (hm.2.1).2) rfl) rfl ?_
        refine wa_take 5 rfl (by kernel_rfl) (by kernel_rfl) (by kernel_rfl) (listed' := #[true, true, true, true, false, true, false, false, false, false, false, false, false, false, false, false, false, false, false, false, false, false, false, false, false, false, false, false]) rfl (fun _ _ _ h => h) (fun _ hm => ⟨hm.fact 0 rfl, hm.fact 1 rfl, hm.fact 2 rfl, hm.fact 3 rfl, hm.fact 4 rfl, trivial⟩) (ov_field fo54_4 rfl rfl) rfl ?_
        refine wa_take 6 rfl (by kernel_rfl) (by kernel_rfl) (by kernel_rfl) (listed' := #[true, true, true, true, false, true, true, false, false, false, false, false, false, false, false, false, false, false, false, false, false, false, false, false, false, false, false, false]) rfl (fun _ _ _ h => h) (fun _ hm => ⟨hm.fact 0 rfl, hm.fact 1 rfl, hm.fact 2 rfl, hm.fact 3 rfl, hm.fact 4 rfl, trivial⟩) (ov_load (v := .int .i64 (checkE cs l)) sc41 rfl (fun _ hm => (hm.2.1).2) rfl) rfl ?_
        refine wa_all [4] (by kernel_rfl) rfl ⟨⟨_, rfl, ?_⟩, trivial⟩
        refine wl_callv (v := .int .i64 KE) rfl cb24 rfl rfl (fun wx hm => (by rw [hKE]; exact bcheck_any cs A0 4 c0 l A n c wx (hm.fact 2 rfl).1 hco (by omega) (hm.fact 4 rfl).1 hok (by omega))) ?_
        refine wl_nil ?_
        refine nx_wa0 (listed' := #[true, true, true, true, true, true, true, false, false, false, false, false, false, false, false, false, false, false, false, false, false, false, false, false, false, false, false, false]) rfl (fun _ hm => ⟨hm.fact 0 rfl, hm.fact 1 rfl, hm.fact 2 rfl, hm.fact 3 rfl, hm.fact 4 rfl, trivial⟩) ?_
        refine wa_take 7 rfl (by kernel_rfl) (by kernel_rfl) (by kernel_rfl) (listed' := #[true, true, true, true, true, true, true, true, false, false, false, false, false, false, false, false, false, false, false, false, false, false, false, false, false, false, false, false]) rfl (fun _ _ _ h => h) (fun _ hm => ⟨hm.fact 0 rfl, hm.fact 1 rfl, hm.fact 2 rfl, hm.fact 3 rfl, hm.fact 4 rfl, trivial⟩) (ov_neq rfl rfl) rfl ?_
        refine wa_set 90 (v' := .bool false) rfl (congrArg Value.bool (by simp [hKE])) ?_
        refine wa_take 8 rfl (by kernel_rfl) (by kernel_rfl) (by kernel_rfl) (listed' := #[true, true, true, true, true, true, true, true, true, false, false, false, false, false, false, false, false, false, false, false, false, false, false, false, false, false, false, false]) rfl (fun _ _ _ h => h) (fun _ hm => ⟨hm.fact 0 rfl, hm.fact 1 rfl, hm.fact 2 rfl, hm.fact 3 rfl, hm.fact 4 rfl, trivial⟩) (ov_move rfl) rfl ?_
        refine wa_take_on 9 rfl rfl rfl (by kernel_rfl) (by kernel_rfl) (by kernel_rfl) (listed' := #[true, true, true, true, true, true, true, true, true, true, false, false, false, false, false, false, false, false, false, false, false, false, false, false, false, false, false, false]) rfl (fun _ _ _ h => h) (fun _ hm => ⟨hm.fact 0 rfl, hm.fact 1 rfl, hm.fact 2 rfl, hm.fact 3 rfl, hm.fact 4 rfl, trivial⟩) (ov_field fo54_0 rfl rfl) rfl ?_
        refine wa_take_on 10 rfl rfl rfl (by kernel_rfl) (by kernel_rfl) (by kernel_rfl) (listed' := #[true, true, true, true, true, true, true, true, true, true, true, false, false, false, false, false, false, false, false, false, false, false, false, false, false, false, false, false]) rfl (fun _ _ _ h => h) (fun _ hm => ⟨hm.fact 0 rfl, hm.fact 1 rfl, hm.fact 2 rfl, hm.fact 3 rfl, hm.fact 4 rfl, trivial⟩) (ov_load (v := .slice A0 4 c0) sc50 rfl (fun _ hm => (hm.2.1).2) rfl) rfl ?_
        refine wa_take_on 11 rfl rfl rfl (by kernel_rfl) (by kernel_rfl) (by kernel_rfl) (listed' := #[true, true, true, true, true, true, true, true, true, true, true, true, false, false, false, false, false, false, false, false, false, false, false, false, false, false, false, false]) rfl (fun _ _ _ h => h) (fun _ hm => ⟨hm.fact 0 rfl, hm.fact 1 rfl, hm.fact 2 rfl, hm.fact 3 rfl, hm.fact 4 rfl, trivial⟩) (ov_field fo54_1 rfl rfl) rfl ?_
        refine wa_take_on 12 rfl rfl rfl (by kernel_rfl) (by kernel_rfl) (by kernel_rfl) (listed' := #[true, true, true, true, true, true, true, true, true, true, true, true, true, false, false, false, false, false, false, false, false, false, false, false, false, false, false, false]) rfl (fun _ _ _ h => h) (fun _ hm => ⟨hm.fact 0 rfl, hm.fact 1 rfl, hm.fact 2 rfl, hm.fact 3 rfl, hm.fact 4 rfl, trivial⟩) (ov_load (v := .slice A1 n1 c1) sc51 rfl (fun _ hm => (hm.2.1).2) rfl) rfl ?_
        refine wa_take_on 14 rfl rfl rfl (by kernel_rfl) (by kernel_rfl) (by kernel_rfl) (listed' := #[true, true, true, true, true, true, true, true, true, true, true, true, true, false, true, false, false, false, false, false, false, false, false, false, false, false, false, false]) rfl (fun _ _ _ h => h) (fun _ hm => ⟨hm.fact 0 rfl, hm.fact 1 rfl, hm.fact 2 rfl, hm.fact 3 rfl, hm.fact 4 rfl, trivial⟩) (ov_field fo54_3 rfl rfl) rfl ?_
        refine wa_take_on 15 rfl rfl rfl (by kernel_rfl) (by kernel_rfl) (by kernel_rfl) (listed' := #[true, true, true, true, true, true, true, true, true, true, true, true, true, false, true, true, false, false, false, false, false, false, false, false, false, false, false, false]) rfl (fun _ _ _ h => h) (fun _ hm => ⟨hm.fact 0 rfl, hm.fact 1 rfl, hm.fact 2 rfl, hm.fact 3 rfl, hm.fact 4 rfl, trivial⟩) (ov_load (v := .int .i64 (stockE cs sl)) sc41 rfl (fun _ hm => (hm.2.1).2) rfl) rfl ?_
        refine wa_all [13] (by kernel_rfl) rfl ⟨⟨_, rfl, ?_⟩, trivial⟩
        refine wl_guard_on rfl rfl rfl ?_
        refine wl_callv (v := .int .i64 SE) rfl cb25 rfl rfl (fun wx hm => (by rw [hSE]; exact checkStock_any cs A0 4 c0 sl A1 n1 c1 wx (hm.fact 2 rfl).1 hco (by omega) (hm.fact 3 rfl).1 hso (by omega))) ?_
        refine wl_nil ?_
        refine nx_wa0 (listed' := #[true, true, true, true, true, true, true, true, true, true, true, true, true, true, true, true, false, false, false, false, false, false, false, false, false, false, false, false]) rfl (fun _ hm => ⟨hm.fact 0 rfl, hm.fact 1 rfl, hm.fact 2 rfl, hm.fact 3 rfl, hm.fact 4 rfl, trivial⟩) ?_
        refine wa_take_on 16 rfl rfl rfl (by kernel_rfl) (by kernel_rfl) (by kernel_rfl) (listed' := #[true, true, true, true, true, true, true, true, true, true, true, true, true, true, true, true, true, false, false, false, false, false, false, false, false, false, false, false]) rfl (fun _ _ _ h => h) (fun _ hm => ⟨hm.fact 0 rfl, hm.fact 1 rfl, hm.fact 2 rfl, hm.fact 3 rfl, hm.fact 4 rfl, trivial⟩) (ov_neq rfl rfl) rfl ?_
        refine wa_set 99 (v' := .bool false) rfl (congrArg Value.bool (by simp [hSE])) ?_
        refine wa_take 17 rfl (by kernel_rfl) (by kernel_rfl) (by kernel_rfl) (listed' := #[true, true, true, true, true, true, true, true, true, true, true, true, true, true, true, true, true, true, false, false, false, false, false, false, false, false, false, false]) rfl (fun _ _ _ h => h) (fun _ hm => ⟨hm.fact 0 rfl, hm.fact 1 rfl, hm.fact 2 rfl, hm.fact 3 rfl, hm.fact 4 rfl, trivial⟩) (ov_pick_f rfl rfl) rfl ?_
        refine wa_take 18 rfl (by kernel_rfl) (by kernel_rfl) (by kernel_rfl) (listed' := #[true, true, true, true, true, true, true, true, true, true, true, true, true, true, true, true, true, true, true, false, false, false, false, false, false, false, false, false]) rfl (fun _ _ _ h => h) (fun _ hm => ⟨hm.fact 0 rfl, hm.fact 1 rfl, hm.fact 2 rfl, hm.fact 3 rfl, hm.fact 4 rfl, trivial⟩) (ov_move rfl) rfl ?_
        refine wa_take_on 19 rfl rfl rfl (by kernel_rfl) (by kernel_rfl) (by kernel_rfl) (listed' := #[true, true, true, true, true, true, true, true, true, true, true, true, true, true, true, true, true, true, true, true, false, false, false, false, false, false, false, false]) rfl (fun _ _ _ h => h) (fun _ hm => ⟨hm.fact 0 rfl, hm.fact 1 rfl, hm.fact 2 rfl, hm.fact 3 rfl, hm.fact 4 rfl, trivial⟩) (ov_move rfl) rfl ?_
        refine wa_take_on 20 rfl rfl rfl (by kernel_rfl) (by kernel_rfl) (by kernel_rfl) (listed' := #[true, true, true, true, true, true, true, true, true, true, true, true, true, true, true, true, true, true, true, true, true, false, false, false, false, false, false, false]) rfl (fun _ _ _ h => h) (fun _ hm => ⟨hm.fact 0 rfl, hm.fact 1 rfl, hm.fact 2 rfl, hm.fact 3 rfl, hm.fact 4 rfl, trivial⟩) (ov_move rfl) rfl ?_
        refine wa_take_on 21 rfl rfl rfl (by kernel_rfl) (by kernel_rfl) (by kernel_rfl) (listed' := #[true, true, true, true, true, true, true, true, true, true, true, true, true, true, true, true, true, true, true, true, true, true, false, false, false, false, false, false]) rfl (fun _ _ _ h => h) (fun _ hm => ⟨hm.fact 0 rfl, hm.fact 1 rfl, hm.fact 2 rfl, hm.fact 3 rfl, hm.fact 4 rfl, trivial⟩) (ov_neq rfl rfl) rfl ?_
        refine wa_set 104 (v' := .bool false) rfl (congrArg Value.bool (by simp)) ?_
        refine wa_take 22 rfl (by kernel_rfl) (by kernel_rfl) (by kernel_rfl) (listed' := #[true, true, true, true, true, true, true, true, true, true, true, true, true, true, true, true, true, true, true, true, true, true, true, false, false, false, false, false]) rfl (fun _ _ _ h => h) (fun _ hm => ⟨hm.fact 0 rfl, hm.fact 1 rfl, hm.fact 2 rfl, hm.fact 3 rfl, hm.fact 4 rfl, trivial⟩) (ov_pick_f rfl rfl) rfl ?_
        refine wa_take 23 rfl (by kernel_rfl) (by kernel_rfl) (by kernel_rfl) (listed' := #[true, true, true, true, true, true, true, true, true, true, true, true, true, true, true, true, true, true, true, true, true, true, true, true, false, false, false, false]) rfl (fun _ _ _ h => h) (fun _ hm => ⟨hm.fact 0 rfl, hm.fact 1 rfl, hm.fact 2 rfl, hm.fact 3 rfl, hm.fact 4 rfl, trivial⟩) (ov_move rfl) rfl ?_
        refine wa_take_on 24 rfl rfl rfl (by kernel_rfl) (by kernel_rfl) (by kernel_rfl) (listed' := #[true, true, true, true, true, true, true, true, true, true, true, true, true, true, true, true, true, true, true, true, true, true, true, true, true, false, false, false]) rfl (fun _ _ _ h => h) (fun _ hm => ⟨hm.fact 0 rfl, hm.fact 1 rfl, hm.fact 2 rfl, hm.fact 3 rfl, hm.fact 4 rfl, trivial⟩) (ov_move rfl) rfl ?_
        refine wa_take_on 25 rfl rfl rfl (by kernel_rfl) (by kernel_rfl) (by kernel_rfl) (listed' := #[true, true, true, true, true, true, true, true, true, true, true, true, true, true, true, true, true, true, true, true, true, true, true, true, true, true, false, false]) rfl (fun _ _ _ h => h) (fun _ hm => ⟨hm.fact 0 rfl, hm.fact 1 rfl, hm.fact 2 rfl, hm.fact 3 rfl, hm.fact 4 rfl, trivial⟩) (ov_move rfl) rfl ?_
        refine wa_take_on 26 rfl rfl rfl (by kernel_rfl) (by kernel_rfl) (by kernel_rfl) (listed' := #[true, true, true, true, true, true, true, true, true, true, true, true, true, true, true, true, true, true, true, true, true, true, true, true, true, true, true, false]) rfl (fun _ _ _ h => h) (fun _ hm => ⟨hm.fact 0 rfl, hm.fact 1 rfl, hm.fact 2 rfl, hm.fact 3 rfl, hm.fact 4 rfl, trivial⟩) (ov_neq rfl rfl) rfl ?_
        refine wa_set 109 (v' := .bool false) rfl (congrArg Value.bool (by simp)) ?_
        refine wa_take 27 rfl (by kernel_rfl) (by kernel_rfl) (by kernel_rfl) (listed' := #[true, true, true, true, true, true, true, true, true, true, true, true, true, true, true, true, true, true, true, true, true, true, true, true, true, true, true, true]) rfl (fun _ _ _ h => h) (fun _ hm => ⟨hm.fact 0 rfl, hm.fact 1 rfl, hm.fact 2 rfl, hm.fact 3 rfl, hm.fact 4 rfl, trivial⟩) (ov_pick_f rfl rfl) rfl ?_
        refine wa_done (by kernel_rfl) ?_
        refine nx_then ?_
        refine gw_cond rfl (fun hh => by cases hh) (fun _ => ?_)
        refine gw_skip ?_
        refine nx_then ?_
        refine gw_seq ?_
        refine gw_region ?_
        refine wl_ov (ov_assign rfl) rfl ?_
        refine wl_ov (ov_assign rfl) rfl ?_
        refine wl_ov (ov_assign rfl) rfl ?_
        refine wl_nil ?_
        refine nx_then ?_
        refine gw_seq ?_
        refine gw_seq ?_
        refine gw_region ?_
        refine wl_ov (ov_move rfl) rfl ?_
        refine wl_ov (ov_eql rfl rfl) rfl ?_
        refine wl_set 112 (v' := .bool false) rfl (congrArg Value.bool (decide_eq_false h1)) ?_
        refine wl_nil ?_
        refine nx_then ?_
        refine gw_cond rfl (fun hh => by cases hh) (fun _ => ?_)
        refine gw_skip ?_
        refine nx_then ?_
        refine gw_seq ?_
        refine gw_seq ?_
        refine gw_region ?_
        refine wl_ov (ov_move rfl) rfl ?_
        refine wl_ov (ov_eql rfl rfl) rfl ?_
        refine wl_set 121 (v' := .bool true) rfl (congrArg Value.bool (decide_eq_true h2)) ?_
        refine wl_nil ?_
        refine nx_then ?_
        refine gw_cond rfl (fun _ => ?_) (fun hh => by cases hh)
        refine gw_region ?_
        refine wl_ov (ov_field fo54_1 rfl rfl) rfl ?_
        refine wl_ov (ov_load (v := .slice A1 n1 c1) sc51 rfl (fun _ hm => (hm.fact 1 rfl).2) rfl) rfl ?_
        refine wl_ov (ov_field fo54_2 rfl rfl) rfl ?_
        refine wl_ov (ov_load (v := .slice A n c) sc52 rfl (fun _ hm => (hm.fact 1 rfl).2) rfl) rfl ?_
        refine wl_ov (ov_move rfl) rfl ?_
        refine wl_ov (ov_loads (vs := [.int .i64 wa, .int .i64 wb]) rz35 rfl (fun _ hm => (hm.fact 0 rfl).2) rfl rfl) rfl ?_
        refine wl_callv (v := .int .i64 FP) rfl cb27 rfl rfl (fun wx hm => (by have h := freeOf_any sl A1 n1 c1 l A n c q2 wa wb wx (hm.fact 3 rfl).1 hso (by omega) (hm.fact 4 rfl).1 hok (by omega) (freeE_ok (hE2.symm.trans h2)).1 (by have := freeE_ok (hE2.symm.trans h2); omega); rw [← free_ref (hE2.symm.trans h2), ← hFP] at h; exact h)) ?_
        refine wl_ov (ov_assign rfl) rfl ?_
        refine wl_nil ?_
        refine nx_then ?_
        refine gw_seq ?_
        refine gw_region ?_
        refine wl_ov (ov_move rfl) rfl ?_
        refine wl_ov (ov_move rfl) rfl ?_
        refine wl_ov (ov_eql rfl rfl) rfl ?_
        refine wl_set 131 (v' := .bool true) rfl (congrArg Value.bool (by simp)) ?_
        refine wl_ov (ov_move rfl) rfl ?_
        refine wl_guard_on rfl rfl rfl ?_
        refine wl_ov (ov_move rfl) rfl ?_
        refine wl_guard_on rfl rfl rfl ?_
        refine wl_ov (ov_move rfl) rfl ?_
        refine wl_guard_on rfl rfl rfl ?_
        refine wl_ov (ov_eql rfl rfl) rfl ?_
        refine wl_set 135 (v' := .bool true) rfl (congrArg Value.bool (by simp)) ?_
        refine wl_ov (ov_pick_t rfl rfl) rfl ?_
        refine wl_ov (ov_move rfl) rfl ?_
        refine wl_guard_on rfl rfl rfl ?_
        refine wl_ov (ov_move rfl) rfl ?_
        refine wl_guard_on rfl rfl rfl ?_
        refine wl_ov (ov_move rfl) rfl ?_
        refine wl_guard_on rfl rfl rfl ?_
        refine wl_ov (ov_eql rfl rfl) rfl ?_
        refine wl_set 140 (v' := .bool true) rfl (congrArg Value.bool (by simp)) ?_
        refine wl_ov (ov_pick_t rfl rfl) rfl ?_
        refine wl_ov (ov_move rfl) rfl ?_
        refine wl_guard_on rfl rfl rfl ?_
        refine wl_callv rfl cb28 rfl rfl (fun wx hm => (booked_any wx)) ?_
        refine wl_ov (ov_pick_t rfl rfl) rfl ?_
        refine wl_ov (ov_assign rfl) rfl ?_
        refine wl_nil ?_
        refine nx_then ?_
        refine gw_ret ?_
        refine nx_ret1 rfl rfl fun wx hm => ?_
        exact ⟨rfl, law_end hg1 hsb (grow_trans hm_w2.g (grow_weak hm.g))⟩
    · have hz2 : freeP cs sl l q2 wa wb = 0 := by unfold freeP; rw [← hE2, if_neg h2]
      refine wl_callv (v := .tuple #[.int .i64 0, .int .i64 0, .int .i64 E1]) rfl cb18 rfl rfl (fun wx hm => (by have h := busy_any cs A0 4 c0 l A n c q2 wx (hm.fact 2 rfl).1 hco (by omega) (hm.fact 4 rfl).1 hok (by omega); rw [hz1.1, hz1.2, ← hE1] at h; exact h)) ?_
      refine wl_ov (ov_move rfl) rfl ?_
      refine wl_ov (ov_extract rfl rfl) rfl ?_
      refine wl_ov (ov_extract rfl rfl) rfl ?_
      refine wl_ov (ov_extract rfl rfl) rfl ?_
      refine wl_ov (ov_assign rfl) rfl ?_
      refine wl_ov (ov_assign rfl) rfl ?_
      refine wl_ov (ov_assign rfl) rfl ?_
      refine wl_nil ?_
      refine nx_then ?_
      refine gw_seq ?_
      refine gw_region ?_
      refine wl_ov (ov_field fo54_0 rfl rfl) rfl ?_
      refine wl_ov (ov_load (v := .slice A0 4 c0) sc50 rfl (fun _ hm => (hm.fact 1 rfl).2) rfl) rfl ?_
      refine wl_ov (ov_field fo54_1 rfl rfl) rfl ?_
      refine wl_ov (ov_load (v := .slice A1 n1 c1) sc51 rfl (fun _ hm => (hm.fact 1 rfl).2) rfl) rfl ?_
      refine wl_ov (ov_field fo54_2 rfl rfl) rfl ?_
      refine wl_ov (ov_load (v := .slice A n c) sc52 rfl (fun _ hm => (hm.fact 1 rfl).2) rfl) rfl ?_
      refine wl_ov (ov_move rfl) rfl ?_
      refine wl_ov (ov_loads (vs := [.int .i64 wa, .int .i64 wb]) rz35 rfl (fun _ hm => (hm.fact 0 rfl).2) rfl rfl) rfl ?_
      refine wl_callv (v := .tuple #[.int .i64 0, .int .i64 E2]) rfl cb19 rfl rfl (fun wx hm => (by have h := free_any cs A0 4 c0 sl A1 n1 c1 l A n c q2 wa wb wx (hm.fact 2 rfl).1 hco (by omega) (hm.fact 3 rfl).1 hso (by omega) (hm.fact 4 rfl).1 hok (by omega); rw [hz2, ← hE2] at h; exact h)) ?_
      refine wl_ov (ov_move rfl) rfl ?_
      refine wl_ov (ov_extract rfl rfl) rfl ?_
      refine wl_ov (ov_extract rfl rfl) rfl ?_
      refine wl_ov (ov_assign rfl) rfl ?_
      refine wl_ov (ov_assign rfl) rfl ?_
      refine wl_nil ?_
      refine nx_then ?_
      refine gw_seq ?_
      refine gw_region ?_
      refine wl_ov (ov_field fo54_0 rfl rfl) rfl ?_
      refine wl_ov (ov_load (v := .slice A0 4 c0) sc50 rfl (fun _ hm => (hm.fact 1 rfl).2) rfl) rfl ?_
      refine wl_ov (ov_move rfl) rfl ?_
      refine wl_callv (v := .int .i64 IA) rfl cb21 rfl rfl (fun wx hm => (by rw [hIA]; exact rClassAt_any cs A0 4 c0 q2 wx (hm.fact 2 rfl).1 (by omega))) ?_
      refine wl_ov (ov_lss rfl rfl) rfl ?_
      refine wl_set 55 (v' := .bool NB) rfl (congrArg Value.bool hNI) ?_
      refine wl_callw rfl cb20 rfl rfl (fun wx hm => (rwhen_any _ _ wx)) ?_
      refine wl_ov (ov_assign rfl) rfl ?_
      refine wl_nil ?_
      refine nx_then ?_
      refine gw_seq ?_
      refine gw_region ?_
      refine wl_ov (ov_field fo54_4 rfl rfl) rfl ?_
      refine wl_ov (ov_load (v := .int .i64 (checkE cs l)) sc41 rfl (fun _ hm => (hm.fact 1 rfl).2) rfl) rfl ?_
      refine wl_ov (ov_move rfl) rfl ?_
      refine wl_buildSlice (e := 41) (cs := [.int .i64 (checkE cs l), .int .i64 (whenE NB 8)]) rfl (by kernel_rfl) rfl fun g18 => ?_
      refine wl_callw (v := .int .i64 E1) rfl cb22 rfl rfl (fun wx hm => (by have h := errs_any [checkE cs l, whenE NB 8] g18 2 _ wx (hm.blkI 0 rfl) (by simp); rw [show firstE [checkE cs l, whenE NB 8] = E1 from by rw [hone, hKE]] at h; exact h)) ?_
      refine wl_ov (ov_assign rfl) rfl ?_
      refine wl_nil ?_
      refine nx_then ?_
      refine gw_cut (γ := Unit) (I := (fun (u_ : Unit) => True)) (S' := (fun (u_ : Unit) => [(2, .bool false), (4, .pointer (some ⟨g4, 0, none⟩)), (5, .string q2), (6, .pointer (some ⟨g5, 0, none⟩)), (7, .int .i64 0), (8, .int .i64 0), (9, .int .i64 E1), (10, .int .i64 0), (11, .int .i64 E2), (13, .int .i64 E1), (14, .int .i64 E2)])) (K' := (fun (u_ : Unit) => fun _ => True)) (L' := (fun (u_ : Unit) => [])) (O' := (fun (u_ : Unit) => [])) (X' := (fun (u_ : Unit) => [BlkOld w2.heap.size none g5 35 [.int .i64 wa, .int .i64 wb], BlkOld w2.heap.size none g4 54 [.slice A0 4 c0, .slice A1 n1 c1, .slice A n c, .int .i64 (stockE cs sl), .int .i64 (checkE cs l)], SlOld csEnc 2 135 w2.heap.size none A0 4 cs, SlOld skEnc 2 139 w2.heap.size none A1 n1 sl, SlOld bkEnc 6 142 w2.heap.size none A n l])) ?_ ?_
      · refine gw_draw (fun wz => Blk wz g18 41 [.int .i64 (checkE cs l), .int .i64 (whenE NB 8)] ∧ (BlkOld w2.heap.size none g5 35 [.int .i64 wa, .int .i64 wb]) wz ∧ (BlkOld w2.heap.size none g4 54 [.slice A0 4 c0, .slice A1 n1 c1, .slice A n c, .int .i64 (stockE cs sl), .int .i64 (checkE cs l)]) wz ∧ (SlOld csEnc 2 135 w2.heap.size none A0 4 cs) wz ∧ (SlOld skEnc 2 139 w2.heap.size none A1 n1 sl) wz ∧ (SlOld bkEnc 6 142 w2.heap.size none A n l) wz ∧ True) mixed ?_
        refine wa_take 0 rfl (by kernel_rfl) (by kernel_rfl) (by kernel_rfl) (listed' := #[true, false, false, false, false, false, false, false, false, false, false, false, false, false, false, false, false, false, false, false, false, false]) rfl (fun _ _ _ h => h) (fun _ hm => ⟨hm.blkI 0 rfl, hm.fact 0 rfl, hm.fact 1 rfl, hm.fact 2 rfl, hm.fact 3 rfl, hm.fact 4 rfl, trivial⟩) (ov_loads (vs := [.slice A0 4 c0, .slice A1 n1 c1, .slice A n c, .int .i64 (stockE cs sl), .int .i64 (checkE cs l)]) rz54 rfl (fun _ hm => (hm.2.2.1).2) rfl rfl) rfl ?_
        refine wa_take 2 rfl (by kernel_rfl) (by kernel_rfl) (by kernel_rfl) (listed' := #[true, false, true, false, false, false, false, false, false, false, false, false, false, false, false, false, false, false, false, false, false, false]) rfl (fun _ _ _ h => h) (fun _ hm => ⟨hm.blkI 0 rfl, hm.fact 0 rfl, hm.fact 1 rfl, hm.fact 2 rfl, hm.fact 3 rfl, hm.fact 4 rfl, trivial⟩) (ov_move rfl) rfl ?_
        refine wa_take 3 rfl (by kernel_rfl) (by kernel_rfl) (by kernel_rfl) (listed' := #[true, false, true, true, false, false, false, false, false, false, false, false, false, false, false, false, false, false, false, false, false, false]) rfl (fun _ _ _ h => h) (fun _ hm => ⟨hm.blkI 0 rfl, hm.fact 0 rfl, hm.fact 1 rfl, hm.fact 2 rfl, hm.fact 3 rfl, hm.fact 4 rfl, trivial⟩) (ov_field fo35_0 rfl rfl) rfl ?_
        refine wa_take 4 rfl (by kernel_rfl) (by kernel_rfl) (by kernel_rfl) (listed' := #[true, false, true, true, true, false, false, false, false, false, false, false, false, false, false, false, false, false, false, false, false, false]) rfl (fun _ _ _ h => h) (fun _ hm => ⟨hm.blkI 0 rfl, hm.fact 0 rfl, hm.fact 1 rfl, hm.fact 2 rfl, hm.fact 3 rfl, hm.fact 4 rfl, trivial⟩) (ov_load (v := .int .i64 wa) sc3 rfl (fun _ hm => (hm.2.1).2) rfl) rfl ?_
        refine wa_take 5 rfl (by kernel_rfl) (by kernel_rfl) (by kernel_rfl) (listed' := #[true, false, true, true, true, true, false, false, false, false, false, false, false, false, false, false, false, false, false, false, false, false]) rfl (fun _ _ _ h => h) (fun _ hm => ⟨hm.blkI 0 rfl, hm.fact 0 rfl, hm.fact 1 rfl, hm.fact 2 rfl, hm.fact 3 rfl, hm.fact 4 rfl, trivial⟩) (ov_lss rfl rfl) rfl ?_
        refine wa_all [1] (by kernel_rfl) rfl ⟨⟨_, rfl, ?_⟩, trivial⟩
        refine wl_callv rfl cb23 rfl rfl (fun wx hm => (call_any _ _ _ _ _ _ _ _ _ _ _ wx)) ?_
        refine wl_nil ?_
        refine nx_wa0 (listed' := #[true, true, true, true, true, true, false, false, false, false, false, false, false, false, false, false, false, false, false, false, false, false]) rfl (fun _ hm => ⟨hm.blkI 0 rfl, hm.fact 0 rfl, hm.fact 1 rfl, hm.fact 2 rfl, hm.fact 3 rfl, hm.fact 4 rfl, trivial⟩) ?_
        refine wa_take 6 rfl (by kernel_rfl) (by kernel_rfl) (by kernel_rfl) (listed' := #[true, true, true, true, true, true, true, false, false, false, false, false, false, false, false, false, false, false, false, false, false, false]) rfl (fun _ _ _ h => h) (fun _ hm => ⟨hm.blkI 0 rfl, hm.fact 0 rfl, hm.fact 1 rfl, hm.fact 2 rfl, hm.fact 3 rfl, hm.fact 4 rfl, trivial⟩) (ov_move rfl) rfl ?_
        rcases Bool.eq_false_or_eq_true (decide (wa < 0)) with hgd0 | hgd0
        · refine wa_set 68 rfl (congrArg Value.bool hgd0) ?_
          replace hgd0 := of_decide_eq_true hgd0
          have hwv : WB = true := by rw [hWB]; unfold winB; rw [decide_eq_true hgd0]; rfl
          refine wa_take_off 7 rfl rfl rfl (by decide) (by kernel_rfl) (by kernel_rfl) (by kernel_rfl) (listed' := #[true, true, true, true, true, true, true, true, false, false, false, false, false, false, false, false, false, false, false, false, false, false]) rfl (fun _ _ _ h => h) (fun _ hm => ⟨hm.blkI 0 rfl, hm.fact 0 rfl, hm.fact 1 rfl, hm.fact 2 rfl, hm.fact 3 rfl, hm.fact 4 rfl, trivial⟩) rfl ?_
          refine wa_take_off 8 rfl rfl rfl (by decide) (by kernel_rfl) (by kernel_rfl) (by kernel_rfl) (listed' := #[true, true, true, true, true, true, true, true, true, false, false, false, false, false, false, false, false, false, false, false, false, false]) rfl (fun _ _ _ h => h) (fun _ hm => ⟨hm.blkI 0 rfl, hm.fact 0 rfl, hm.fact 1 rfl, hm.fact 2 rfl, hm.fact 3 rfl, hm.fact 4 rfl, trivial⟩) rfl ?_
          refine wa_take_off 9 rfl rfl rfl (by decide) (by kernel_rfl) (by kernel_rfl) (by kernel_rfl) (listed' := #[true, true, true, true, true, true, true, true, true, true, false, false, false, false, false, false, false, false, false, false, false, false]) rfl (fun _ _ _ h => h) (fun _ hm => ⟨hm.blkI 0 rfl, hm.fact 0 rfl, hm.fact 1 rfl, hm.fact 2 rfl, hm.fact 3 rfl, hm.fact 4 rfl, trivial⟩) rfl ?_
          refine wa_take_off 10 rfl rfl rfl (by decide) (by kernel_rfl) (by kernel_rfl) (by kernel_rfl) (listed' := #[true, true, true, true, true, true, true, true, true, true, true, false, false, false, false, false, false, false, false, false, false, false]) rfl (fun _ _ _ h => h) (fun _ hm => ⟨hm.blkI 0 rfl, hm.fact 0 rfl, hm.fact 1 rfl, hm.fact 2 rfl, hm.fact 3 rfl, hm.fact 4 rfl, trivial⟩) rfl ?_
          refine wa_take_off 11 rfl rfl rfl (by decide) (by kernel_rfl) (by kernel_rfl) (by kernel_rfl) (listed' := #[true, true, true, true, true, true, true, true, true, true, true, true, false, false, false, false, false, false, false, false, false, false]) rfl (fun _ _ _ h => h) (fun _ hm => ⟨hm.blkI 0 rfl, hm.fact 0 rfl, hm.fact 1 rfl, hm.fact 2 rfl, hm.fact 3 rfl, hm.fact 4 rfl, trivial⟩) rfl ?_
          refine wa_take 12 rfl (by kernel_rfl) (by kernel_rfl) (by kernel_rfl) (listed' := #[true, true, true, true, true, true, true, true, true, true, true, true, true, false, false, false, false, false, false, false, false, false]) rfl (fun _ _ _ h => h) (fun _ hm => ⟨hm.blkI 0 rfl, hm.fact 0 rfl, hm.fact 1 rfl, hm.fact 2 rfl, hm.fact 3 rfl, hm.fact 4 rfl, trivial⟩) (ov_pick_t rfl rfl) rfl ?_
          refine wa_take 13 rfl (by kernel_rfl) (by kernel_rfl) (by kernel_rfl) (listed' := #[true, true, true, true, true, true, true, true, true, true, true, true, true, true, false, false, false, false, false, false, false, false]) rfl (fun _ _ _ h => h) (fun _ hm => ⟨hm.blkI 0 rfl, hm.fact 0 rfl, hm.fact 1 rfl, hm.fact 2 rfl, hm.fact 3 rfl, hm.fact 4 rfl, trivial⟩) (ov_move rfl) rfl ?_
          refine wa_take_off 14 rfl rfl rfl (by decide) (by kernel_rfl) (by kernel_rfl) (by kernel_rfl) (listed' := #[true, true, true, true, true, true, true, true, true, true, true, true, true, true, true, false, false, false, false, false, false, false]) rfl (fun _ _ _ h => h) (fun _ hm => ⟨hm.blkI 0 rfl, hm.fact 0 rfl, hm.fact 1 rfl, hm.fact 2 rfl, hm.fact 3 rfl, hm.fact 4 rfl, trivial⟩) rfl ?_
          refine wa_take_off 15 rfl rfl rfl (by decide) (by kernel_rfl) (by kernel_rfl) (by kernel_rfl) (listed' := #[true, true, true, true, true, true, true, true, true, true, true, true, true, true, true, true, false, false, false, false, false, false]) rfl (fun _ _ _ h => h) (fun _ hm => ⟨hm.blkI 0 rfl, hm.fact 0 rfl, hm.fact 1 rfl, hm.fact 2 rfl, hm.fact 3 rfl, hm.fact 4 rfl, trivial⟩) rfl ?_
          refine wa_take_off 16 rfl rfl rfl (by decide) (by kernel_rfl) (by kernel_rfl) (by kernel_rfl) (listed' := #[true, true, true, true, true, true, true, true, true, true, true, true, true, true, true, true, true, false, false, false, false, false]) rfl (fun _ _ _ h => h) (fun _ hm => ⟨hm.blkI 0 rfl, hm.fact 0 rfl, hm.fact 1 rfl, hm.fact 2 rfl, hm.fact 3 rfl, hm.fact 4 rfl, trivial⟩) rfl ?_
          refine wa_take 17 rfl (by kernel_rfl) (by kernel_rfl) (by kernel_rfl) (listed' := #[true, true, true, true, true, true, true, true, true, true, true, true, true, true, true, true, true, true, false, false, false, false]) rfl (fun _ _ _ h => h) (fun _ hm => ⟨hm.blkI 0 rfl, hm.fact 0 rfl, hm.fact 1 rfl, hm.fact 2 rfl, hm.fact 3 rfl, hm.fact 4 rfl, trivial⟩) (ov_pick_t rfl rfl) rfl ?_
          refine wa_all [18] (by kernel_rfl) rfl ⟨⟨_, rfl, ?_⟩, trivial⟩
          refine wl_callw rfl cb20 rfl rfl (fun wx hm => (rwhen_any _ _ wx)) ?_
          refine wl_nil ?_
          refine nx_wa0 (listed' := #[true, true, true, true, true, true, true, true, true, true, true, true, true, true, true, true, true, true, true, false, false, false]) rfl (fun _ hm => ⟨hm.blkI 0 rfl, hm.fact 0 rfl, hm.fact 1 rfl, hm.fact 2 rfl, hm.fact 3 rfl, hm.fact 4 rfl, trivial⟩) ?_
          refine wa_all [19] (by kernel_rfl) rfl ⟨⟨_, rfl, ?_⟩, trivial⟩
          refine wl_buildSlice (e := 41) (cs := [.int .i64 (firstE [stockE cs sl, checkE cs l]), .int .i64 (whenE NB 8), .int .i64 (whenE true 1)]) rfl (by kernel_rfl) rfl fun g19 => ?_
          refine wl_nil ?_
          refine nx_wa0 (listed' := #[true, true, true, true, true, true, true, true, true, true, true, true, true, true, true, true, true, true, true, true, false, false]) rfl (fun _ hm => ⟨hm.blkI 1 rfl, hm.fact 0 rfl, hm.fact 1 rfl, hm.fact 2 rfl, hm.fact 3 rfl, hm.fact 4 rfl, trivial⟩) ?_
          refine wa_all [20] (by kernel_rfl) rfl ⟨⟨_, rfl, ?_⟩, trivial⟩
          refine wl_callw (v := .int .i64 E2) rfl cb22 rfl rfl (fun wx hm => (by have h := errs_any [firstE [stockE cs sl, checkE cs l], whenE NB 8, whenE true 1] g19 3 _ wx (hm.blkI 0 rfl) (by simp); rw [show firstE [firstE [stockE cs sl, checkE cs l], whenE NB 8, whenE true 1] = E2 from by rw [htwo, hwv, hSE, hKE]] at h; exact h)) ?_
          refine wl_nil ?_
          refine nx_wa0 (listed' := #[true, true, true, true, true, true, true, true, true, true, true, true, true, true, true, true, true, true, true, true, true, false]) rfl (fun _ hm => ⟨hm.blkI 1 rfl, hm.fact 0 rfl, hm.fact 1 rfl, hm.fact 2 rfl, hm.fact 3 rfl, hm.fact 4 rfl, trivial⟩) ?_
          refine wa_take 21 rfl (by kernel_rfl) (by kernel_rfl) (by kernel_rfl) (listed' := #[true, true, true, true, true, true, true, true, true, true, true, true, true, true, true, true, true, true, true, true, true, true]) rfl (fun _ _ _ h => h) (fun _ hm => ⟨hm.blkI 1 rfl, hm.fact 0 rfl, hm.fact 1 rfl, hm.fact 2 rfl, hm.fact 3 rfl, hm.fact 4 rfl, trivial⟩) (ov_assign rfl) rfl ?_
          refine wa_done (by kernel_rfl) ?_
          exact nx_meet () trivial ⟨rfl, rfl, rfl, rfl, rfl, rfl, rfl, rfl, rfl, rfl, rfl, trivial⟩ (fun _ hm => hm.pick [] [] [0, 1, 2, 3, 4] rfl rfl)
        · refine wa_set 68 rfl (congrArg Value.bool hgd0) ?_
          replace hgd0 := of_decide_eq_false hgd0
          refine wa_take_on 7 rfl rfl rfl (by kernel_rfl) (by kernel_rfl) (by kernel_rfl) (listed' := #[true, true, true, true, true, true, true, true, false, false, false, false, false, false, false, false, false, false, false, false, false, false]) rfl (fun _ _ _ h => h) (fun _ hm => ⟨hm.blkI 0 rfl, hm.fact 0 rfl, hm.fact 1 rfl, hm.fact 2 rfl, hm.fact 3 rfl, hm.fact 4 rfl, trivial⟩) (ov_field fo35_0 rfl rfl) rfl ?_
          refine wa_take_on 8 rfl rfl rfl (by kernel_rfl) (by kernel_rfl) (by kernel_rfl) (listed' := #[true, true, true, true, true, true, true, true, true, false, false, false, false, false, false, false, false, false, false, false, false, false]) rfl (fun _ _ _ h => h) (fun _ hm => ⟨hm.blkI 0 rfl, hm.fact 0 rfl, hm.fact 1 rfl, hm.fact 2 rfl, hm.fact 3 rfl, hm.fact 4 rfl, trivial⟩) (ov_load (v := .int .i64 wa) sc3 rfl (fun _ hm => (hm.2.1).2) rfl) rfl ?_
          refine wa_take_on 9 rfl rfl rfl (by kernel_rfl) (by kernel_rfl) (by kernel_rfl) (listed' := #[true, true, true, true, true, true, true, true, true, true, false, false, false, false, false, false, false, false, false, false, false, false]) rfl (fun _ _ _ h => h) (fun _ hm => ⟨hm.blkI 0 rfl, hm.fact 0 rfl, hm.fact 1 rfl, hm.fact 2 rfl, hm.fact 3 rfl, hm.fact 4 rfl, trivial⟩) (ov_field fo35_1 rfl rfl) rfl ?_
          refine wa_take_on 10 rfl rfl rfl (by kernel_rfl) (by kernel_rfl) (by kernel_rfl) (listed' := #[true, true, true, true, true, true, true, true, true, true, true, false, false, false, false, false, false, false, false, false, false, false]) rfl (fun _ _ _ h => h) (fun _ hm => ⟨hm.blkI 0 rfl, hm.fact 0 rfl, hm.fact 1 rfl, hm.fact 2 rfl, hm.fact 3 rfl, hm.fact 4 rfl, trivial⟩) (ov_load (v := .int .i64 wb) sc3 rfl (fun _ hm => (hm.2.1).2) rfl) rfl ?_
          refine wa_take_on 11 rfl rfl rfl (by kernel_rfl) (by kernel_rfl) (by kernel_rfl) (listed' := #[true, true, true, true, true, true, true, true, true, true, true, true, false, false, false, false, false, false, false, false, false, false]) rfl (fun _ _ _ h => h) (fun _ hm => ⟨hm.blkI 0 rfl, hm.fact 0 rfl, hm.fact 1 rfl, hm.fact 2 rfl, hm.fact 3 rfl, hm.fact 4 rfl, trivial⟩) (ov_geq rfl rfl) rfl ?_
          refine wa_take 12 rfl (by kernel_rfl) (by kernel_rfl) (by kernel_rfl) (listed' := #[true, true, true, true, true, true, true, true, true, true, true, true, true, false, false, false, false, false, false, false, false, false]) rfl (fun _ _ _ h => h) (fun _ hm => ⟨hm.blkI 0 rfl, hm.fact 0 rfl, hm.fact 1 rfl, hm.fact 2 rfl, hm.fact 3 rfl, hm.fact 4 rfl, trivial⟩) (ov_pick_f rfl rfl) rfl ?_
          refine wa_take 13 rfl (by kernel_rfl) (by kernel_rfl) (by kernel_rfl) (listed' := #[true, true, true, true, true, true, true, true, true, true, true, true, true, true, false, false, false, false, false, false, false, false]) rfl (fun _ _ _ h => h) (fun _ hm => ⟨hm.blkI 0 rfl, hm.fact 0 rfl, hm.fact 1 rfl, hm.fact 2 rfl, hm.fact 3 rfl, hm.fact 4 rfl, trivial⟩) (ov_move rfl) rfl ?_
          rcases Bool.eq_false_or_eq_true (decide (wb ≤ wa)) with hgd1 | hgd1
          · refine wa_set 75 rfl (congrArg Value.bool hgd1) ?_
            replace hgd1 := of_decide_eq_true hgd1
            have hwv : WB = true := by rw [hWB]; unfold winB; rw [decide_eq_true hgd1, decide_eq_false hgd0]; rfl
            refine wa_take_off 14 rfl rfl rfl (by decide) (by kernel_rfl) (by kernel_rfl) (by kernel_rfl) (listed' := #[true, true, true, true, true, true, true, true, true, true, true, true, true, true, true, false, false, false, false, false, false, false]) rfl (fun _ _ _ h => h) (fun _ hm => ⟨hm.blkI 0 rfl, hm.fact 0 rfl, hm.fact 1 rfl, hm.fact 2 rfl, hm.fact 3 rfl, hm.fact 4 rfl, trivial⟩) rfl ?_
            refine wa_take_off 15 rfl rfl rfl (by decide) (by kernel_rfl) (by kernel_rfl) (by kernel_rfl) (listed' := #[true, true, true, true, true, true, true, true, true, true, true, true, true, true, true, true, false, false, false, false, false, false]) rfl (fun _ _ _ h => h) (fun _ hm => ⟨hm.blkI 0 rfl, hm.fact 0 rfl, hm.fact 1 rfl, hm.fact 2 rfl, hm.fact 3 rfl, hm.fact 4 rfl, trivial⟩) rfl ?_
            refine wa_take_off 16 rfl rfl rfl (by decide) (by kernel_rfl) (by kernel_rfl) (by kernel_rfl) (listed' := #[true, true, true, true, true, true, true, true, true, true, true, true, true, true, true, true, true, false, false, false, false, false]) rfl (fun _ _ _ h => h) (fun _ hm => ⟨hm.blkI 0 rfl, hm.fact 0 rfl, hm.fact 1 rfl, hm.fact 2 rfl, hm.fact 3 rfl, hm.fact 4 rfl, trivial⟩) rfl ?_
            refine wa_take 17 rfl (by kernel_rfl) (by kernel_rfl) (by kernel_rfl) (listed' := #[true, true, true, true, true, true, true, true, true, true, true, true, true, true, true, true, true, true, false, false, false, false]) rfl (fun _ _ _ h => h) (fun _ hm => ⟨hm.blkI 0 rfl, hm.fact 0 rfl, hm.fact 1 rfl, hm.fact 2 rfl, hm.fact 3 rfl, hm.fact 4 rfl, trivial⟩) (ov_pick_t rfl rfl) rfl ?_
            refine wa_all [18] (by kernel_rfl) rfl ⟨⟨_, rfl, ?_⟩, trivial⟩
            refine wl_callw rfl cb20 rfl rfl (fun wx hm => (rwhen_any _ _ wx)) ?_
            refine wl_nil ?_
            refine nx_wa0 (listed' := #[true, true, true, true, true, true, true, true, true, true, true, true, true, true, true, true, true, true, true, false, false, false]) rfl (fun _ hm => ⟨hm.blkI 0 rfl, hm.fact 0 rfl, hm.fact 1 rfl, hm.fact 2 rfl, hm.fact 3 rfl, hm.fact 4 rfl, trivial⟩) ?_
            refine wa_all [19] (by kernel_rfl) rfl ⟨⟨_, rfl, ?_⟩, trivial⟩
            refine wl_buildSlice (e := 41) (cs := [.int .i64 (firstE [stockE cs sl, checkE cs l]), .int .i64 (whenE NB 8), .int .i64 (whenE true 1)]) rfl (by kernel_rfl) rfl fun g20 => ?_
            refine wl_nil ?_
            refine nx_wa0 (listed' := #[true, true, true, true, true, true, true, true, true, true, true, true, true, true, true, true, true, true, true, true, false, false]) rfl (fun _ hm => ⟨hm.blkI 1 rfl, hm.fact 0 rfl, hm.fact 1 rfl, hm.fact 2 rfl, hm.fact 3 rfl, hm.fact 4 rfl, trivial⟩) ?_
            refine wa_all [20] (by kernel_rfl) rfl ⟨⟨_, rfl, ?_⟩, trivial⟩
            refine wl_callw (v := .int .i64 E2) rfl cb22 rfl rfl (fun wx hm => (by have h := errs_any [firstE [stockE cs sl, checkE cs l], whenE NB 8, whenE true 1] g20 3 _ wx (hm.blkI 0 rfl) (by simp); rw [show firstE [firstE [stockE cs sl, checkE cs l], whenE NB 8, whenE true 1] = E2 from by rw [htwo, hwv, hSE, hKE]] at h; exact h)) ?_
            refine wl_nil ?_
            refine nx_wa0 (listed' := #[true, true, true, true, true, true, true, true, true, true, true, true, true, true, true, true, true, true, true, true, true, false]) rfl (fun _ hm => ⟨hm.blkI 1 rfl, hm.fact 0 rfl, hm.fact 1 rfl, hm.fact 2 rfl, hm.fact 3 rfl, hm.fact 4 rfl, trivial⟩) ?_
            refine wa_take 21 rfl (by kernel_rfl) (by kernel_rfl) (by kernel_rfl) (listed' := #[true, true, true, true, true, true, true, true, true, true, true, true, true, true, true, true, true, true, true, true, true, true]) rfl (fun _ _ _ h => h) (fun _ hm => ⟨hm.blkI 1 rfl, hm.fact 0 rfl, hm.fact 1 rfl, hm.fact 2 rfl, hm.fact 3 rfl, hm.fact 4 rfl, trivial⟩) (ov_assign rfl) rfl ?_
            refine wa_done (by kernel_rfl) ?_
            exact nx_meet () trivial ⟨rfl, rfl, rfl, rfl, rfl, rfl, rfl, rfl, rfl, rfl, rfl, trivial⟩ (fun _ hm => hm.pick [] [] [0, 1, 2, 3, 4] rfl rfl)
          · refine wa_set 75 rfl (congrArg Value.bool hgd1) ?_
            replace hgd1 := of_decide_eq_false hgd1
            have hwv : WB = decide (5761439 < wb) := by rw [hWB]; unfold winB; rw [decide_eq_false hgd0, decide_eq_false hgd1]; rfl
            refine wa_take_on 14 rfl rfl rfl (by kernel_rfl) (by kernel_rfl) (by kernel_rfl) (listed' := #[true, true, true, true, true, true, true, true, true, true, true, true, true, true, true, false, false, false, false, false, false, false]) rfl (fun _ _ _ h => h) (fun _ hm => ⟨hm.blkI 0 rfl, hm.fact 0 rfl, hm.fact 1 rfl, hm.fact 2 rfl, hm.fact 3 rfl, hm.fact 4 rfl, trivial⟩) (ov_field fo35_1 rfl rfl) rfl ?_
            refine wa_take_on 15 rfl rfl rfl (by kernel_rfl) (by kernel_rfl) (by kernel_rfl) (listed' := #[true, true, true, true, true, true, true, true, true, true, true, true, true, true, true, true, false, false, false, false, false, false]) rfl (fun _ _ _ h => h) (fun _ hm => ⟨hm.blkI 0 rfl, hm.fact 0 rfl, hm.fact 1 rfl, hm.fact 2 rfl, hm.fact 3 rfl, hm.fact 4 rfl, trivial⟩) (ov_load (v := .int .i64 wb) sc3 rfl (fun _ hm => (hm.2.1).2) rfl) rfl ?_
            refine wa_take_on 16 rfl rfl rfl (by kernel_rfl) (by kernel_rfl) (by kernel_rfl) (listed' := #[true, true, true, true, true, true, true, true, true, true, true, true, true, true, true, true, true, false, false, false, false, false]) rfl (fun _ _ _ h => h) (fun _ hm => ⟨hm.blkI 0 rfl, hm.fact 0 rfl, hm.fact 1 rfl, hm.fact 2 rfl, hm.fact 3 rfl, hm.fact 4 rfl, trivial⟩) (ov_gtr rfl rfl) rfl ?_
            refine wa_take 17 rfl (by kernel_rfl) (by kernel_rfl) (by kernel_rfl) (listed' := #[true, true, true, true, true, true, true, true, true, true, true, true, true, true, true, true, true, true, false, false, false, false]) rfl (fun _ _ _ h => h) (fun _ hm => ⟨hm.blkI 0 rfl, hm.fact 0 rfl, hm.fact 1 rfl, hm.fact 2 rfl, hm.fact 3 rfl, hm.fact 4 rfl, trivial⟩) (ov_pick_f rfl rfl) rfl ?_
            refine wa_all [18] (by kernel_rfl) rfl ⟨⟨_, rfl, ?_⟩, trivial⟩
            refine wl_callw rfl cb20 rfl rfl (fun wx hm => (rwhen_any _ _ wx)) ?_
            refine wl_nil ?_
            refine nx_wa0 (listed' := #[true, true, true, true, true, true, true, true, true, true, true, true, true, true, true, true, true, true, true, false, false, false]) rfl (fun _ hm => ⟨hm.blkI 0 rfl, hm.fact 0 rfl, hm.fact 1 rfl, hm.fact 2 rfl, hm.fact 3 rfl, hm.fact 4 rfl, trivial⟩) ?_
            refine wa_all [19] (by kernel_rfl) rfl ⟨⟨_, rfl, ?_⟩, trivial⟩
            refine wl_buildSlice (e := 41) (cs := [.int .i64 (firstE [stockE cs sl, checkE cs l]), .int .i64 (whenE NB 8), .int .i64 (whenE (decide (5761439 < wb)) 1)]) rfl (by kernel_rfl) rfl fun g21 => ?_
            refine wl_nil ?_
            refine nx_wa0 (listed' := #[true, true, true, true, true, true, true, true, true, true, true, true, true, true, true, true, true, true, true, true, false, false]) rfl (fun _ hm => ⟨hm.blkI 1 rfl, hm.fact 0 rfl, hm.fact 1 rfl, hm.fact 2 rfl, hm.fact 3 rfl, hm.fact 4 rfl, trivial⟩) ?_
            refine wa_all [20] (by kernel_rfl) rfl ⟨⟨_, rfl, ?_⟩, trivial⟩
            refine wl_callw (v := .int .i64 E2) rfl cb22 rfl rfl (fun wx hm => (by have h := errs_any [firstE [stockE cs sl, checkE cs l], whenE NB 8, whenE (decide (5761439 < wb)) 1] g21 3 _ wx (hm.blkI 0 rfl) (by simp); rw [show firstE [firstE [stockE cs sl, checkE cs l], whenE NB 8, whenE (decide (5761439 < wb)) 1] = E2 from by rw [htwo, hwv, hSE, hKE]] at h; exact h)) ?_
            refine wl_nil ?_
            refine nx_wa0 (listed' := #[true, true, true, true, true, true, true, true, true, true, true, true, true, true, true, true, true, true, true, true, true, false]) rfl (fun _ hm => ⟨hm.blkI 1 rfl, hm.fact 0 rfl, hm.fact 1 rfl, hm.fact 2 rfl, hm.fact 3 rfl, hm.fact 4 rfl, trivial⟩) ?_
            refine wa_take 21 rfl (by kernel_rfl) (by kernel_rfl) (by kernel_rfl) (listed' := #[true, true, true, true, true, true, true, true, true, true, true, true, true, true, true, true, true, true, true, true, true, true]) rfl (fun _ _ _ h => h) (fun _ hm => ⟨hm.blkI 1 rfl, hm.fact 0 rfl, hm.fact 1 rfl, hm.fact 2 rfl, hm.fact 3 rfl, hm.fact 4 rfl, trivial⟩) (ov_assign rfl) rfl ?_
            refine wa_done (by kernel_rfl) ?_
            exact nx_meet () trivial ⟨rfl, rfl, rfl, rfl, rfl, rfl, rfl, rfl, rfl, rfl, rfl, trivial⟩ (fun _ hm => hm.pick [] [] [0, 1, 2, 3, 4] rfl rfl)
      · intro u_ hinv
        replace hinv : True := hinv
        refine gw_seq ?_
        refine gw_seq ?_
        refine gw_draw (fun wz => (BlkOld w2.heap.size none g5 35 [.int .i64 wa, .int .i64 wb]) wz ∧ (BlkOld w2.heap.size none g4 54 [.slice A0 4 c0, .slice A1 n1 c1, .slice A n c, .int .i64 (stockE cs sl), .int .i64 (checkE cs l)]) wz ∧ (SlOld csEnc 2 135 w2.heap.size none A0 4 cs) wz ∧ (SlOld skEnc 2 139 w2.heap.size none A1 n1 sl) wz ∧ (SlOld bkEnc 6 142 w2.heap.size none A n l) wz ∧ True) mixed ?_
        refine wa_take 0 rfl (by kernel_rfl) (by kernel_rfl) (by kernel_rfl) (listed' := #[true, false, false, false, false, false, false, false, false, false, false, false, false, false, false, false, false, false, false, false, false, false, false, false, false, false, false, false]) rfl (fun _ _ _ h => h) (fun _ hm => ⟨hm.fact 0 rfl, hm.fact 1 rfl, hm.fact 2 rfl, hm.fact 3 rfl, hm.fact 4 rfl, trivial⟩) (ov_field fo54_0 rfl rfl) rfl ?_
        refine wa_take 1 rfl (by kernel_rfl) (by kernel_rfl) (by kernel_rfl) (listed' := #[true, true, false, false, false, false, false, false, false, false, false, false, false, false, false, false, false, false, false, false, false, false, false, false, false, false, false, false]) rfl (fun _ _ _ h => h) (fun _ hm => ⟨hm.fact 0 rfl, hm.fact 1 rfl, hm.fact 2 rfl, hm.fact 3 rfl, hm.fact 4 rfl, trivial⟩) (ov_load (v := .slice A0 4 c0) sc50 rfl (fun _ hm => (hm.2.1).2) rfl) rfl ?_
        refine wa_take 2 rfl (by kernel_rfl) (by kernel_rfl) (by kernel_rfl) (listed' := #[true, true, true, false, false, false, false, false, false, false, false, false, false, false, false, false, false, false, false, false, false, false, false, false, false, false, false, false]) rfl (fun _ _ _ h => h) (fun _ hm => ⟨hm.fact 0 rfl, hm.fact 1 rfl, hm.fact 2 rfl, hm.fact 3 rfl, hm.fact 4 rfl, trivial⟩) (ov_field fo54_2 rfl rfl) rfl ?_
        refine wa_take 3 rfl (by kernel_rfl) (by kernel_rfl) (by kernel_rfl) (listed' := #[true, true, true, true, false, false, false, false, false, false, false, false, false, false, false, false, false, false, false, false, false, false, false, false, false, false, false, false]) rfl (fun _ _ _ h => h) (fun _ hm => ⟨hm.fact 0 rfl, hm.fact 1 rfl, hm.fact 2 rfl, hm.fact 3 rfl, hm.fact 4 rfl, trivial⟩) (ov_load (v := .slice A n c) sc52 rfl (fun _ hm => (hm.2.1).2) rfl) rfl ?_
        refine wa_take 5 rfl (by kernel_rfl) (by kernel_rfl) (by kernel_rfl) (listed' := #[true, true, true, true, false, true, false, false, false, false, false, false, false, false, false, false, false, false, false, false, false, false, false, false, false, false, false, false]) rfl (fun _ _ _ h => h) (fun _ hm => ⟨hm.fact 0 rfl, hm.fact 1 rfl, hm.fact 2 rfl, hm.fact 3 rfl, hm.fact 4 rfl, trivial⟩) (ov_field fo54_4 rfl rfl) rfl ?_
        refine wa_take 6 rfl (by kernel_rfl) (by kernel_rfl) (by kernel_rfl) (listed' := #[true, true, true, true, false, true, true, false, false, false, false, false, false, false, false, false, false, false, false, false, false, false, false, false, false, false, false, false]) rfl (fun _ _ _ h => h) (fun _ hm => ⟨hm.fact 0 rfl, hm.fact 1 rfl, hm.fact 2 rfl, hm.fact 3 rfl, hm.fact 4 rfl, trivial⟩) (ov_load (v := .int .i64 (checkE cs l)) sc41 rfl (fun _ hm => (hm.2.1).2) rfl) rfl ?_
        refine wa_all [4] (by kernel_rfl) rfl ⟨⟨_, rfl, ?_⟩, trivial⟩
        refine wl_callv (v := .int .i64 KE) rfl cb24 rfl rfl (fun wx hm => (by rw [hKE]; exact bcheck_any cs A0 4 c0 l A n c wx (hm.fact 2 rfl).1 hco (by omega) (hm.fact 4 rfl).1 hok (by omega))) ?_
        refine wl_nil ?_
        refine nx_wa0 (listed' := #[true, true, true, true, true, true, true, false, false, false, false, false, false, false, false, false, false, false, false, false, false, false, false, false, false, false, false, false]) rfl (fun _ hm => ⟨hm.fact 0 rfl, hm.fact 1 rfl, hm.fact 2 rfl, hm.fact 3 rfl, hm.fact 4 rfl, trivial⟩) ?_
        refine wa_take 7 rfl (by kernel_rfl) (by kernel_rfl) (by kernel_rfl) (listed' := #[true, true, true, true, true, true, true, true, false, false, false, false, false, false, false, false, false, false, false, false, false, false, false, false, false, false, false, false]) rfl (fun _ _ _ h => h) (fun _ hm => ⟨hm.fact 0 rfl, hm.fact 1 rfl, hm.fact 2 rfl, hm.fact 3 rfl, hm.fact 4 rfl, trivial⟩) (ov_neq rfl rfl) rfl ?_
        refine wa_set 90 (v' := .bool false) rfl (congrArg Value.bool (by simp [hKE])) ?_
        refine wa_take 8 rfl (by kernel_rfl) (by kernel_rfl) (by kernel_rfl) (listed' := #[true, true, true, true, true, true, true, true, true, false, false, false, false, false, false, false, false, false, false, false, false, false, false, false, false, false, false, false]) rfl (fun _ _ _ h => h) (fun _ hm => ⟨hm.fact 0 rfl, hm.fact 1 rfl, hm.fact 2 rfl, hm.fact 3 rfl, hm.fact 4 rfl, trivial⟩) (ov_move rfl) rfl ?_
        refine wa_take_on 9 rfl rfl rfl (by kernel_rfl) (by kernel_rfl) (by kernel_rfl) (listed' := #[true, true, true, true, true, true, true, true, true, true, false, false, false, false, false, false, false, false, false, false, false, false, false, false, false, false, false, false]) rfl (fun _ _ _ h => h) (fun _ hm => ⟨hm.fact 0 rfl, hm.fact 1 rfl, hm.fact 2 rfl, hm.fact 3 rfl, hm.fact 4 rfl, trivial⟩) (ov_field fo54_0 rfl rfl) rfl ?_
        refine wa_take_on 10 rfl rfl rfl (by kernel_rfl) (by kernel_rfl) (by kernel_rfl) (listed' := #[true, true, true, true, true, true, true, true, true, true, true, false, false, false, false, false, false, false, false, false, false, false, false, false, false, false, false, false]) rfl (fun _ _ _ h => h) (fun _ hm => ⟨hm.fact 0 rfl, hm.fact 1 rfl, hm.fact 2 rfl, hm.fact 3 rfl, hm.fact 4 rfl, trivial⟩) (ov_load (v := .slice A0 4 c0) sc50 rfl (fun _ hm => (hm.2.1).2) rfl) rfl ?_
        refine wa_take_on 11 rfl rfl rfl (by kernel_rfl) (by kernel_rfl) (by kernel_rfl) (listed' := #[true, true, true, true, true, true, true, true, true, true, true, true, false, false, false, false, false, false, false, false, false, false, false, false, false, false, false, false]) rfl (fun _ _ _ h => h) (fun _ hm => ⟨hm.fact 0 rfl, hm.fact 1 rfl, hm.fact 2 rfl, hm.fact 3 rfl, hm.fact 4 rfl, trivial⟩) (ov_field fo54_1 rfl rfl) rfl ?_
        refine wa_take_on 12 rfl rfl rfl (by kernel_rfl) (by kernel_rfl) (by kernel_rfl) (listed' := #[true, true, true, true, true, true, true, true, true, true, true, true, true, false, false, false, false, false, false, false, false, false, false, false, false, false, false, false]) rfl (fun _ _ _ h => h) (fun _ hm => ⟨hm.fact 0 rfl, hm.fact 1 rfl, hm.fact 2 rfl, hm.fact 3 rfl, hm.fact 4 rfl, trivial⟩) (ov_load (v := .slice A1 n1 c1) sc51 rfl (fun _ hm => (hm.2.1).2) rfl) rfl ?_
        refine wa_take_on 14 rfl rfl rfl (by kernel_rfl) (by kernel_rfl) (by kernel_rfl) (listed' := #[true, true, true, true, true, true, true, true, true, true, true, true, true, false, true, false, false, false, false, false, false, false, false, false, false, false, false, false]) rfl (fun _ _ _ h => h) (fun _ hm => ⟨hm.fact 0 rfl, hm.fact 1 rfl, hm.fact 2 rfl, hm.fact 3 rfl, hm.fact 4 rfl, trivial⟩) (ov_field fo54_3 rfl rfl) rfl ?_
        refine wa_take_on 15 rfl rfl rfl (by kernel_rfl) (by kernel_rfl) (by kernel_rfl) (listed' := #[true, true, true, true, true, true, true, true, true, true, true, true, true, false, true, true, false, false, false, false, false, false, false, false, false, false, false, false]) rfl (fun _ _ _ h => h) (fun _ hm => ⟨hm.fact 0 rfl, hm.fact 1 rfl, hm.fact 2 rfl, hm.fact 3 rfl, hm.fact 4 rfl, trivial⟩) (ov_load (v := .int .i64 (stockE cs sl)) sc41 rfl (fun _ hm => (hm.2.1).2) rfl) rfl ?_
        refine wa_all [13] (by kernel_rfl) rfl ⟨⟨_, rfl, ?_⟩, trivial⟩
        refine wl_guard_on rfl rfl rfl ?_
        refine wl_callv (v := .int .i64 SE) rfl cb25 rfl rfl (fun wx hm => (by rw [hSE]; exact checkStock_any cs A0 4 c0 sl A1 n1 c1 wx (hm.fact 2 rfl).1 hco (by omega) (hm.fact 3 rfl).1 hso (by omega))) ?_
        refine wl_nil ?_
        refine nx_wa0 (listed' := #[true, true, true, true, true, true, true, true, true, true, true, true, true, true, true, true, false, false, false, false, false, false, false, false, false, false, false, false]) rfl (fun _ hm => ⟨hm.fact 0 rfl, hm.fact 1 rfl, hm.fact 2 rfl, hm.fact 3 rfl, hm.fact 4 rfl, trivial⟩) ?_
        refine wa_take_on 16 rfl rfl rfl (by kernel_rfl) (by kernel_rfl) (by kernel_rfl) (listed' := #[true, true, true, true, true, true, true, true, true, true, true, true, true, true, true, true, true, false, false, false, false, false, false, false, false, false, false, false]) rfl (fun _ _ _ h => h) (fun _ hm => ⟨hm.fact 0 rfl, hm.fact 1 rfl, hm.fact 2 rfl, hm.fact 3 rfl, hm.fact 4 rfl, trivial⟩) (ov_neq rfl rfl) rfl ?_
        refine wa_set 99 (v' := .bool false) rfl (congrArg Value.bool (by simp [hSE])) ?_
        refine wa_take 17 rfl (by kernel_rfl) (by kernel_rfl) (by kernel_rfl) (listed' := #[true, true, true, true, true, true, true, true, true, true, true, true, true, true, true, true, true, true, false, false, false, false, false, false, false, false, false, false]) rfl (fun _ _ _ h => h) (fun _ hm => ⟨hm.fact 0 rfl, hm.fact 1 rfl, hm.fact 2 rfl, hm.fact 3 rfl, hm.fact 4 rfl, trivial⟩) (ov_pick_f rfl rfl) rfl ?_
        refine wa_take 18 rfl (by kernel_rfl) (by kernel_rfl) (by kernel_rfl) (listed' := #[true, true, true, true, true, true, true, true, true, true, true, true, true, true, true, true, true, true, true, false, false, false, false, false, false, false, false, false]) rfl (fun _ _ _ h => h) (fun _ hm => ⟨hm.fact 0 rfl, hm.fact 1 rfl, hm.fact 2 rfl, hm.fact 3 rfl, hm.fact 4 rfl, trivial⟩) (ov_move rfl) rfl ?_
        refine wa_take_on 19 rfl rfl rfl (by kernel_rfl) (by kernel_rfl) (by kernel_rfl) (listed' := #[true, true, true, true, true, true, true, true, true, true, true, true, true, true, true, true, true, true, true, true, false, false, false, false, false, false, false, false]) rfl (fun _ _ _ h => h) (fun _ hm => ⟨hm.fact 0 rfl, hm.fact 1 rfl, hm.fact 2 rfl, hm.fact 3 rfl, hm.fact 4 rfl, trivial⟩) (ov_move rfl) rfl ?_
        refine wa_take_on 20 rfl rfl rfl (by kernel_rfl) (by kernel_rfl) (by kernel_rfl) (listed' := #[true, true, true, true, true, true, true, true, true, true, true, true, true, true, true, true, true, true, true, true, true, false, false, false, false, false, false, false]) rfl (fun _ _ _ h => h) (fun _ hm => ⟨hm.fact 0 rfl, hm.fact 1 rfl, hm.fact 2 rfl, hm.fact 3 rfl, hm.fact 4 rfl, trivial⟩) (ov_move rfl) rfl ?_
        refine wa_take_on 21 rfl rfl rfl (by kernel_rfl) (by kernel_rfl) (by kernel_rfl) (listed' := #[true, true, true, true, true, true, true, true, true, true, true, true, true, true, true, true, true, true, true, true, true, true, false, false, false, false, false, false]) rfl (fun _ _ _ h => h) (fun _ hm => ⟨hm.fact 0 rfl, hm.fact 1 rfl, hm.fact 2 rfl, hm.fact 3 rfl, hm.fact 4 rfl, trivial⟩) (ov_neq rfl rfl) rfl ?_
        refine wa_set 104 (v' := .bool false) rfl (congrArg Value.bool (by simp)) ?_
        refine wa_take 22 rfl (by kernel_rfl) (by kernel_rfl) (by kernel_rfl) (listed' := #[true, true, true, true, true, true, true, true, true, true, true, true, true, true, true, true, true, true, true, true, true, true, true, false, false, false, false, false]) rfl (fun _ _ _ h => h) (fun _ hm => ⟨hm.fact 0 rfl, hm.fact 1 rfl, hm.fact 2 rfl, hm.fact 3 rfl, hm.fact 4 rfl, trivial⟩) (ov_pick_f rfl rfl) rfl ?_
        refine wa_take 23 rfl (by kernel_rfl) (by kernel_rfl) (by kernel_rfl) (listed' := #[true, true, true, true, true, true, true, true, true, true, true, true, true, true, true, true, true, true, true, true, true, true, true, true, false, false, false, false]) rfl (fun _ _ _ h => h) (fun _ hm => ⟨hm.fact 0 rfl, hm.fact 1 rfl, hm.fact 2 rfl, hm.fact 3 rfl, hm.fact 4 rfl, trivial⟩) (ov_move rfl) rfl ?_
        refine wa_take_on 24 rfl rfl rfl (by kernel_rfl) (by kernel_rfl) (by kernel_rfl) (listed' := #[true, true, true, true, true, true, true, true, true, true, true, true, true, true, true, true, true, true, true, true, true, true, true, true, true, false, false, false]) rfl (fun _ _ _ h => h) (fun _ hm => ⟨hm.fact 0 rfl, hm.fact 1 rfl, hm.fact 2 rfl, hm.fact 3 rfl, hm.fact 4 rfl, trivial⟩) (ov_move rfl) rfl ?_
        refine wa_take_on 25 rfl rfl rfl (by kernel_rfl) (by kernel_rfl) (by kernel_rfl) (listed' := #[true, true, true, true, true, true, true, true, true, true, true, true, true, true, true, true, true, true, true, true, true, true, true, true, true, true, false, false]) rfl (fun _ _ _ h => h) (fun _ hm => ⟨hm.fact 0 rfl, hm.fact 1 rfl, hm.fact 2 rfl, hm.fact 3 rfl, hm.fact 4 rfl, trivial⟩) (ov_move rfl) rfl ?_
        refine wa_take_on 26 rfl rfl rfl (by kernel_rfl) (by kernel_rfl) (by kernel_rfl) (listed' := #[true, true, true, true, true, true, true, true, true, true, true, true, true, true, true, true, true, true, true, true, true, true, true, true, true, true, true, false]) rfl (fun _ _ _ h => h) (fun _ hm => ⟨hm.fact 0 rfl, hm.fact 1 rfl, hm.fact 2 rfl, hm.fact 3 rfl, hm.fact 4 rfl, trivial⟩) (ov_neq rfl rfl) rfl ?_
        refine wa_set 109 (v' := .bool false) rfl (congrArg Value.bool (by simp)) ?_
        refine wa_take 27 rfl (by kernel_rfl) (by kernel_rfl) (by kernel_rfl) (listed' := #[true, true, true, true, true, true, true, true, true, true, true, true, true, true, true, true, true, true, true, true, true, true, true, true, true, true, true, true]) rfl (fun _ _ _ h => h) (fun _ hm => ⟨hm.fact 0 rfl, hm.fact 1 rfl, hm.fact 2 rfl, hm.fact 3 rfl, hm.fact 4 rfl, trivial⟩) (ov_pick_f rfl rfl) rfl ?_
        refine wa_done (by kernel_rfl) ?_
        refine nx_then ?_
        refine gw_cond rfl (fun hh => by cases hh) (fun _ => ?_)
        refine gw_skip ?_
        refine nx_then ?_
        refine gw_seq ?_
        refine gw_region ?_
        refine wl_ov (ov_assign rfl) rfl ?_
        refine wl_ov (ov_assign rfl) rfl ?_
        refine wl_ov (ov_assign rfl) rfl ?_
        refine wl_nil ?_
        refine nx_then ?_
        refine gw_seq ?_
        refine gw_seq ?_
        refine gw_region ?_
        refine wl_ov (ov_move rfl) rfl ?_
        refine wl_ov (ov_eql rfl rfl) rfl ?_
        refine wl_set 112 (v' := .bool false) rfl (congrArg Value.bool (decide_eq_false h1)) ?_
        refine wl_nil ?_
        refine nx_then ?_
        refine gw_cond rfl (fun hh => by cases hh) (fun _ => ?_)
        refine gw_skip ?_
        refine nx_then ?_
        refine gw_seq ?_
        refine gw_seq ?_
        refine gw_region ?_
        refine wl_ov (ov_move rfl) rfl ?_
        refine wl_ov (ov_eql rfl rfl) rfl ?_
        refine wl_set 121 (v' := .bool false) rfl (congrArg Value.bool (decide_eq_false h2)) ?_
        refine wl_nil ?_
        refine nx_then ?_
        refine gw_cond rfl (fun hh => by cases hh) (fun _ => ?_)
        refine gw_skip ?_
        refine nx_then ?_
        refine gw_seq ?_
        refine gw_region ?_
        refine wl_ov (ov_move rfl) rfl ?_
        refine wl_ov (ov_move rfl) rfl ?_
        refine wl_ov (ov_eql rfl rfl) rfl ?_
        refine wl_set 131 (v' := .bool true) rfl (congrArg Value.bool (by simp)) ?_
        refine wl_ov (ov_move rfl) rfl ?_
        refine wl_guard_on rfl rfl rfl ?_
        refine wl_ov (ov_move rfl) rfl ?_
        refine wl_guard_on rfl rfl rfl ?_
        refine wl_ov (ov_move rfl) rfl ?_
        refine wl_guard_on rfl rfl rfl ?_
        refine wl_ov (ov_eql rfl rfl) rfl ?_
        refine wl_set 135 (v' := .bool true) rfl (congrArg Value.bool (by simp)) ?_
        refine wl_ov (ov_pick_t rfl rfl) rfl ?_
        refine wl_ov (ov_move rfl) rfl ?_
        refine wl_guard_on rfl rfl rfl ?_
        refine wl_ov (ov_move rfl) rfl ?_
        refine wl_guard_on rfl rfl rfl ?_
        refine wl_ov (ov_move rfl) rfl ?_
        refine wl_guard_on rfl rfl rfl ?_
        refine wl_ov (ov_eql rfl rfl) rfl ?_
        refine wl_set 140 (v' := .bool true) rfl (congrArg Value.bool (by simp)) ?_
        refine wl_ov (ov_pick_t rfl rfl) rfl ?_
        refine wl_ov (ov_move rfl) rfl ?_
        refine wl_guard_on rfl rfl rfl ?_
        refine wl_callv rfl cb28 rfl rfl (fun wx hm => (booked_any wx)) ?_
        refine wl_ov (ov_pick_t rfl rfl) rfl ?_
        refine wl_ov (ov_assign rfl) rfl ?_
        refine wl_nil ?_
        refine nx_then ?_
        refine gw_ret ?_
        refine nx_ret1 rfl rfl fun wx hm => ?_
        exact ⟨rfl, law_end hg1 hsb (grow_trans hm_w2.g (grow_weak hm.g))⟩

end Go.Proofs.YtcggbojhalbkjaaGreatDoor
