/- The generator Bookings. -/
import Derived.Test.YtcggbojhalbkjaaGreatDoorSw
import Derived.Test.YtcggbojhalbkjaaGreatDoorFm
import Derived.Test.YtcggbojhalbkjaaGreatDoorGb
import Derived.Test.YtcggbojhalbkjaaGreatDoorSe
namespace Go.Proofs.YtcggbojhalbkjaaGreatDoor
open Go.RowKit

theorem bk_snoc {l : List Bk} {x : Bk} (h : ∀ y ∈ l, BkOk y) (h1 : x.key.size ≤ 1000000) (h2 : x.cls.size ≤ 1000000) : ∀ y ∈ l ++ [x], BkOk y := fun y hy => by
  rcases List.mem_append.1 hy with hy | hy
  · exact h y hy
  · rw [List.mem_singleton.1 hy]; exact ⟨h1, h2⟩
theorem bk_set {l : List Bk} {x : Bk} {j : Nat} (h : ∀ y ∈ l, BkOk y) (h1 : x.key.size ≤ 1000000) (h2 : x.cls.size ≤ 1000000) : ∀ y ∈ l.set j x, BkOk y := fun y hy => by
  rcases List.mem_or_eq_of_mem_set hy with hy | rfl
  · exact h y hy
  · exact ⟨h1, h2⟩
set_option maxRecDepth 100000 in
set_option maxHeartbeats 2000000 in
theorem gbookings_own (q : Nat) (w : World) (B sb m : Nat) (hS : Strm 25 w B sb m) (hm : m ≤ 100000000) (hq : q ≤ 9) :
    Calls Tryz.prog 79 #[.pointer (some ⟨sb, 0, none⟩), .int .i64 ((q : Nat) : Int)] w (fun e w' => ∃ (A : Option Addr) (n c : Nat) (l : List Bk), e = .returned (.slice A n c) ∧ w'.ownsRow w.heap.size 142 6 (.slice A n c) n (l.flatMap bkEnc) ∧ l.length = n ∧ (∀ x ∈ l, BkOk x) ∧ n ≤ 9 ∧ n ≤ c ∧ Strm 25 w' B sb (m + 1000) ∧ w.grownBy w' (some sb)) := by
  refine gw_enter ⟨99, w, (some sb), []⟩ Tryz.func79 rfl Tryz.ntmps79 rfl (memS (X := []) hS allF_nil allL_nil) ?_
  refine gw_seq ?_
  refine gw_region ?_
  refine wl_nilOwn 142 6 ?_
  refine wl_ov (ov_assign rfl) rfl ?_
  refine wl_nil ?_
  refine nx_then ?_
  refine gw_seq ?_
  refine gw_region ?_
  refine wl_ov (ov_assign rfl) rfl ?_
  refine wl_nil ?_
  refine nx_then ?_
  refine gw_seq ?_
  refine gw_seq ?_
  refine gw_region ?_
  refine wl_buildSlice (e := 9) (cs := [.string ⟨#[98, 97]⟩, .string ⟨#[98, 98]⟩, .string ⟨#[98, 99]⟩, .string ⟨#[98, 100]⟩, .string ⟨#[98, 101]⟩, .string ⟨#[98, 102]⟩, .string ⟨#[98, 103]⟩, .string ⟨#[98, 104]⟩, .string ⟨#[98, 105]⟩]) rfl (by kernel_rfl) rfl fun g1 => ?_
  refine wl_ov (ov_move rfl) rfl ?_
  refine wl_ov (ov_min rfl rfl) rfl ?_
  refine wl_set 12 (v' := .int .i64 ((q : Nat) : Int)) rfl (congrArg (Value.int .i64) (by omega)) ?_
  refine wl_ov (ov_sliceHi (hi := q) es36 rfl rfl rfl (by omega)) rfl ?_
  refine wl_ov (ov_len es36 rfl) rfl ?_
  refine wl_ov (ov_move rfl) rfl ?_
  refine wl_nil ?_
  refine nx_then ?_
  refine gw_block ?_
  refine gw_loop (γ := Nat × Value × List Bk × List Value) (fun (g : Nat × Value × List Bk × List Value) => g.1 ≤ q ∧ g.2.2.1.length = g.1 ∧ (∀ x ∈ g.2.2.1, BkOk x) ∧ (g.2.1 = .slice none 0 0 ∨ 0 < g.1) ∧ g.2.2.2 = g.2.2.1.flatMap bkEnc) (fun (g : Nat × Value × List Bk × List Value) => [(0, .pointer (some ⟨sb, 0, none⟩)), (4, .slice none 0 0), (5, g.2.1), (13, .slice (some ⟨g1, 0, none⟩) q 9), (14, .int .i64 ((q : Nat) : Int)), (15, .int .i64 ((g.1 : Nat) : Int))]) (fun (g : Nat × Value × List Bk × List Value) => fun w => Strm 25 w B sb (m + 20 * g.1)) (fun (g : Nat × Value × List Bk × List Value) => [(g1, 9, [.string ⟨#[98, 97]⟩, .string ⟨#[98, 98]⟩, .string ⟨#[98, 99]⟩, .string ⟨#[98, 100]⟩, .string ⟨#[98, 101]⟩, .string ⟨#[98, 102]⟩, .string ⟨#[98, 103]⟩, .string ⟨#[98, 104]⟩, .string ⟨#[98, 105]⟩])]) (fun (g : Nat × Value × List Bk × List Value) => [⟨g.2.1, 142, 6, g.1, g.2.2.2⟩]) (fun (g : Nat × Value × List Bk × List Value) => []) (fun (g : Nat × Value × List Bk × List Value) => q - g.1) (0, .slice none 0 0, [], []) ⟨Nat.zero_le _, rfl, (fun _ h => by cases h), .inl rfl, rfl⟩ ⟨rfl, rfl, rfl, rfl, rfl, rfl, trivial⟩ (fun _ hm => (hm.more rfl (by first | omega | (dsimp only; omega))).pick [0] [0] [] rfl rfl) ?_
  rintro ⟨k, v, l, xs⟩ hinv
  replace hinv : k ≤ q ∧ l.length = k ∧ (∀ x ∈ l, BkOk x) ∧ (v = .slice none 0 0 ∨ 0 < k) ∧ xs = l.flatMap bkEnc := hinv
  dsimp only
  refine gw_seq ?_
  refine gw_region ?_
  obtain ⟨hi0, hi2, hi3, hi4, rfl⟩ := hinv
  refine wl_ov (ov_lss rfl rfl) rfl ?_
  refine wl_nil ?_
  refine nx_then ?_
  refine gw_seq ?_
  refine gw_cond rfl (fun hh => ?_) (fun hh => ?_)
  · have hk : ((k : Nat) : Int) < ((q : Nat) : Int) := by simpa using hh
    clear hh
    refine gw_skip ?_
    refine nx_then ?_
    refine gw_seq ?_
    refine gw_block ?_
    refine gw_seq ?_
    refine gw_region ?_
    obtain ⟨nm, hx⟩ : ∃ x, ([⟨#[98, 97]⟩, ⟨#[98, 98]⟩, ⟨#[98, 99]⟩, ⟨#[98, 100]⟩, ⟨#[98, 101]⟩, ⟨#[98, 102]⟩, ⟨#[98, 103]⟩, ⟨#[98, 104]⟩, ⟨#[98, 105]⟩] : List ByteArray)[k]? = some x := ⟨_, List.getElem?_eq_getElem (by simp; omega)⟩
    have hnm : nm.size ≤ 100 := mem_sz (List.mem_of_getElem? hx) (by decide)
    refine wl_ov (ov_index (j := k) es36 rfl rfl (by omega)) rfl ?_
    refine wl_ov (ov_elem1 (k := 0) (v := .string nm) sc9 rfl (fun _ hm => (SlT.ofBlk (l := [⟨#[98, 97]⟩, ⟨#[98, 98]⟩, ⟨#[98, 99]⟩, ⟨#[98, 100]⟩, ⟨#[98, 101]⟩, ⟨#[98, 102]⟩, ⟨#[98, 103]⟩, ⟨#[98, 104]⟩, ⟨#[98, 105]⟩]) sg_len (hm.blkI 0 rfl))) hx rfl rfl) rfl ?_
    refine wl_ov (ov_assign rfl) rfl ?_
    refine wl_nil ?_
    refine nx_then ?_
    refine gw_seq ?_
    refine gw_region ?_
    refine wl_ov (ov_move rfl) rfl ?_
    refine wl_buildSlice (e := 3) (cs := [.int .i64 0, .int .i64 10, .int .i64 10, .int .i64 20, .int .i64 25, .int .i64 30, .int .i64 100]) rfl (by kernel_rfl) rfl fun g2 => ?_
    refine wl_got (γ := Int) (val := fun v => .int .i64 v) (φ := fun v => v ∈ ([0, 10, 10, 20, 25, 30, 100] : List Int)) rfl cb32 rfl rfl rfl rfl (fun wx hm => (pick_any [0, 10, 10, 20, 25, 30, 100] _ _ _ wx B sb _ hm.k (by omega) (by simp) (by simp) (hm.blkI 0 rfl) (hm.neRow 0 rfl rfl))) fun v3 hv3 => ?_
    have bv3 : 0 ≤ v3 ∧ v3 ≤ 100 := mem_rng hv3 (by decide)
    have bv30 := bv3.1
    have bv31 := bv3.2
    clear bv3
    refine wl_ov (ov_assign rfl) rfl ?_
    refine wl_nil ?_
    refine nx_then ?_
    refine gw_region ?_
    refine wl_ov (ov_move rfl) rfl ?_
    refine wl_ov (ov_move rfl) rfl ?_
    refine wl_ov (ov_move rfl) rfl ?_
    refine wl_buildSlice (e := 9) (cs := [.string ⟨#[109, 105, 110, 105]⟩, .string ⟨#[109, 105, 110, 105]⟩, .string ⟨#[109, 105, 100, 105]⟩, .string ⟨#[109, 97, 120, 105]⟩, .string ⟨#[98, 105, 103]⟩]) rfl (by kernel_rfl) rfl fun g4 => ?_
    refine wl_got (γ := ByteArray) (val := fun v => .string v) (φ := fun v => v ∈ ([⟨#[109, 105, 110, 105]⟩, ⟨#[109, 105, 110, 105]⟩, ⟨#[109, 105, 100, 105]⟩, ⟨#[109, 97, 120, 105]⟩, ⟨#[98, 105, 103]⟩] : List ByteArray)) rfl cb48 rfl rfl rfl rfl (fun wx hm => (some_any [⟨#[109, 105, 110, 105]⟩, ⟨#[109, 105, 110, 105]⟩, ⟨#[109, 105, 100, 105]⟩, ⟨#[109, 97, 120, 105]⟩, ⟨#[98, 105, 103]⟩] _ _ _ wx B sb _ hm.k (by omega) (by simp) (by simp) (hm.blkI 0 rfl) (hm.neRow 0 rfl rfl))) fun s5 hs5 => ?_
    have zs5 : s5.size ≤ 100 := mem_sz hs5 (by decide)
    refine wl_ov (ov_move rfl) rfl ?_
    refine wl_ov (ov_move rfl) rfl ?_
    refine wl_ov (ov_move rfl) rfl ?_
    refine wl_buildSlice (e := 3) (cs := [.int .i64 1, .int .i64 5, .int .i64 10, .int .i64 10, .int .i64 20, .int .i64 100]) rfl (by kernel_rfl) rfl fun g6 => ?_
    refine wl_got (γ := Int) (val := fun v => .int .i64 v) (φ := fun v => v ∈ ([1, 5, 10, 10, 20, 100] : List Int)) rfl cb32 rfl rfl rfl rfl (fun wx hm => (pick_any [1, 5, 10, 10, 20, 100] _ _ _ wx B sb _ hm.k (by omega) (by simp) (by simp) (hm.blkI 0 rfl) (hm.neRow 0 rfl rfl))) fun v7 hv7 => ?_
    have bv7 : 1 ≤ v7 ∧ v7 ≤ 100 := mem_rng hv7 (by decide)
    have bv70 := bv7.1
    have bv71 := bv7.2
    clear bv7
    refine wl_ov (ov_add rfl rfl (by omega) (by omega)) rfl ?_
    refine wl_ov (ov_build (cs := [.int .i64 v3, .int .i64 (v3 + v7)]) rfl (by kernel_rfl)) rfl ?_
    refine wl_ov (ov_move rfl) rfl ?_
    refine wl_ov (ov_move rfl) rfl ?_
    refine wl_ov (ov_min rfl rfl) rfl ?_
    refine wl_got (γ := Int) (val := fun v => .int .i64 v) (φ := fun v => 0 ≤ v ∧ (v ≤ min v3 9 ∨ v = 0)) rfl cb15 rfl rfl rfl rfl (fun wx hm => (range_any _ _ wx B sb _ hm.k (by omega) (by omega) (by omega) (by omega) (by omega))) fun v8 hv8 => ?_
    refine wl_ov (ov_move rfl) rfl ?_
    refine wl_buildSlice (e := 3) (cs := [.int .i64 0, .int .i64 10, .int .i64 50, .int .i64 75, .int .i64 90, .int .i64 100]) rfl (by kernel_rfl) rfl fun g9 => ?_
    refine wl_got (γ := Int) (val := fun v => .int .i64 v) (φ := fun v => v ∈ ([0, 10, 50, 75, 90, 100] : List Int)) rfl cb32 rfl rfl rfl rfl (fun wx hm => (pick_any [0, 10, 50, 75, 90, 100] _ _ _ wx B sb _ hm.k (by omega) (by simp) (by simp) (hm.blkI 0 rfl) (hm.neRow 0 rfl rfl))) fun v10 hv10 => ?_
    have bv10 : 0 ≤ v10 ∧ v10 ≤ 100 := mem_rng hv10 (by decide)
    have bv100 := bv10.1
    have bv101 := bv10.2
    clear bv10
    refine wl_ov (ov_build (cs := [.string nm, .string s5, .int .i64 v3, .int .i64 (v3 + v7), .int .i64 v8, .int .i64 v10]) rfl (by kernel_rfl)) rfl ?_
    refine wl_buildSlice (e := 142) (cs := [.string nm, .string s5, .int .i64 v3, .int .i64 (v3 + v7), .int .i64 v8, .int .i64 v10]) rfl (by kernel_rfl) rfl fun g11 => ?_
    refine wl_append (news := [.string nm, .string s5, .int .i64 v3, .int .i64 (v3 + v7), .int .i64 v8, .int .i64 v10]) 0 0 ap52 rfl rfl rfl rfl rfl rfl rfl (by omega) (by unfold maxLen; omega) rfl rfl fun v2 hv2 => ?_
    refine wl_ov (ov_assign rfl) rfl ?_
    refine wl_nil ?_
    refine nx_blk_nrm ?_
    refine nx_then ?_
    refine gw_region ?_
    refine wl_ov (ov_add rfl rfl (by omega) (by omega)) rfl ?_
    refine wl_ov (ov_move rfl) rfl ?_
    refine wl_nil ?_
    exact nx_round (k + 1, v2, l ++ [⟨nm, s5, v3, v3 + v7, v8, v10⟩], l.flatMap bkEnc ++ ([.string nm, .string s5, .int .i64 v3, .int .i64 (v3 + v7), .int .i64 v8, .int .i64 v10] : List Value)) ⟨by dsimp only; omega, by simp [hi2], bk_snoc hi3 (show nm.size ≤ 1000000 by omega) (show s5.size ≤ 1000000 by omega), .inr (Nat.succ_pos _), by simp [bkEnc]⟩ (by dsimp only; omega) ⟨rfl, rfl, rfl, rfl, rfl, (some_int (by omega)), trivial⟩ (fun _ hm => (hm.more rfl (by first | omega | (dsimp only; omega))).pick [5] [0] [] rfl rfl)
  · have hk : ¬ (((k : Nat) : Int) < ((q : Nat) : Int)) := by simpa using hh
    clear hh
    refine gw_exit ?_
    refine nx_then_exit ?_
    refine nx_then_exit ?_
    refine nx_blk_here ?_
    refine nx_then ?_
    refine gw_seq ?_
    refine gw_seq ?_
    refine gw_region ?_
    refine wl_look (R := ∃ A cc, v = .slice A k cc) (fun wx hm => own_slice (hm.ownI 0 rfl)) ?_
    rintro ⟨A, c, rfl⟩
    refine wl_ov (ov_move rfl) rfl ?_
    refine wl_ov (ov_len es52 rfl) rfl ?_
    refine wl_ov (ov_gtr rfl rfl) rfl ?_
    refine wl_ov (ov_move rfl) rfl ?_
    rcases Bool.eq_false_or_eq_true (decide (0 < ((k : Nat) : Int))) with hb | hb
    · refine wl_set 48 rfl (congrArg Value.bool hb) ?_
      have hk0 : 0 < k := by simpa using hb
      refine wl_guard_on rfl rfl rfl ?_
      refine wl_ov (ov_move rfl) rfl ?_
      refine wl_guard_on rfl rfl rfl ?_
      refine wl_got (γ := Bool) (val := fun v => .bool v) (φ := fun v => True) rfl cb83 rfl rfl rfl rfl (fun wx hm => ((flip_any _ wx B sb _ hm.k (by omega) (by omega) (by omega)).mono fun _ _ ⟨v, he, hS, hg⟩ => ⟨v, trivial, he, hS, hg⟩)) fun f12 _ => ?_
      refine wl_ov (ov_pick_t rfl rfl) rfl ?_
      refine wl_nil ?_
      refine nx_then ?_
      refine gw_cond rfl (fun hh => ?_) (fun hh => ?_)
      · have hf : f12 = true := by simpa using hh
        clear hh
        refine gw_seq ?_
        refine gw_region ?_
        refine wl_look (R := ∃ g, A = some ⟨g, 0, none⟩) (fun wx hm => own_addr (hm.ownI 0 rfl) hk0) ?_
        rintro ⟨bo, rfl⟩
        refine wl_ov (ov_move rfl) rfl ?_
        refine wl_ov (ov_move rfl) rfl ?_
        refine wl_ov (ov_move rfl) rfl ?_
        refine wl_ov (ov_len es52 rfl) rfl ?_
        refine wl_got (γ := Int) (val := fun v => .int .i64 v) (φ := fun v => IsBelow ((k : Nat) : Int) v) rfl cb82 rfl rfl rfl rfl (fun wx hm => (next_any _ wx B sb _ hm.k (by omega) (by omega) (by omega))) fun vj hvj => ?_
        have hj := isBelow_lt hvj (by omega)
        obtain ⟨i, rfl⟩ := Int.eq_ofNat_of_zero_le hj.1
        have hij : i < k := by omega
        obtain ⟨y, hy⟩ : ∃ y, l[i]? = some y := ⟨_, List.getElem?_eq_getElem (by omega)⟩
        obtain ⟨y0, y1, y2, y3, y4, y5⟩ := y
        obtain ⟨hy0, hy1⟩ := hi3 _ (List.mem_of_getElem? hy)
        have hy0 : y0.size ≤ 1000000 := hy0
        have hy1 : y1.size ≤ 1000000 := hy1
        refine wl_ov (ov_index (j := i) es52 rfl rfl (by omega)) rfl ?_
        refine wl_ov (ov_assign rfl) rfl ?_
        refine wl_nil ?_
        refine nx_then ?_
        refine gw_seq ?_
        refine gw_region ?_
        refine wl_ov (ov_move rfl) rfl ?_
        refine wl_got (γ := Int) (val := fun v => .int .i64 v) (φ := fun v => IsBelow 5 v) rfl cb82 rfl rfl rfl rfl (fun wx hm => (next_any _ wx B sb _ hm.k (by omega) (by omega) (by omega))) fun vk hvk => ?_
        refine wl_nil ?_
        refine nx_then ?_
        refine gw_block ?_
        refine gw_seq ?_
        refine gw_region ?_
        refine wl_ov (ov_eql rfl rfl) rfl ?_
        refine wl_ov (ov_assign rfl) rfl ?_
        refine wl_nil ?_
        refine nx_then ?_
        refine gw_cond rfl (fun hh => ?_) (fun hh => ?_)
        · have hc0 : vk = 0 := by simpa using hh
          clear hh
          refine gw_region ?_
          refine wl_ov (ov_move rfl) rfl ?_
          refine wl_ov (ov_move rfl) rfl ?_
          refine wl_buildSlice (e := 9) (cs := [.string ⟨#[]⟩, .string ⟨#[65]⟩, .string ⟨#[98, 97]⟩, .string ⟨#[122, 122]⟩]) rfl (by kernel_rfl) rfl fun g13 => ?_
          refine wl_got (γ := ByteArray) (val := fun v => .string v) (φ := fun v => v ∈ ([⟨#[]⟩, ⟨#[65]⟩, ⟨#[98, 97]⟩, ⟨#[122, 122]⟩] : List ByteArray)) rfl cb48 rfl rfl rfl rfl (fun wx hm => (some_any [⟨#[]⟩, ⟨#[65]⟩, ⟨#[98, 97]⟩, ⟨#[122, 122]⟩] _ _ _ wx B sb _ hm.k (by omega) (by simp) (by simp) (hm.blkI 0 rfl) (hm.neRow 0 rfl rfl))) fun s14 hs14 => ?_
          have zs14 : s14.size ≤ 100 := mem_sz hs14 (by decide)
          refine wl_ov (ov_nilcheck rfl) rfl ?_
          refine wl_ov (ov_field fo142_0 rfl rfl) rfl ?_
          refine wl_storeE (l := l) (j := i) (r := 0) (el := ⟨y0, y1, y2, y3, y4, y5⟩) (el' := ⟨s14, y1, y2, y3, y4, y5⟩) 0 sc9 rfl rfl rfl rfl bk_len rfl hy hi2 (by decide) rfl rfl ?_
          refine wl_nil ?_
          refine nx_blk_nrm ?_
          refine nx_then ?_
          refine gw_seq ?_
          refine gw_region ?_
          refine wl_ov (ov_move rfl) rfl ?_
          refine wl_ov (ov_assign rfl) rfl ?_
          refine wl_nil ?_
          refine nx_then ?_
          refine gw_ret ?_
          refine nx_ret1 rfl rfl fun wx hm => ?_
          exact ⟨some ⟨bo, 0, none⟩, k, c, (l.set i ⟨s14, y1, y2, y3, y4, y5⟩), rfl, hm.ownI 0 rfl, (by simp; exact hi2), bk_set hi3 (show s14.size ≤ 1000000 by omega) (show y1.size ≤ 1000000 by omega), by omega, own_cap (hm.ownI 0 rfl), hm.k.more (by omega), hm.g⟩
        · have hc0 : ¬ (vk = 0) := by simpa using hh
          clear hh
          refine gw_seq ?_
          refine gw_region ?_
          refine wl_ov (ov_eql rfl rfl) rfl ?_
          refine wl_ov (ov_assign rfl) rfl ?_
          refine wl_nil ?_
          refine nx_then ?_
          refine gw_cond rfl (fun hh => ?_) (fun hh => ?_)
          · have hc1 : vk = 1 := by simpa using hh
            clear hh
            refine gw_region ?_
            refine wl_ov (ov_move rfl) rfl ?_
            refine wl_ov (ov_move rfl) rfl ?_
            refine wl_buildSlice (e := 9) (cs := [.string ⟨#[110, 111, 110, 101]⟩, .string ⟨#[]⟩, .string ⟨#[65]⟩]) rfl (by kernel_rfl) rfl fun g15 => ?_
            refine wl_got (γ := ByteArray) (val := fun v => .string v) (φ := fun v => v ∈ ([⟨#[110, 111, 110, 101]⟩, ⟨#[]⟩, ⟨#[65]⟩] : List ByteArray)) rfl cb48 rfl rfl rfl rfl (fun wx hm => (some_any [⟨#[110, 111, 110, 101]⟩, ⟨#[]⟩, ⟨#[65]⟩] _ _ _ wx B sb _ hm.k (by omega) (by simp) (by simp) (hm.blkI 0 rfl) (hm.neRow 0 rfl rfl))) fun s16 hs16 => ?_
            have zs16 : s16.size ≤ 100 := mem_sz hs16 (by decide)
            refine wl_ov (ov_nilcheck rfl) rfl ?_
            refine wl_ov (ov_field fo142_1 rfl rfl) rfl ?_
            refine wl_storeE (l := l) (j := i) (r := 1) (el := ⟨y0, y1, y2, y3, y4, y5⟩) (el' := ⟨y0, s16, y2, y3, y4, y5⟩) 0 sc9 rfl rfl rfl rfl bk_len rfl hy hi2 (by decide) rfl rfl ?_
            refine wl_nil ?_
            refine nx_blk_nrm ?_
            refine nx_then ?_
            refine gw_seq ?_
            refine gw_region ?_
            refine wl_ov (ov_move rfl) rfl ?_
            refine wl_ov (ov_assign rfl) rfl ?_
            refine wl_nil ?_
            refine nx_then ?_
            refine gw_ret ?_
            refine nx_ret1 rfl rfl fun wx hm => ?_
            exact ⟨some ⟨bo, 0, none⟩, k, c, (l.set i ⟨y0, s16, y2, y3, y4, y5⟩), rfl, hm.ownI 0 rfl, (by simp; exact hi2), bk_set hi3 (show y0.size ≤ 1000000 by omega) (show s16.size ≤ 1000000 by omega), by omega, own_cap (hm.ownI 0 rfl), hm.k.more (by omega), hm.g⟩
          · have hc1 : ¬ (vk = 1) := by simpa using hh
            clear hh
            refine gw_seq ?_
            refine gw_region ?_
            refine wl_ov (ov_eql rfl rfl) rfl ?_
            refine wl_ov (ov_assign rfl) rfl ?_
            refine wl_nil ?_
            refine nx_then ?_
            refine gw_cond rfl (fun hh => ?_) (fun hh => ?_)
            · have hc2 : vk = 2 := by simpa using hh
              clear hh
              refine gw_region ?_
              refine wl_ov (ov_move rfl) rfl ?_
              refine wl_ov (ov_move rfl) rfl ?_
              refine wl_got (γ := Int) (val := fun v => .int .i64 v) (φ := fun v => -2000000000000000 ≤ v ∧ v ≤ 2000000000000000) rfl cb84 rfl rfl rfl rfl (fun wx hm => (odd_any _ _ wx B sb _ hm.k (by omega) (by omega) (by omega) (by omega))) fun v17 hv17 => ?_
              refine wl_ov (ov_move rfl) rfl ?_
              refine wl_got (γ := Int) (val := fun v => .int .i64 v) (φ := fun v => -2000000000000000 ≤ v ∧ v ≤ 2000000000000000) rfl cb84 rfl rfl rfl rfl (fun wx hm => (odd_any _ _ wx B sb _ hm.k (by omega) (by omega) (by omega) (by omega))) fun v18 hv18 => ?_
              refine wl_ov (ov_build (cs := [.int .i64 v17, .int .i64 v18]) rfl (by kernel_rfl)) rfl ?_
              refine wl_ov (ov_nilcheck rfl) rfl ?_
              refine wl_ov (ov_field fo142_2 rfl rfl) rfl ?_
              refine wl_storesE (l := l) (j := i) (r := 2) (el := ⟨y0, y1, y2, y3, y4, y5⟩) (el' := ⟨y0, y1, v17, v18, y4, y5⟩) 0 rz35 rfl rfl rfl rfl rfl bk_len rfl hy hi2 (by decide) rfl rfl ?_
              refine wl_nil ?_
              refine nx_blk_nrm ?_
              refine nx_then ?_
              refine gw_seq ?_
              refine gw_region ?_
              refine wl_ov (ov_move rfl) rfl ?_
              refine wl_ov (ov_assign rfl) rfl ?_
              refine wl_nil ?_
              refine nx_then ?_
              refine gw_ret ?_
              refine nx_ret1 rfl rfl fun wx hm => ?_
              exact ⟨some ⟨bo, 0, none⟩, k, c, (l.set i ⟨y0, y1, v17, v18, y4, y5⟩), rfl, hm.ownI 0 rfl, (by simp; exact hi2), bk_set hi3 (show y0.size ≤ 1000000 by omega) (show y1.size ≤ 1000000 by omega), by omega, own_cap (hm.ownI 0 rfl), hm.k.more (by omega), hm.g⟩
            · have hc2 : ¬ (vk = 2) := by simpa using hh
              clear hh
              refine gw_seq ?_
              refine gw_region ?_
              refine wl_ov (ov_eql rfl rfl) rfl ?_
              refine wl_ov (ov_assign rfl) rfl ?_
              refine wl_nil ?_
              refine nx_then ?_
              refine gw_cond rfl (fun hh => ?_) (fun hh => ?_)
              · have hc3 : vk = 3 := by simpa using hh
                clear hh
                refine gw_region ?_
                refine wl_ov (ov_move rfl) rfl ?_
                refine wl_ov (ov_move rfl) rfl ?_
                refine wl_got (γ := Int) (val := fun v => .int .i64 v) (φ := fun v => -2000000000000000 ≤ v ∧ v ≤ 2000000000000000) rfl cb84 rfl rfl rfl rfl (fun wx hm => (odd_any _ _ wx B sb _ hm.k (by omega) (by omega) (by omega) (by omega))) fun v19 hv19 => ?_
                refine wl_ov (ov_nilcheck rfl) rfl ?_
                refine wl_ov (ov_field fo142_3 rfl rfl) rfl ?_
                refine wl_storeE (l := l) (j := i) (r := 4) (el := ⟨y0, y1, y2, y3, y4, y5⟩) (el' := ⟨y0, y1, y2, y3, v19, y5⟩) 0 sc3 rfl rfl rfl rfl bk_len rfl hy hi2 (by decide) rfl rfl ?_
                refine wl_nil ?_
                refine nx_blk_nrm ?_
                refine nx_then ?_
                refine gw_seq ?_
                refine gw_region ?_
                refine wl_ov (ov_move rfl) rfl ?_
                refine wl_ov (ov_assign rfl) rfl ?_
                refine wl_nil ?_
                refine nx_then ?_
                refine gw_ret ?_
                refine nx_ret1 rfl rfl fun wx hm => ?_
                exact ⟨some ⟨bo, 0, none⟩, k, c, (l.set i ⟨y0, y1, y2, y3, v19, y5⟩), rfl, hm.ownI 0 rfl, (by simp; exact hi2), bk_set hi3 (show y0.size ≤ 1000000 by omega) (show y1.size ≤ 1000000 by omega), by omega, own_cap (hm.ownI 0 rfl), hm.k.more (by omega), hm.g⟩
              · have hc3 : ¬ (vk = 3) := by simpa using hh
                clear hh
                refine gw_region ?_
                refine wl_ov (ov_move rfl) rfl ?_
                refine wl_ov (ov_move rfl) rfl ?_
                refine wl_got (γ := Int) (val := fun v => .int .i64 v) (φ := fun v => -2000000000000000 ≤ v ∧ v ≤ 2000000000000000) rfl cb84 rfl rfl rfl rfl (fun wx hm => (odd_any _ _ wx B sb _ hm.k (by omega) (by omega) (by omega) (by omega))) fun v20 hv20 => ?_
                refine wl_ov (ov_nilcheck rfl) rfl ?_
                refine wl_ov (ov_field fo142_4 rfl rfl) rfl ?_
                refine wl_storeE (l := l) (j := i) (r := 5) (el := ⟨y0, y1, y2, y3, y4, y5⟩) (el' := ⟨y0, y1, y2, y3, y4, v20⟩) 0 sc3 rfl rfl rfl rfl bk_len rfl hy hi2 (by decide) rfl rfl ?_
                refine wl_nil ?_
                refine nx_blk_nrm ?_
                refine nx_then ?_
                refine gw_seq ?_
                refine gw_region ?_
                refine wl_ov (ov_move rfl) rfl ?_
                refine wl_ov (ov_assign rfl) rfl ?_
                refine wl_nil ?_
                refine nx_then ?_
                refine gw_ret ?_
                refine nx_ret1 rfl rfl fun wx hm => ?_
                exact ⟨some ⟨bo, 0, none⟩, k, c, (l.set i ⟨y0, y1, y2, y3, y4, v20⟩), rfl, hm.ownI 0 rfl, (by simp; exact hi2), bk_set hi3 (show y0.size ≤ 1000000 by omega) (show y1.size ≤ 1000000 by omega), by omega, own_cap (hm.ownI 0 rfl), hm.k.more (by omega), hm.g⟩
      · have hf : f12 = false := by simpa using hh
        clear hh
        refine gw_skip ?_
        refine nx_then ?_
        refine gw_seq ?_
        refine gw_region ?_
        refine wl_ov (ov_move rfl) rfl ?_
        refine wl_ov (ov_assign rfl) rfl ?_
        refine wl_nil ?_
        refine nx_then ?_
        refine gw_ret ?_
        refine nx_ret1 rfl rfl fun wx hm => ?_
        exact ⟨A, k, c, l, rfl, hm.ownI 0 rfl, hi2, hi3, by omega, own_cap (hm.ownI 0 rfl), hm.k.more (by omega), hm.g⟩
    · refine wl_set 48 rfl (congrArg Value.bool hb) ?_
      refine wl_guard_off rfl rfl rfl (by decide) rfl ?_
      refine wl_guard_off rfl rfl rfl (by decide) rfl ?_
      refine wl_ov (ov_pick_f rfl rfl) rfl ?_
      refine wl_nil ?_
      refine nx_then ?_
      refine gw_cond rfl (fun hh => by cases hh) (fun _ => ?_)
      refine gw_skip ?_
      refine nx_then ?_
      refine gw_seq ?_
      refine gw_region ?_
      refine wl_ov (ov_move rfl) rfl ?_
      refine wl_ov (ov_assign rfl) rfl ?_
      refine wl_nil ?_
      refine nx_then ?_
      refine gw_ret ?_
      refine nx_ret1 rfl rfl fun wx hm => ?_
      exact ⟨A, k, c, l, rfl, hm.ownI 0 rfl, hi2, hi3, by omega, own_cap (hm.ownI 0 rfl), hm.k.more (by omega), hm.g⟩

theorem gbookings_any (q : Nat) (w : World) (B sb m : Nat) (hS : Strm 25 w B sb m) (hm : m ≤ 100000000) (hq : q ≤ 9) :
    Calls Tryz.prog 79 #[.pointer (some ⟨sb, 0, none⟩), .int .i64 ((q : Nat) : Int)] w (fun e w' => ∃ (A : Option Addr) (n c : Nat) (l : List Bk), e = .returned (.slice A n c) ∧ SlT bkEnc 6 142 w' A n l ∧ (∀ x ∈ l, BkOk x) ∧ n ≤ 9 ∧ n ≤ c ∧ Strm 25 w' B sb (m + 1000) ∧ w.grownBy w' (some sb)) :=
  (gbookings_own q w B sb m hS hm hq).mono fun _ _ ⟨A, n, c, l, he, ho, hl, h⟩ => ⟨A, n, c, l, he, SlT.ofOwn bk_len ho hl, h⟩

end Go.Proofs.YtcggbojhalbkjaaGreatDoor
