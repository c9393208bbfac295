/- The generators of rates. -/
import Derived.Test.YtcggbojhalbkjaaTa
import Derived.Test.YtcggbojhalbkjaaGb
import Derived.Test.YtcggbojhalbkjaaGt
import Derived.Test.YtcggbojhalbkjaaTw
namespace Go.Proofs.Ytcggbojhalbkjaa
open Go.RowKit

def rstEnc (x : ByteArray) : List Value := [.string x]
theorem rst_len (x : ByteArray) : (rstEnc x).length = 1 := rfl
theorem rt_snoc {l : List Rt} {x : Rt} (h : ∀ y ∈ l, RtOk y) (hx : x.cls.size ≤ 1000000) : ∀ y ∈ l ++ [x], RtOk y := fun y hy => by
  rcases List.mem_append.1 hy with hy | hy
  · exact h y hy
  · rw [List.mem_singleton.1 hy]; exact hx
theorem rt_set {l : List Rt} {x : Rt} {j : Nat} (h : ∀ y ∈ l, RtOk y) (hx : x.cls.size ≤ 1000000) : ∀ y ∈ l.set j x, RtOk y := fun y hy => by
  rcases List.mem_or_eq_of_mem_set hy with hy | rfl
  · exact h y hy
  · exact hx
set_option maxRecDepth 100000 in
set_option maxHeartbeats 2000000 in
theorem grightRates_any (w : World) (B sb m : Nat) (hS : Strm 25 w B sb m) (hm : m ≤ 100000000000) :
    Calls Try.prog 4 #[.pointer (some ⟨sb, 0, none⟩)] w (fun e w' => ∃ (A : Option Addr) (n c : Nat) (l : List Rt), e = .returned (.slice A n c) ∧ w'.ownsRow w.heap.size 47 7 (.slice A n c) n (l.flatMap rtEnc) ∧ (∀ x ∈ l, RtOk x) ∧ l.length = n ∧ n ≤ 9 ∧ Strm 25 w' B sb (m + 120) ∧ w.grownBy w' (some sb)) := by
  refine gw_enter ⟨64, w, (some sb), []⟩ Try.func4 rfl Try.ntmps4 rfl (memS (X := []) hS allF_nil allL_nil) ?_
  refine gw_seq ?_
  refine gw_region ?_
  refine wl_ov (ov_assign rfl) rfl ?_
  refine wl_nil ?_
  refine nx_then ?_
  refine gw_seq ?_
  refine gw_region ?_
  refine wl_ov (ov_assign rfl) rfl ?_
  refine wl_nil ?_
  refine nx_then ?_
  refine gw_seq ?_
  refine gw_seq ?_
  refine gw_region ?_
  refine wl_buildSlice (e := 9) (cs := [.string ⟨#[109, 97, 120, 105]⟩, .string ⟨#[109, 105, 100, 105]⟩, .string ⟨#[109, 105, 110, 105]⟩]) rfl (by kernel_rfl) rfl fun g1 => ?_
  refine wl_ov (ov_len es45 rfl) rfl ?_
  refine wl_set 9 (v' := .int .i64 3) rfl rfl ?_
  refine wl_ov (ov_move rfl) rfl ?_
  refine wl_nil ?_
  refine nx_then ?_
  refine gw_block ?_
  refine gw_nilOwn 47 7 ?_
  refine gw_loop (γ := Nat × Nat × Value × List Rt × List Value) (fun (g : Nat × Nat × Value × List Rt × List Value) => g.1 ≤ 3 ∧ g.2.1 ≤ 3 * g.1 ∧ g.2.2.2.1.length = g.2.1 ∧ (∀ x ∈ g.2.2.2.1, RtOk x) ∧ g.2.2.2.2 = g.2.2.2.1.flatMap rtEnc) (fun (g : Nat × Nat × Value × List Rt × List Value) => [(0, .pointer (some ⟨sb, 0, none⟩)), (2, .slice none 0 0), (3, g.2.2.1), (8, .slice (some ⟨g1, 0, none⟩) 3 3), (9, .int .i64 3), (10, .int .i64 ((g.1 : Nat) : Int))]) (fun (g : Nat × Nat × Value × List Rt × List Value) => fun w => Strm 25 w B sb (m + 40 * g.1)) (fun (g : Nat × Nat × Value × List Rt × List Value) => [(g1, 9, [.string ⟨#[109, 97, 120, 105]⟩, .string ⟨#[109, 105, 100, 105]⟩, .string ⟨#[109, 105, 110, 105]⟩])]) (fun (g : Nat × Nat × Value × List Rt × List Value) => [⟨g.2.2.1, 47, 7, g.2.1, g.2.2.2.2⟩]) (fun (g : Nat × Nat × Value × List Rt × List Value) => []) (fun (g : Nat × Nat × Value × List Rt × List Value) => 3 - g.1) (0, 0, .slice none 0 0, [], []) ⟨Nat.zero_le _, Nat.zero_le _, rfl, (fun _ h => by cases h), rfl⟩ ⟨rfl, rfl, rfl, rfl, rfl, rfl, trivial⟩ (fun _ hm => (hm.more rfl (by first | omega | (dsimp only; omega))).pick [0] [0] [] rfl rfl) ?_
  rintro ⟨k, n, v, l, xs⟩ hinv
  replace hinv : k ≤ 3 ∧ n ≤ 3 * k ∧ l.length = n ∧ (∀ x ∈ l, RtOk x) ∧ xs = l.flatMap rtEnc := hinv
  dsimp only
  refine gw_seq ?_
  refine gw_region ?_
  obtain ⟨hi0, hi1, hi2, hi3, rfl⟩ := hinv
  refine wl_ov (ov_lss rfl rfl) rfl ?_
  refine wl_nil ?_
  refine nx_then ?_
  refine gw_seq ?_
  refine gw_cond rfl (fun hh => ?_) (fun hh => ?_)
  · have hk : ((k : Nat) : Int) < 3 := by simpa using hh
    clear hh
    refine gw_skip ?_
    refine nx_then ?_
    refine gw_seq ?_
    refine gw_block ?_
    refine gw_seq ?_
    refine gw_region ?_
    obtain ⟨nm, hx⟩ : ∃ x, ([⟨#[109, 97, 120, 105]⟩, ⟨#[109, 105, 100, 105]⟩, ⟨#[109, 105, 110, 105]⟩] : List ByteArray)[k]? = some x := ⟨_, List.getElem?_eq_getElem (by simp; omega)⟩
    have hnm : nm.size ≤ 100 := mem_sz (List.mem_of_getElem? hx) (by decide)
    refine wl_ov (ov_index (j := k) es45 rfl rfl (by omega)) rfl ?_
    refine wl_ov (ov_elem1 (k := 0) (v := .string nm) sc9 rfl (fun _ hm => (SlT.ofBlk (l := [⟨#[109, 97, 120, 105]⟩, ⟨#[109, 105, 100, 105]⟩, ⟨#[109, 105, 110, 105]⟩]) rst_len (hm.blkI 0 rfl))) hx rfl rfl) rfl ?_
    refine wl_ov (ov_assign rfl) rfl ?_
    refine wl_nil ?_
    refine nx_then ?_
    refine gw_seq ?_
    refine gw_region ?_
    refine wl_ov (ov_move rfl) rfl ?_
    refine wl_buildSlice (e := 3) (cs := [.int .i64 0, .int .i64 0, .int .i64 0, .int .i64 3]) rfl (by kernel_rfl) rfl fun g2 => ?_
    refine wl_got (γ := Int) (val := fun v => .int .i64 v) (φ := fun v => v ∈ ([0, 0, 0, 3] : List Int)) rfl cb10 rfl rfl rfl rfl (fun wx hm => (pick_any [0, 0, 0, 3] _ _ _ wx B sb _ hm.k (by omega) (by simp) (by simp) (hm.blkI 0 rfl) (hm.neRow 0 rfl rfl))) fun v3 hv3 => ?_
    have bv3 : 0 ≤ v3 ∧ v3 ≤ 3 := mem_rng hv3 (by decide)
    have bv30 := bv3.1
    have bv31 := bv3.2
    clear bv3
    refine wl_ov (ov_assign rfl) rfl ?_
    refine wl_nil ?_
    refine nx_then ?_
    refine gw_seq ?_
    refine gw_region ?_
    refine wl_ov (ov_move rfl) rfl ?_
    refine wl_buildSlice (e := 3) (cs := [.int .i64 0, .int .i64 1, .int .i64 1, .int .i64 2, .int .i64 3]) rfl (by kernel_rfl) rfl fun g4 => ?_
    refine wl_got (γ := Int) (val := fun v => .int .i64 v) (φ := fun v => v ∈ ([0, 1, 1, 2, 3] : List Int)) rfl cb10 rfl rfl rfl rfl (fun wx hm => (pick_any [0, 1, 1, 2, 3] _ _ _ wx B sb _ hm.k (by omega) (by simp) (by simp) (hm.blkI 0 rfl) (hm.neRow 0 rfl rfl))) fun v5 hv5 => ?_
    have bv5 : 0 ≤ v5 ∧ v5 ≤ 3 := mem_rng hv5 (by decide)
    have bv50 := bv5.1
    have bv51 := bv5.2
    clear bv5
    refine wl_ov (ov_move rfl) rfl ?_
    refine wl_nil ?_
    refine nx_then ?_
    refine gw_block ?_
    refine gw_loop (γ := Nat × Int × Nat × Value × List Rt × List Value) (fun (g9 : Nat × Int × Nat × Value × List Rt × List Value) => (g9.1 : Int) ≤ v5 ∧ (0 ≤ g9.2.1 ∧ g9.2.1 ≤ 5000) ∧ g9.2.2.1 ≤ 3 * k + g9.1 ∧ g9.2.2.2.2.1.length = g9.2.2.1 ∧ (∀ x ∈ g9.2.2.2.2.1, RtOk x) ∧ g9.2.2.2.2.2 = g9.2.2.2.2.1.flatMap rtEnc) (fun (g9 : Nat × Int × Nat × Value × List Rt × List Value) => [(0, .pointer (some ⟨sb, 0, none⟩)), (2, .slice none 0 0), (3, g9.2.2.2.1), (5, .string nm), (6, .int .i64 g9.2.1), (8, .slice (some ⟨g1, 0, none⟩) 3 3), (9, .int .i64 3), (10, .int .i64 ((k : Nat) : Int)), (19, .int .i64 v5), (20, .int .i64 ((g9.1 : Nat) : Int))]) (fun (g9 : Nat × Int × Nat × Value × List Rt × List Value) => fun w => Strm 25 w B sb (m + 40 * k + 1 + 1 + 8 * g9.1)) (fun (g9 : Nat × Int × Nat × Value × List Rt × List Value) => [(g1, 9, [.string ⟨#[109, 97, 120, 105]⟩, .string ⟨#[109, 105, 100, 105]⟩, .string ⟨#[109, 105, 110, 105]⟩])]) (fun (g9 : Nat × Int × Nat × Value × List Rt × List Value) => [⟨g9.2.2.2.1, 47, 7, g9.2.2.1, g9.2.2.2.2.2⟩]) (fun (g9 : Nat × Int × Nat × Value × List Rt × List Value) => []) (fun (g9 : Nat × Int × Nat × Value × List Rt × List Value) => (v5 - ((g9.1 : Nat) : Int)).toNat) (0, v3, n, v, l, l.flatMap rtEnc) ⟨by dsimp only; omega, ⟨by dsimp only; omega, by dsimp only; omega⟩, by dsimp only; omega, hi2, hi3, rfl⟩ ⟨rfl, rfl, rfl, rfl, rfl, rfl, rfl, rfl, rfl, rfl, trivial⟩ (fun _ hm => (hm.more rfl (by first | omega | (dsimp only; omega))).pick [2] [0] [] rfl rfl) ?_
    rintro ⟨j, fr, n, v, l, xs⟩ hinv
    replace hinv : (j : Int) ≤ v5 ∧ (0 ≤ fr ∧ fr ≤ 5000) ∧ n ≤ 3 * k + j ∧ l.length = n ∧ (∀ x ∈ l, RtOk x) ∧ xs = l.flatMap rtEnc := hinv
    dsimp only
    refine gw_seq ?_
    refine gw_region ?_
    obtain ⟨hj0, hj1, hj2, hj3, hj4, rfl⟩ := hinv
    refine wl_ov (ov_lss rfl rfl) rfl ?_
    refine wl_nil ?_
    refine nx_then ?_
    refine gw_seq ?_
    refine gw_cond rfl (fun hh => ?_) (fun hh => ?_)
    · have hj : ((j : Nat) : Int) < v5 := by simpa using hh
      clear hh
      refine gw_skip ?_
      refine nx_then ?_
      refine gw_seq ?_
      refine gw_block ?_
      refine gw_seq ?_
      refine gw_region ?_
      refine wl_ov (ov_move rfl) rfl ?_
      refine wl_ov (ov_move rfl) rfl ?_
      refine wl_ov (ov_move rfl) rfl ?_
      refine wl_ov (ov_move rfl) rfl ?_
      refine wl_buildSlice (e := 3) (cs := [.int .i64 1, .int .i64 5, .int .i64 20, .int .i64 4000]) rfl (by kernel_rfl) rfl fun g6 => ?_
      refine wl_got (γ := Int) (val := fun v => .int .i64 v) (φ := fun v => v ∈ ([1, 5, 20, 4000] : List Int)) rfl cb10 rfl rfl rfl rfl (fun wx hm => (pick_any [1, 5, 20, 4000] _ _ _ wx B sb _ hm.k (by omega) (by simp) (by simp) (hm.blkI 0 rfl) (hm.neRow 0 rfl rfl))) fun v7 hv7 => ?_
      have bv7 : 1 ≤ v7 ∧ v7 ≤ 4000 := mem_rng hv7 (by decide)
      have bv70 := bv7.1
      have bv71 := bv7.2
      clear bv7
      refine wl_ov (ov_add rfl rfl (by omega) (by omega)) rfl ?_
      refine wl_ov (ov_move rfl) rfl ?_
      refine wl_buildSlice (e := 3) (cs := [.int .i64 (-1), .int .i64 5, .int .i64 10, .int .i64 10, .int .i64 0]) rfl (by kernel_rfl) rfl fun g8 => ?_
      refine wl_got (γ := Int) (val := fun v => .int .i64 v) (φ := fun v => v ∈ ([-1, 5, 10, 10, 0] : List Int)) rfl cb10 rfl rfl rfl rfl (fun wx hm => (pick_any [-1, 5, 10, 10, 0] _ _ _ wx B sb _ hm.k (by omega) (by simp) (by simp) (hm.blkI 0 rfl) (hm.neRow 0 rfl rfl))) fun v9 hv9 => ?_
      have bv9 : -1 ≤ v9 ∧ v9 ≤ 10 := mem_rng hv9 (by decide)
      have bv90 := bv9.1
      have bv91 := bv9.2
      clear bv9
      refine wl_ov (ov_move rfl) rfl ?_
      refine wl_buildSlice (e := 3) (cs := [.int .i64 (-1), .int .i64 50, .int .i64 50, .int .i64 70, .int .i64 40]) rfl (by kernel_rfl) rfl fun g10 => ?_
      refine wl_got (γ := Int) (val := fun v => .int .i64 v) (φ := fun v => v ∈ ([-1, 50, 50, 70, 40] : List Int)) rfl cb10 rfl rfl rfl rfl (fun wx hm => (pick_any [-1, 50, 50, 70, 40] _ _ _ wx B sb _ hm.k (by omega) (by simp) (by simp) (hm.blkI 0 rfl) (hm.neRow 0 rfl rfl))) fun v11 hv11 => ?_
      have bv11 : -1 ≤ v11 ∧ v11 ≤ 70 := mem_rng hv11 (by decide)
      have bv110 := bv11.1
      have bv111 := bv11.2
      clear bv11
      refine wl_ov (ov_move rfl) rfl ?_
      refine wl_buildSlice (e := 3) (cs := [.int .i64 (-1), .int .i64 70, .int .i64 90, .int .i64 100]) rfl (by kernel_rfl) rfl fun g12 => ?_
      refine wl_got (γ := Int) (val := fun v => .int .i64 v) (φ := fun v => v ∈ ([-1, 70, 90, 100] : List Int)) rfl cb10 rfl rfl rfl rfl (fun wx hm => (pick_any [-1, 70, 90, 100] _ _ _ wx B sb _ hm.k (by omega) (by simp) (by simp) (hm.blkI 0 rfl) (hm.neRow 0 rfl rfl))) fun v13 hv13 => ?_
      have bv13 : -1 ≤ v13 ∧ v13 ≤ 100 := mem_rng hv13 (by decide)
      have bv130 := bv13.1
      have bv131 := bv13.2
      clear bv13
      refine wl_ov (ov_move rfl) rfl ?_
      refine wl_buildSlice (e := 3) (cs := [.int .i64 (-1), .int .i64 200, .int .i64 250, .int .i64 300]) rfl (by kernel_rfl) rfl fun g14 => ?_
      refine wl_got (γ := Int) (val := fun v => .int .i64 v) (φ := fun v => v ∈ ([-1, 200, 250, 300] : List Int)) rfl cb10 rfl rfl rfl rfl (fun wx hm => (pick_any [-1, 200, 250, 300] _ _ _ wx B sb _ hm.k (by omega) (by simp) (by simp) (hm.blkI 0 rfl) (hm.neRow 0 rfl rfl))) fun v15 hv15 => ?_
      have bv15 : -1 ≤ v15 ∧ v15 ≤ 300 := mem_rng hv15 (by decide)
      have bv150 := bv15.1
      have bv151 := bv15.2
      clear bv15
      refine wl_ov (ov_build (cs := [.string nm, .int .i64 fr, .int .i64 (fr + v7), .int .i64 v9, .int .i64 v11, .int .i64 v13, .int .i64 v15]) rfl (by kernel_rfl)) rfl ?_
      refine wl_alloc zc47 rfl fun g16 => ?_
      refine wl_stores (cs' := [.string nm, .int .i64 fr, .int .i64 (fr + v7), .int .i64 v9, .int .i64 v11, .int .i64 v13, .int .i64 v15]) 0 rz47 rfl rfl rfl rfl rfl rfl rfl rfl ?_
      refine wl_nil ?_
      refine nx_then ?_
      refine gw_seq ?_
      refine gw_region ?_
      refine wl_ov (ov_field fo47_2 rfl rfl) rfl ?_
      refine wl_ov (ov_load sc3 rfl (fun _ hm => hm.blkI 0 rfl) rfl) rfl ?_
      refine wl_ov (ov_min rfl rfl) rfl ?_
      refine wl_ov (ov_field fo47_2 rfl rfl) rfl ?_
      refine wl_store 0 sc3 rfl rfl rfl rfl rfl rfl ?_
      refine wl_nil ?_
      refine nx_then ?_
      refine gw_seq ?_
      refine gw_seq ?_
      refine gw_region ?_
      refine wl_ov (ov_field fo47_1 rfl rfl) rfl ?_
      refine wl_ov (ov_load sc3 rfl (fun _ hm => hm.blkI 0 rfl) rfl) rfl ?_
      refine wl_ov (ov_field fo47_2 rfl rfl) rfl ?_
      refine wl_ov (ov_load sc3 rfl (fun _ hm => hm.blkI 0 rfl) rfl) rfl ?_
      refine wl_ov (ov_geq rfl rfl) rfl ?_
      refine wl_nil ?_
      refine nx_then ?_
      refine gw_cond rfl (fun hh => ?_) (fun hh => ?_)
      · have hb : min (fr + v7) 4001 ≤ fr := by simpa using hh
        clear hh
        refine gw_exit ?_
        refine nx_then_exit ?_
        refine nx_blk_on rfl ?_
        refine nx_then_exit ?_
        refine nx_then_exit ?_
        refine nx_blk_here ?_
        refine nx_blk_nrm ?_
        refine nx_then ?_
        refine gw_region ?_
        refine wl_ov (ov_add rfl rfl (by omega) (by omega)) rfl ?_
        refine wl_ov (ov_move rfl) rfl ?_
        refine wl_nil ?_
        exact nx_round (k + 1, n, v, l, l.flatMap rtEnc) ⟨by dsimp only; omega, by dsimp only; omega, hj3, hj4, rfl⟩ (by dsimp only; omega) ⟨rfl, rfl, rfl, rfl, rfl, (some_int (by omega)), trivial⟩ (fun _ hm => (hm.more rfl (by first | omega | (dsimp only; omega))).pick [6] [0] [] rfl rfl)
      · have hb : ¬ (min (fr + v7) 4001 ≤ fr) := by simpa using hh
        clear hh
        refine gw_skip ?_
        refine nx_then ?_
        refine gw_seq ?_
        refine gw_region ?_
        refine wl_ov (ov_move rfl) rfl ?_
        refine wl_ov (ov_loads rz47 rfl (fun _ hm => hm.blkI 0 rfl) rfl rfl) rfl ?_
        refine wl_buildSlice (e := 47) (cs := [.string nm, .int .i64 fr, .int .i64 (min (fr + v7) 4001), .int .i64 v9, .int .i64 v11, .int .i64 v13, .int .i64 v15]) rfl (by kernel_rfl) rfl fun g17 => ?_
        refine wl_append (news := [.string nm, .int .i64 fr, .int .i64 (min (fr + v7) 4001), .int .i64 v9, .int .i64 v11, .int .i64 v13, .int .i64 v15]) 0 0 ap26 rfl rfl rfl rfl rfl rfl rfl (by omega) (by unfold maxLen; omega) rfl rfl fun v2 hv2 => ?_
        refine wl_ov (ov_assign rfl) rfl ?_
        refine wl_nil ?_
        refine nx_then ?_
        refine gw_draw (fun wz => Blk wz g17 47 [.string nm, .int .i64 fr, .int .i64 (min (fr + v7) 4001), .int .i64 v9, .int .i64 v11, .int .i64 v13, .int .i64 v15] ∧ Blk wz g16 47 [.string nm, .int .i64 fr, .int .i64 (min (fr + v7) 4001), .int .i64 v9, .int .i64 v11, .int .i64 v13, .int .i64 v15] ∧ Blk wz g14 3 [.int .i64 (-1), .int .i64 200, .int .i64 250, .int .i64 300] ∧ Blk wz g12 3 [.int .i64 (-1), .int .i64 70, .int .i64 90, .int .i64 100] ∧ Blk wz g10 3 [.int .i64 (-1), .int .i64 50, .int .i64 50, .int .i64 70, .int .i64 40] ∧ Blk wz g8 3 [.int .i64 (-1), .int .i64 5, .int .i64 10, .int .i64 10, .int .i64 0] ∧ Blk wz g6 3 [.int .i64 1, .int .i64 5, .int .i64 20, .int .i64 4000] ∧ Blk wz g1 9 [.string ⟨#[109, 97, 120, 105]⟩, .string ⟨#[109, 105, 100, 105]⟩, .string ⟨#[109, 105, 110, 105]⟩] ∧ True) mixed ?_
        refine wa_take 0 rfl (by kernel_rfl) (by kernel_rfl) (by kernel_rfl) (listed' := #[true, false, false, false, false, false, false]) rfl (fun _ _ _ h => h) (fun _ hm => ⟨hm.blkI 0 rfl, hm.blkI 1 rfl, hm.blkI 2 rfl, hm.blkI 3 rfl, hm.blkI 4 rfl, hm.blkI 5 rfl, hm.blkI 6 rfl, hm.blkI 7 rfl, trivial⟩) (ov_field fo47_2 rfl rfl) rfl ?_
        refine wa_take 1 rfl (by kernel_rfl) (by kernel_rfl) (by kernel_rfl) (listed' := #[true, true, false, false, false, false, false]) rfl (fun _ _ _ h => h) (fun _ hm => ⟨hm.blkI 0 rfl, hm.blkI 1 rfl, hm.blkI 2 rfl, hm.blkI 3 rfl, hm.blkI 4 rfl, hm.blkI 5 rfl, hm.blkI 6 rfl, hm.blkI 7 rfl, trivial⟩) (ov_load sc3 rfl (fun _ hm => hm.2.1) rfl) rfl ?_
        refine wa_take 2 rfl (by kernel_rfl) (by kernel_rfl) (by kernel_rfl) (listed' := #[true, true, true, false, false, false, false]) rfl (fun _ _ _ h => h) (fun _ hm => ⟨hm.blkI 0 rfl, hm.blkI 1 rfl, hm.blkI 2 rfl, hm.blkI 3 rfl, hm.blkI 4 rfl, hm.blkI 5 rfl, hm.blkI 6 rfl, hm.blkI 7 rfl, trivial⟩) (ov_move rfl) rfl ?_
        refine wa_all [3] (by kernel_rfl) rfl ⟨⟨_, rfl, ?_⟩, trivial⟩
        refine wl_buildSlice (e := 3) (cs := [.int .i64 0, .int .i64 0, .int .i64 0, .int .i64 2]) rfl (by kernel_rfl) rfl fun g18 => ?_
        refine wl_nil ?_
        refine nx_wa0 (listed' := #[true, true, true, true, false, false, false]) rfl (fun _ hm => ⟨hm.blkI 1 rfl, hm.blkI 2 rfl, hm.blkI 3 rfl, hm.blkI 4 rfl, hm.blkI 5 rfl, hm.blkI 6 rfl, hm.blkI 7 rfl, hm.blkI 8 rfl, trivial⟩) ?_
        refine wa_all [4] (by kernel_rfl) rfl ⟨⟨_, rfl, ?_⟩, trivial⟩
        refine wl_got (γ := Int) (val := fun v => .int .i64 v) (φ := fun v => v ∈ ([0, 0, 0, 2] : List Int)) rfl cb10 rfl rfl rfl rfl (fun wx hm => (pick_any [0, 0, 0, 2] _ _ _ wx B sb _ hm.k (by omega) (by simp) (by simp) (hm.blkI 0 rfl) (hm.neRow 0 rfl rfl))) fun v19 hv19 => ?_
        have bv19 : 0 ≤ v19 ∧ v19 ≤ 2 := mem_rng hv19 (by decide)
        have bv190 := bv19.1
        have bv191 := bv19.2
        clear bv19
        refine wl_nil ?_
        refine nx_wa0 (listed' := #[true, true, true, true, true, false, false]) rfl (fun _ hm => ⟨hm.blkI 1 rfl, hm.blkI 2 rfl, hm.blkI 3 rfl, hm.blkI 4 rfl, hm.blkI 5 rfl, hm.blkI 6 rfl, hm.blkI 7 rfl, hm.blkI 8 rfl, trivial⟩) ?_
        refine wa_take 5 rfl (by kernel_rfl) (by kernel_rfl) (by kernel_rfl) (listed' := #[true, true, true, true, true, true, false]) rfl (fun _ _ _ h => h) (fun _ hm => ⟨hm.blkI 1 rfl, hm.blkI 2 rfl, hm.blkI 3 rfl, hm.blkI 4 rfl, hm.blkI 5 rfl, hm.blkI 6 rfl, hm.blkI 7 rfl, hm.blkI 8 rfl, trivial⟩) (ov_add rfl rfl (by omega) (by omega)) rfl ?_
        refine wa_take 6 rfl (by kernel_rfl) (by kernel_rfl) (by kernel_rfl) (listed' := #[true, true, true, true, true, true, true]) rfl (fun _ _ _ h => h) (fun _ hm => ⟨hm.blkI 1 rfl, hm.blkI 2 rfl, hm.blkI 3 rfl, hm.blkI 4 rfl, hm.blkI 5 rfl, hm.blkI 6 rfl, hm.blkI 7 rfl, hm.blkI 8 rfl, trivial⟩) (ov_assign rfl) rfl ?_
        refine wa_done (by kernel_rfl) ?_
        refine nx_blk_nrm ?_
        refine nx_then ?_
        refine gw_region ?_
        refine wl_ov (ov_add rfl rfl (by omega) (by omega)) rfl ?_
        refine wl_ov (ov_move rfl) rfl ?_
        refine wl_nil ?_
        exact nx_round (j + 1, (min (fr + v7) 4001) + v19, n + 1, v2, l ++ [⟨nm, fr, min (fr + v7) 4001, v9, v11, v13, v15⟩], l.flatMap rtEnc ++ ([.string nm, .int .i64 fr, .int .i64 (min (fr + v7) 4001), .int .i64 v9, .int .i64 v11, .int .i64 v13, .int .i64 v15] : List Value)) ⟨by dsimp only; omega, ⟨by dsimp only; omega, by dsimp only; omega⟩, by dsimp only; omega, by simp [hj3], rt_snoc hj4 (show nm.size ≤ 1000000 by omega), by simp [rtEnc]⟩ (by dsimp only; omega) ⟨rfl, rfl, rfl, rfl, rfl, rfl, rfl, rfl, rfl, (some_int (by omega)), trivial⟩ (fun _ hm => (hm.more rfl (by first | omega | (dsimp only; omega))).pick [8] [0] [] rfl rfl)
    · have hj : ¬ (((j : Nat) : Int) < v5) := by simpa using hh
      clear hh
      refine gw_exit ?_
      refine nx_then_exit ?_
      refine nx_then_exit ?_
      refine nx_blk_here ?_
      refine nx_blk_nrm ?_
      refine nx_then ?_
      refine gw_region ?_
      refine wl_ov (ov_add rfl rfl (by omega) (by omega)) rfl ?_
      refine wl_ov (ov_move rfl) rfl ?_
      refine wl_nil ?_
      exact nx_round (k + 1, n, v, l, l.flatMap rtEnc) ⟨by dsimp only; omega, by dsimp only; omega, hj3, hj4, rfl⟩ (by dsimp only; omega) ⟨rfl, rfl, rfl, rfl, rfl, (some_int (by omega)), trivial⟩ (fun _ hm => (hm.more rfl (by first | omega | (dsimp only; omega))).pick [0] [0] [] rfl rfl)
  · have hk : ¬ (((k : Nat) : Int) < 3) := by simpa using hh
    clear hh
    refine gw_exit ?_
    refine nx_then_exit ?_
    refine nx_then_exit ?_
    refine nx_blk_here ?_
    refine nx_then ?_
    refine gw_seq ?_
    refine gw_region ?_
    refine wl_ov (ov_move rfl) rfl ?_
    refine wl_ov (ov_assign rfl) rfl ?_
    refine wl_nil ?_
    refine nx_then ?_
    refine gw_ret ?_
    refine nx_look (R := ∃ A cc, v = .slice A n cc) (fun wx hm => own_slice (hm.ownI 0 rfl)) ?_
    rintro ⟨A, c, rfl⟩
    refine nx_ret1 rfl rfl fun wx hm => ?_
    exact ⟨A, n, c, l, rfl, hm.ownI 0 rfl, hi3, hi2, by omega, hm.k.more (by omega), hm.g⟩

end Go.Proofs.Ytcggbojhalbkjaa
