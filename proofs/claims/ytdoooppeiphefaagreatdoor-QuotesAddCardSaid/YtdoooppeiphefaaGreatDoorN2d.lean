/- Several texts as one: Tb Tn Ub Tx Uc Cp Fy Qa Qb Sv Aw Qc Qd -/
import Derived.Test.YtdoooppeiphefaaGreatDoorN2b
import Derived.Test.YtdoooppeiphefaaGreatDoorN2c
import Derived.Test.YtdoooppeiphefaaGreatDoorN2a
import Derived.OneCell
import Derived.Laws.AppendOwnNone
set_option maxRecDepth 100000
set_option maxHeartbeats 4000000
namespace Go.Proofs.YtdoooppeiphefaaGreatDoor
open Go.RowKit
def rstEnc (x : ByteArray) : List Value := [.string x]
theorem rst_len (x : ByteArray) : (rstEnc x).length = 1 := rfl
/-- What is drawn: an hour is cheap. -/
def RtG (x : Rt) : Prop := x.cls.size ≤ 1000000 ∧ x.hr ≤ 10
theorem rt_g {l : List Rt} (h : ∀ y ∈ l, RtG y) : ∀ y ∈ l, RtOk y := fun y hy => (h y hy).1
theorem rt_snoc {l : List Rt} {x : Rt} (h : ∀ y ∈ l, RtG y) (hx : x.cls.size ≤ 1000000 ∧ x.hr ≤ 10) : ∀ y ∈ l ++ [x], RtG y := fun y hy => by
  rcases List.mem_append.1 hy with hy | hy
  · exact h y hy
  · rw [List.mem_singleton.1 hy]; exact hx
theorem rt_set {l : List Rt} {x : Rt} {j : Nat} (h : ∀ y ∈ l, RtG y) (hx : x.cls.size ≤ 1000000 ∧ x.hr ≤ 10) : ∀ y ∈ l.set j x, RtG y := fun y hy => by
  rcases List.mem_or_eq_of_mem_set hy with hy | rfl
  · exact h y hy
  · exact hx
theorem grightRates_g (w : World) (B sb m : Nat) (hS : Strm 25 w B sb m) (hm : m ≤ 100000000000) :
  Calls Tryz.prog 98 #[.pointer (some ⟨sb, 0, none⟩)] w (fun e w' => ∃ (A : Option Addr) (n c : Nat) (l : List Rt), e = .returned (.slice A n c) ∧ w'.ownsRow w.heap.size 288 7 (.slice A n c) n (l.flatMap rtEnc) ∧ (∀ x ∈ l, RtG x) ∧ l.length = n ∧ n ≤ 9 ∧ Strm 25 w' B sb (m + 120) ∧ w.grownBy w' (some sb)) := by
 refine gw_enter ⟨64, w, (some sb), []⟩ Tryz.func98 rfl Tryz.ntmps98 rfl (memS (X := []) hS allF_nil allL_nil) ?_
 refine sr_ (sg_ rfl (nn_ (sr_ (sg_ rfl (nn_ (gw_seq (sr_ ?_)))))))
 refine wl_buildSlice (e := 9) (cs := [.string ⟨#[109, 97, 120, 105]⟩, .string ⟨#[109, 105, 100, 105]⟩, .string ⟨#[109, 105, 110, 105]⟩]) rfl (by kernel_rfl) rfl fun g1 => ?_
 refine wl_ov (ov_len es79 rfl) rfl ?_
 refine wl_set 9 (v' := .int .i64 3) rfl rfl ?_
 refine mv_ rfl (nn_ (gw_block ?_))
 refine gw_nilOwn 288 7 ?_
 refine gw_loop (γ := Nat × Nat × Value × List Rt × List Value) (fun g => g.1 ≤ 3 ∧ g.2.1 ≤ 3 * g.1 ∧ g.2.2.2.1.length = g.2.1 ∧ (∀ x ∈ g.2.2.2.1, RtG x) ∧ g.2.2.2.2 = g.2.2.2.1.flatMap rtEnc) (fun g => [(0, .pointer (some ⟨sb, 0, none⟩)), (2, .slice none 0 0), (3, g.2.2.1), (8, .slice (some ⟨g1, 0, none⟩) 3 3), (9, .int .i64 3), (10, .int .i64 ((g.1 : Nat) : Int))]) (fun g => fun w => Strm 25 w B sb (m + 40 * g.1)) (fun g => [(g1, 9, [.string ⟨#[109, 97, 120, 105]⟩, .string ⟨#[109, 105, 100, 105]⟩, .string ⟨#[109, 105, 110, 105]⟩])]) (fun g => [⟨g.2.2.1, 288, 7, g.2.1, g.2.2.2.2⟩]) (fun g => []) (fun g => 3 - g.1) (0, 0, .slice none 0 0, [], []) ⟨Nat.zero_le _, Nat.zero_le _, rfl, (fun _ h => by cases h), rfl⟩ ⟨rfl, rfl, rfl, rfl, rfl, rfl, trivial⟩ (fun _ hm => (hm.more rfl (by first | omega | (dsimp only; omega))).pick [0] [0] [] rfl rfl) ?_
 rintro ⟨k, n, v, l, xs⟩ hinv
 replace hinv : k ≤ 3 ∧ n ≤ 3 * k ∧ l.length = n ∧ (∀ x ∈ l, RtG x) ∧ xs = l.flatMap rtEnc := hinv
 dsimp only
 refine sr_ ?_
 obtain ⟨hi0, hi1, hi2, hi3, rfl⟩ := hinv
 refine wl_ov (ov_lss rfl rfl) rfl (nn_ (gw_seq ?_))
 refine gw_cond rfl (fun hh => ?_) (fun hh => ?_)
 ·have hk : ((k : Nat) : Int) < 3 := by simpa using hh
  clear hh
  refine gw_skip (nx_then (gw_seq (gw_block (sr_ ?_))))
  obtain ⟨nm, hx⟩ : ∃ x, ([⟨#[109, 97, 120, 105]⟩, ⟨#[109, 105, 100, 105]⟩, ⟨#[109, 105, 110, 105]⟩] : List ByteArray)[k]? = some x := ⟨_, List.getElem?_eq_getElem (by simp; omega)⟩
  have hnm : nm.size ≤ 100 := mem_sz (List.mem_of_getElem? hx) (by decide)
  refine wl_ov (ov_index (j := k) es79 rfl rfl (by omega)) rfl ?_
  refine wl_ov (ov_elem1 (k := 0) (v := .string nm) sc9 rfl (fun _ hm => (SlT.ofBlk (l := [⟨#[109, 97, 120, 105]⟩, ⟨#[109, 105, 100, 105]⟩, ⟨#[109, 105, 110, 105]⟩]) rst_len (hm.blkI 0 rfl))) hx rfl rfl) rfl ?_
  refine sg_ rfl (nn_ (sr_ (mv_ rfl ?_)))
  refine wl_buildSlice (e := 3) (cs := [.int .i64 0, .int .i64 0, .int .i64 0, .int .i64 3]) rfl (by kernel_rfl) rfl fun g2 => ?_
  refine wl_got (γ := Int) (val := fun v => .int .i64 v) (φ := fun v => v ∈ ([0, 0, 0, 3] : List Int)) rfl cb63 rfl rfl rfl rfl (fun wx hm => (pick_any [0, 0, 0, 3] _ _ _ wx B sb _ hm.k (by omega) (by simp) (by simp) (hm.blkI 0 rfl) (hm.neRow 0 rfl rfl))) fun v3 hv3 => ?_
  have bv3 : 0 ≤ v3 ∧ v3 ≤ 3 := mem_rng hv3 (by decide)
  have bv30 := bv3.1
  have bv31 := bv3.2
  clear bv3
  refine sg_ rfl (nn_ (sr_ (mv_ rfl ?_)))
  refine wl_buildSlice (e := 3) (cs := [.int .i64 0, .int .i64 1, .int .i64 1, .int .i64 2, .int .i64 3]) rfl (by kernel_rfl) rfl fun g4 => ?_
  refine wl_got (γ := Int) (val := fun v => .int .i64 v) (φ := fun v => v ∈ ([0, 1, 1, 2, 3] : List Int)) rfl cb63 rfl rfl rfl rfl (fun wx hm => (pick_any [0, 1, 1, 2, 3] _ _ _ wx B sb _ hm.k (by omega) (by simp) (by simp) (hm.blkI 0 rfl) (hm.neRow 0 rfl rfl))) fun v5 hv5 => ?_
  have bv5 : 0 ≤ v5 ∧ v5 ≤ 3 := mem_rng hv5 (by decide)
  have bv50 := bv5.1
  have bv51 := bv5.2
  clear bv5
  refine mv_ rfl (nn_ (gw_block ?_))
  refine gw_loop (γ := Nat × Int × Nat × Value × List Rt × List Value) (fun (g9 : Nat × Int × Nat × Value × List Rt × List Value) => (g9.1 : Int) ≤ v5 ∧ (0 ≤ g9.2.1 ∧ g9.2.1 ≤ 5000) ∧ g9.2.2.1 ≤ 3 * k + g9.1 ∧ g9.2.2.2.2.1.length = g9.2.2.1 ∧ (∀ x ∈ g9.2.2.2.2.1, RtG x) ∧ g9.2.2.2.2.2 = g9.2.2.2.2.1.flatMap rtEnc) (fun (g9 : Nat × Int × Nat × Value × List Rt × List Value) => [(0, .pointer (some ⟨sb, 0, none⟩)), (2, .slice none 0 0), (3, g9.2.2.2.1), (5, .string nm), (6, .int .i64 g9.2.1), (8, .slice (some ⟨g1, 0, none⟩) 3 3), (9, .int .i64 3), (10, .int .i64 ((k : Nat) : Int)), (19, .int .i64 v5), (20, .int .i64 ((g9.1 : Nat) : Int))]) (fun (g9 : Nat × Int × Nat × Value × List Rt × List Value) => fun w => Strm 25 w B sb (m + 40 * k + 1 + 1 + 8 * g9.1)) (fun (g9 : Nat × Int × Nat × Value × List Rt × List Value) => [(g1, 9, [.string ⟨#[109, 97, 120, 105]⟩, .string ⟨#[109, 105, 100, 105]⟩, .string ⟨#[109, 105, 110, 105]⟩])]) (fun (g9 : Nat × Int × Nat × Value × List Rt × List Value) => [⟨g9.2.2.2.1, 288, 7, g9.2.2.1, g9.2.2.2.2.2⟩]) (fun (g9 : Nat × Int × Nat × Value × List Rt × List Value) => []) (fun (g9 : Nat × Int × Nat × Value × List Rt × List Value) => (v5 - ((g9.1 : Nat) : Int)).toNat) (0, v3, n, v, l, l.flatMap rtEnc) ⟨by dsimp only; omega, ⟨by dsimp only; omega, by dsimp only; omega⟩, by dsimp only; omega, hi2, hi3, rfl⟩ ⟨rfl, rfl, rfl, rfl, rfl, rfl, rfl, rfl, rfl, rfl, trivial⟩ (fun _ hm => (hm.more rfl (by first | omega | (dsimp only; omega))).pick [2] [0] [] rfl rfl) ?_
  rintro ⟨j, fr, n, v, l, xs⟩ hinv
  replace hinv : (j : Int) ≤ v5 ∧ (0 ≤ fr ∧ fr ≤ 5000) ∧ n ≤ 3 * k + j ∧ l.length = n ∧ (∀ x ∈ l, RtG x) ∧ xs = l.flatMap rtEnc := hinv
  dsimp only
  refine sr_ ?_
  obtain ⟨hj0, hj1, hj2, hj3, hj4, rfl⟩ := hinv
  refine wl_ov (ov_lss rfl rfl) rfl (nn_ (gw_seq ?_))
  refine gw_cond rfl (fun hh => ?_) (fun hh => ?_)
  ·have hj : ((j : Nat) : Int) < v5 := by simpa using hh
   clear hh
   refine gw_skip (nx_then (gw_seq (gw_block (sr_ (mv_ rfl (mv_ rfl (mv_ rfl (mv_ rfl ?_))))))))
   refine wl_buildSlice (e := 3) (cs := [.int .i64 1, .int .i64 5, .int .i64 20, .int .i64 4000]) rfl (by kernel_rfl) rfl fun g6 => ?_
   refine wl_got (γ := Int) (val := fun v => .int .i64 v) (φ := fun v => v ∈ ([1, 5, 20, 4000] : List Int)) rfl cb63 rfl rfl rfl rfl (fun wx hm => (pick_any [1, 5, 20, 4000] _ _ _ wx B sb _ hm.k (by omega) (by simp) (by simp) (hm.blkI 0 rfl) (hm.neRow 0 rfl rfl))) fun v7 hv7 => ?_
   have bv7 : 1 ≤ v7 ∧ v7 ≤ 4000 := mem_rng hv7 (by decide)
   have bv70 := bv7.1
   have bv71 := bv7.2
   clear bv7
   refine ad_ rfl rfl (mv_ rfl ?_)
   refine wl_buildSlice (e := 3) (cs := [.int .i64 (-1), .int .i64 5, .int .i64 10, .int .i64 10, .int .i64 0]) rfl (by kernel_rfl) rfl fun g8 => ?_
   refine wl_got (γ := Int) (val := fun v => .int .i64 v) (φ := fun v => v ∈ ([-1, 5, 10, 10, 0] : List Int)) rfl cb63 rfl rfl rfl rfl (fun wx hm => (pick_any [-1, 5, 10, 10, 0] _ _ _ wx B sb _ hm.k (by omega) (by simp) (by simp) (hm.blkI 0 rfl) (hm.neRow 0 rfl rfl))) fun v9 hv9 => ?_
   have bv9 : -1 ≤ v9 ∧ v9 ≤ 10 := mem_rng hv9 (by decide)
   have bv90 := bv9.1
   have bv91 := bv9.2
   clear bv9
   refine mv_ rfl ?_
   refine wl_buildSlice (e := 3) (cs := [.int .i64 (-1), .int .i64 50, .int .i64 50, .int .i64 70, .int .i64 40]) rfl (by kernel_rfl) rfl fun g10 => ?_
   refine wl_got (γ := Int) (val := fun v => .int .i64 v) (φ := fun v => v ∈ ([-1, 50, 50, 70, 40] : List Int)) rfl cb63 rfl rfl rfl rfl (fun wx hm => (pick_any [-1, 50, 50, 70, 40] _ _ _ wx B sb _ hm.k (by omega) (by simp) (by simp) (hm.blkI 0 rfl) (hm.neRow 0 rfl rfl))) fun v11 hv11 => ?_
   have bv11 : -1 ≤ v11 ∧ v11 ≤ 70 := mem_rng hv11 (by decide)
   have bv110 := bv11.1
   have bv111 := bv11.2
   clear bv11
   refine mv_ rfl ?_
   refine wl_buildSlice (e := 3) (cs := [.int .i64 (-1), .int .i64 70, .int .i64 90, .int .i64 100]) rfl (by kernel_rfl) rfl fun g12 => ?_
   refine wl_got (γ := Int) (val := fun v => .int .i64 v) (φ := fun v => v ∈ ([-1, 70, 90, 100] : List Int)) rfl cb63 rfl rfl rfl rfl (fun wx hm => (pick_any [-1, 70, 90, 100] _ _ _ wx B sb _ hm.k (by omega) (by simp) (by simp) (hm.blkI 0 rfl) (hm.neRow 0 rfl rfl))) fun v13 hv13 => ?_
   have bv13 : -1 ≤ v13 ∧ v13 ≤ 100 := mem_rng hv13 (by decide)
   have bv130 := bv13.1
   have bv131 := bv13.2
   clear bv13
   refine mv_ rfl ?_
   refine wl_buildSlice (e := 3) (cs := [.int .i64 (-1), .int .i64 200, .int .i64 250, .int .i64 300]) rfl (by kernel_rfl) rfl fun g14 => ?_
   refine wl_got (γ := Int) (val := fun v => .int .i64 v) (φ := fun v => v ∈ ([-1, 200, 250, 300] : List Int)) rfl cb63 rfl rfl rfl rfl (fun wx hm => (pick_any [-1, 200, 250, 300] _ _ _ wx B sb _ hm.k (by omega) (by simp) (by simp) (hm.blkI 0 rfl) (hm.neRow 0 rfl rfl))) fun v15 hv15 => ?_
   have bv15 : -1 ≤ v15 ∧ v15 ≤ 300 := mem_rng hv15 (by decide)
   have bv150 := bv15.1
   have bv151 := bv15.2
   clear bv15
   refine wl_ov (ov_build (cs := [.string nm, .int .i64 fr, .int .i64 (fr + v7), .int .i64 v9, .int .i64 v11, .int .i64 v13, .int .i64 v15]) rfl (by kernel_rfl)) rfl ?_
   refine wl_alloc zc288 rfl fun g16 => ?_
   refine wl_stores (cs' := [.string nm, .int .i64 fr, .int .i64 (fr + v7), .int .i64 v9, .int .i64 v11, .int .i64 v13, .int .i64 v15]) 0 rz288 rfl rfl rfl rfl rfl rfl rfl rfl ?_
   refine nn_ (sr_ (fd_ fo288_2 rfl rfl (lk_ sc3 0 rfl rfl rfl ?_)))
   refine wl_ov (ov_min rfl rfl) rfl ?_
   refine fd_ fo288_2 rfl rfl ?_
   refine wl_store 0 sc3 rfl rfl rfl rfl rfl rfl ?_
   refine nn_ (gw_seq (sr_ (fd_ fo288_1 rfl rfl (lk_ sc3 0 rfl rfl rfl (fd_ fo288_2 rfl rfl (lk_ sc3 0 rfl rfl rfl ?_))))))
   refine wl_ov (ov_geq rfl rfl) rfl ?_
   refine nn_ ?_
   refine gw_cond rfl (fun hh => ?_) (fun hh => ?_)
   ·have hb : min (fr + v7) 4001 ≤ fr := by simpa using hh
    clear hh
    refine gw_exit ?_
    refine nx_then_exit ?_
    refine nx_blk_on rfl ?_
    refine nx_then_exit (nx_then_exit ?_)
    refine nx_blk_here ?_
    refine nx_blk_nrm (nx_then (gw_region (ad_ rfl rfl (mv_ rfl (wl_nil ?_)))))
    exact nx_round (k + 1, n, v, l, l.flatMap rtEnc) ⟨by dsimp only; omega, by dsimp only; omega, hj3, hj4, rfl⟩ (by dsimp only; omega) ⟨rfl, rfl, rfl, rfl, rfl, (some_int (by omega)), trivial⟩ (fun _ hm => (hm.more rfl (by first | omega | (dsimp only; omega))).pick [6] [0] [] rfl rfl)
   have hb : ¬ (min (fr + v7) 4001 ≤ fr) := by simpa using hh
   clear hh
   refine gw_skip (nx_then (sr_ (mv_ rfl ?_)))
   refine wl_ov (ov_loads rz288 rfl (fun _ hm => hm.blkI 0 rfl) rfl rfl) rfl ?_
   refine wl_buildSlice (e := 288) (cs := [.string nm, .int .i64 fr, .int .i64 (min (fr + v7) 4001), .int .i64 v9, .int .i64 v11, .int .i64 v13, .int .i64 v15]) rfl (by kernel_rfl) rfl fun g17 => ?_
   refine wl_append (news := [.string nm, .int .i64 fr, .int .i64 (min (fr + v7) 4001), .int .i64 v9, .int .i64 v11, .int .i64 v13, .int .i64 v15]) 0 0 ap71 rfl rfl rfl rfl rfl rfl rfl (by omega) (by unfold maxLen; omega) rfl rfl fun v2 hv2 => ?_
   refine sg_ rfl (nn_ ?_)
   refine gd (fun wz => Blk wz g17 288 [.string nm, .int .i64 fr, .int .i64 (min (fr + v7) 4001), .int .i64 v9, .int .i64 v11, .int .i64 v13, .int .i64 v15] ∧ Blk wz g16 288 [.string nm, .int .i64 fr, .int .i64 (min (fr + v7) 4001), .int .i64 v9, .int .i64 v11, .int .i64 v13, .int .i64 v15] ∧ Blk wz g14 3 [.int .i64 (-1), .int .i64 200, .int .i64 250, .int .i64 300] ∧ Blk wz g12 3 [.int .i64 (-1), .int .i64 70, .int .i64 90, .int .i64 100] ∧ Blk wz g10 3 [.int .i64 (-1), .int .i64 50, .int .i64 50, .int .i64 70, .int .i64 40] ∧ Blk wz g8 3 [.int .i64 (-1), .int .i64 5, .int .i64 10, .int .i64 10, .int .i64 0] ∧ Blk wz g6 3 [.int .i64 1, .int .i64 5, .int .i64 20, .int .i64 4000] ∧ Blk wz g1 9 [.string ⟨#[109, 97, 120, 105]⟩, .string ⟨#[109, 105, 100, 105]⟩, .string ⟨#[109, 105, 110, 105]⟩] ∧ True) mixed (fun _ hm => ⟨hm.bl 0, hm.bl 1, hm.bl 2, hm.bl 3, hm.bl 4, hm.bl 5, hm.bl 6, hm.bl 7, trivial⟩) fun z => ?_
   refine wt 0 7 1 rfl z (ov_field fo288_2 rfl rfl) ?_
   refine wt 1 7 3 rfl z (ov_load sc3 rfl (fun _ hm => hm.2.1) rfl) ?_
   refine wt 2 7 7 rfl z (ov_move rfl) ?_
   refine wa1 3 rfl ?_
   refine wl_buildSlice (e := 3) (cs := [.int .i64 0, .int .i64 0, .int .i64 0, .int .i64 2]) rfl (by kernel_rfl) rfl fun g18 => ?_
   refine wl_nil ?_
   refine nw 7 15 (fun _ hm => ⟨hm.bl 1, hm.bl 2, hm.bl 3, hm.bl 4, hm.bl 5, hm.bl 6, hm.bl 7, hm.bl 8, trivial⟩) fun z => ?_
   refine wa1 4 rfl ?_
   refine wl_got (γ := Int) (val := fun v => .int .i64 v) (φ := fun v => v ∈ ([0, 0, 0, 2] : List Int)) rfl cb63 rfl rfl rfl rfl (fun wx hm => (pick_any [0, 0, 0, 2] _ _ _ wx B sb _ hm.k (by omega) (by simp) (by simp) (hm.blkI 0 rfl) (hm.neRow 0 rfl rfl))) fun v19 hv19 => ?_
   have bv19 : 0 ≤ v19 ∧ v19 ≤ 2 := mem_rng hv19 (by decide)
   have bv190 := bv19.1
   have bv191 := bv19.2
   clear bv19
   refine wl_nil ?_
   refine nw 7 31 (fun _ hm => ⟨hm.bl 1, hm.bl 2, hm.bl 3, hm.bl 4, hm.bl 5, hm.bl 6, hm.bl 7, hm.bl 8, trivial⟩) fun z => ?_
   refine wt 5 7 63 rfl z (ov_add rfl rfl (by omega) (by omega)) ?_
   refine wt 6 7 127 rfl z (ov_assign rfl) ?_
   refine wa_done (by kernel_rfl) ?_
   refine nx_blk_nrm (nx_then (gw_region (ad_ rfl rfl (mv_ rfl (wl_nil ?_)))))
   exact nx_round (j + 1, (min (fr + v7) 4001) + v19, n + 1, v2, l ++ [⟨nm, fr, min (fr + v7) 4001, v9, v11, v13, v15⟩], l.flatMap rtEnc ++ ([.string nm, .int .i64 fr, .int .i64 (min (fr + v7) 4001), .int .i64 v9, .int .i64 v11, .int .i64 v13, .int .i64 v15] : List Value)) ⟨by dsimp only; omega, ⟨by dsimp only; omega, by dsimp only; omega⟩, by dsimp only; omega, by simp [hj3], rt_snoc hj4 ⟨show nm.size ≤ 1000000 by omega, by dsimp only; omega⟩, by simp [rtEnc]⟩ (by dsimp only; omega) ⟨rfl, rfl, rfl, rfl, rfl, rfl, rfl, rfl, rfl, (some_int (by omega)), trivial⟩ (fun _ hm => (hm.more rfl (by first | omega | (dsimp only; omega))).pick [8] [0] [] rfl rfl)
  have hj : ¬ (((j : Nat) : Int) < v5) := by simpa using hh
  clear hh
  refine gw_exit ?_
  refine nx_then_exit (nx_then_exit ?_)
  refine nx_blk_here ?_
  refine nx_blk_nrm (nx_then (gw_region (ad_ rfl rfl (mv_ rfl (wl_nil ?_)))))
  exact nx_round (k + 1, n, v, l, l.flatMap rtEnc) ⟨by dsimp only; omega, by dsimp only; omega, hj3, hj4, rfl⟩ (by dsimp only; omega) ⟨rfl, rfl, rfl, rfl, rfl, (some_int (by omega)), trivial⟩ (fun _ hm => (hm.more rfl (by first | omega | (dsimp only; omega))).pick [0] [0] [] rfl rfl)
 have hk : ¬ (((k : Nat) : Int) < 3) := by simpa using hh
 clear hh
 refine gw_exit ?_
 refine nx_then_exit (nx_then_exit ?_)
 refine nx_blk_here ?_
 refine nx_then (sr_ (mv_ rfl (sg_ rfl (nn_ ?_))))
 refine gw_ret ?_
 refine nx_look (R := ∃ A cc, v = .slice A n cc) (fun wx hm => own_slice (hm.ownI 0 rfl)) ?_
 rintro ⟨A, c, rfl⟩
 refine nx_ret1 rfl rfl fun wx hm => ?_
 exact ⟨A, n, c, l, rfl, hm.ownI 0 rfl, hi3, hi2, by omega, hm.k.more (by omega), hm.g⟩
theorem grates_g (w : World) (B sb m : Nat) (hS : Strm 25 w B sb m) (hm : m ≤ 100000000000) :
  Calls Tryz.prog 194 #[.pointer (some ⟨sb, 0, none⟩)] w (fun e w' => ∃ (A : Option Addr) (n c : Nat) (l : List Rt), e = .returned (.slice A n c) ∧ SlT rtEnc 7 288 w' A n l ∧ (∀ x ∈ l, RtG x) ∧ n ≤ 10 ∧ n ≤ c ∧ Strm 25 w' B sb (m + 200) ∧ w.grownBy w' (some sb)) := by
 refine gw_enter ⟨56, w, (some sb), []⟩ Tryz.func194 rfl Tryz.ntmps194 rfl (memS (X := []) hS allF_nil allL_nil) ?_
 refine sr_ (sg_ rfl (nn_ (sr_ (mv_ rfl ?_))))
 refine wl_callgs (γ := Option Addr × Nat × Nat × List Rt) (val := (fun g => .slice g.1 g.2.1 g.2.2.1)) (φ := (fun g => (∀ x ∈ g.2.2.2, RtG x) ∧ g.2.2.2.length = g.2.1 ∧ g.2.1 ≤ 9)) (m' := m + 120) (fun g => ⟨.slice g.1 g.2.1 g.2.2.1, 288, 7, g.2.1, g.2.2.2.flatMap rtEnc⟩) rfl cb98 rfl rfl rfl rfl (fun wx hm => (grightRates_g wx B sb _ hm.k (by omega)).mono fun _ _ ⟨A, n, c, l, he, ho, hok, hl, hn, hS, hg⟩ => ⟨(A, n, c, l), he, ⟨hok, hl, hn⟩, hS, hg, ho⟩) ?_
 rintro ⟨A, n, c, l⟩ hphi
 dsimp only at hphi ⊢
 obtain ⟨hi3, hi2, hn⟩ := hphi
 refine sg_ rfl (nn_ (gw_seq (sr_ (mv_ rfl (wl_ov (ov_len es71 rfl) rfl ?_)))))
 refine wl_ov (ov_gtr rfl rfl) rfl ?_
 refine mv_ rfl ?_
 rcases Bool.eq_false_or_eq_true (decide (0 < ((n : Nat) : Int))) with hb | hb
 ·refine wl_set 10 rfl (congrArg Value.bool hb) ?_
  have hk0 : 0 < n := by simpa using hb
  refine wl_guard_on rfl rfl rfl (mv_ rfl (wl_guard_on rfl rfl rfl ?_))
  refine wl_got (γ := Bool) (val := fun v => .bool v) (φ := fun v => True) rfl cb64 rfl rfl rfl rfl (fun wx hm => ((flip_any _ wx B sb _ hm.k (by omega) (by omega) (by omega)).mono fun _ _ ⟨v, he, hS, hg⟩ => ⟨v, trivial, he, hS, hg⟩)) fun f1 _ => ?_
  refine pt_ rfl rfl (nn_ ?_)
  refine gw_cond rfl (fun hh => ?_) (fun hh => ?_)
  ·have hf : f1 = true := by simpa using hh
   clear hh
   refine sr_ ?_
   refine wl_look (R := ∃ g, A = some ⟨g, 0, none⟩) (fun wx hm => own_addr (hm.ownI 0 rfl) hk0) ?_
   rintro ⟨bo, rfl⟩
   refine mv_ rfl (mv_ rfl (mv_ rfl (wl_ov (ov_len es71 rfl) rfl ?_)))
   refine wl_got (γ := Int) (val := fun v => .int .i64 v) (φ := fun v => IsBelow ((n : Nat) : Int) v) rfl cb29 rfl rfl rfl rfl (fun wx hm => (next_any _ wx B sb _ hm.k (by omega) (by omega) (by omega))) fun vj hvj => ?_
   have hj := isBelow_lt hvj (by omega)
   obtain ⟨i, rfl⟩ := Int.eq_ofNat_of_zero_le hj.1
   have hij : i < n := by omega
   obtain ⟨y, hy⟩ : ∃ y, l[i]? = some y := ⟨_, List.getElem?_eq_getElem (by omega)⟩
   obtain ⟨y0, y1, y2, y3, y4, y5, y6⟩ := y
   obtain ⟨hy0, hy3⟩ := hi3 _ (List.mem_of_getElem? hy)
   have hy0 : y0.size ≤ 1000000 := hy0
   have hy3 : y3 ≤ 10 := hy3
   obtain ⟨z, hz⟩ : ∃ z, l[0]? = some z := ⟨_, List.getElem?_eq_getElem (by omega)⟩
   obtain ⟨z0, z1, z2, z3, z4, z5, z6⟩ := z
   have hz0 : z0.size ≤ 1000000 ∧ z3 ≤ 10 := hi3 _ (List.mem_of_getElem? hz)
   refine wl_ov (ov_index (j := i) es71 rfl rfl (by omega)) rfl ?_
   refine sg_ rfl (nn_ (sr_ (mv_ rfl ?_)))
   refine wl_got (γ := Int) (val := fun v => .int .i64 v) (φ := fun v => IsBelow 4 v) rfl cb29 rfl rfl rfl rfl (fun wx hm => (next_any _ wx B sb _ hm.k (by omega) (by omega) (by omega))) fun vk hvk => ?_
   refine nn_ (gw_block (sr_ (wl_ov (ov_eql rfl rfl) rfl (sg_ rfl (nn_ ?_)))))
   refine gw_cond rfl (fun hh => ?_) (fun hh => ?_)
   ·have hc0 : vk = 0 := by simpa using hh
    clear hh
    refine gw_region (mv_ rfl (mv_ rfl ?_))
    refine wl_buildSlice (e := 9) (cs := [.string ⟨#[]⟩, .string ⟨#[65]⟩, .string ⟨#[109, 105, 110, 105]⟩, .string ⟨#[122, 101, 100]⟩]) rfl (by kernel_rfl) rfl fun g2 => ?_
    refine wl_got (γ := ByteArray) (val := fun v => .string v) (φ := fun v => v ∈ ([⟨#[]⟩, ⟨#[65]⟩, ⟨#[109, 105, 110, 105]⟩, ⟨#[122, 101, 100]⟩] : List ByteArray)) rfl cb62 rfl rfl rfl rfl (fun wx hm => (some_any [⟨#[]⟩, ⟨#[65]⟩, ⟨#[109, 105, 110, 105]⟩, ⟨#[122, 101, 100]⟩] _ _ _ wx B sb _ hm.k (by omega) (by simp) (by simp) (hm.blkI 0 rfl) (hm.neRow 0 rfl rfl))) fun s3 hs3 => ?_
    have zs3 : s3.size ≤ 100 := mem_sz hs3 (by decide)
    refine wl_ov (ov_nilcheck rfl) rfl (fd_ fo288_0 rfl rfl ?_)
    refine wl_storeE (l := l) (j := i) (r := 0) (el := ⟨y0, y1, y2, y3, y4, y5, y6⟩) (el' := ⟨s3, y1, y2, y3, y4, y5, y6⟩) 0 sc9 rfl rfl rfl rfl rt_len rfl hy hi2 (by decide) rfl rfl ?_
    refine wl_nil (nx_blk_nrm (nx_then (sr_ (mv_ rfl (sg_ rfl (nn_ ?_))))))
    refine gw_ret ?_
    refine nx_ret1 rfl rfl fun wx hm => ?_
    exact ⟨some ⟨bo, 0, none⟩, n, c, (l.set i ⟨s3, y1, y2, y3, y4, y5, y6⟩), rfl, SlT.ofOwn rt_len (hm.ownI 0 rfl) (by simp; exact hi2), rt_set (hi3) ⟨show s3.size ≤ 1000000 by omega, hy3⟩, by omega, own_cap (hm.ownI 0 rfl), hm.k.more (by omega), hm.g⟩
   have hc0 : ¬ (vk = 0) := by simpa using hh
   clear hh
   refine sr_ (wl_ov (ov_eql rfl rfl) rfl (sg_ rfl (nn_ ?_)))
   refine gw_cond rfl (fun hh => ?_) (fun hh => ?_)
   ·have hc1 : vk = 1 := by simpa using hh
    clear hh
    refine gw_region (mv_ rfl (mv_ rfl (mv_ rfl ?_)))
    refine wl_got (γ := Int) (val := fun v => .int .i64 v) (φ := fun v => -2000000000000000 ≤ v ∧ v ≤ 2000000000000000) rfl cb65 rfl rfl rfl rfl (fun wx hm => (odd_any _ _ wx B sb _ hm.k (by omega) (by omega) (by omega) (by omega))) fun v4 hv4 => ?_
    refine mv_ rfl ?_
    refine wl_got (γ := Int) (val := fun v => .int .i64 v) (φ := fun v => -2000000000000000 ≤ v ∧ v ≤ 2000000000000000) rfl cb65 rfl rfl rfl rfl (fun wx hm => (odd_any _ _ wx B sb _ hm.k (by omega) (by omega) (by omega) (by omega))) fun v5 hv5 => ?_
    refine wl_ov (ov_nilcheck rfl) rfl (fd_ fo288_1 rfl rfl ?_)
    refine wl_storeE (l := l) (j := i) (r := 1) (el := ⟨y0, y1, y2, y3, y4, y5, y6⟩) (el' := ⟨y0, v4, y2, y3, y4, y5, y6⟩) 0 sc3 rfl rfl rfl rfl rt_len rfl hy hi2 (by decide) rfl rfl ?_
    refine wl_ov (ov_nilcheck rfl) rfl (fd_ fo288_2 rfl rfl ?_)
    refine wl_storeE (l := (l.set i ⟨y0, v4, y2, y3, y4, y5, y6⟩)) (j := i) (r := 2) (el := ⟨y0, v4, y2, y3, y4, y5, y6⟩) (el' := ⟨y0, v4, v5, y3, y4, y5, y6⟩) 0 sc3 rfl rfl rfl rfl rt_len rfl (List.getElem?_set_self (by first | omega | (simp; omega))) (by simp; exact hi2) (by decide) rfl rfl ?_
    refine wl_nil (nx_blk_nrm (nx_then (sr_ (mv_ rfl (sg_ rfl (nn_ ?_))))))
    refine gw_ret ?_
    refine nx_ret1 rfl rfl fun wx hm => ?_
    exact ⟨some ⟨bo, 0, none⟩, n, c, ((l.set i ⟨y0, v4, y2, y3, y4, y5, y6⟩).set i ⟨y0, v4, v5, y3, y4, y5, y6⟩), rfl, SlT.ofOwn rt_len (hm.ownI 0 rfl) (by simp; exact hi2), rt_set (rt_set (hi3) ⟨show y0.size ≤ 1000000 by omega, hy3⟩) ⟨show y0.size ≤ 1000000 by omega, hy3⟩, by omega, own_cap (hm.ownI 0 rfl), hm.k.more (by omega), hm.g⟩
   have hc1 : ¬ (vk = 1) := by simpa using hh
   clear hh
   refine sr_ (wl_ov (ov_eql rfl rfl) rfl (sg_ rfl (nn_ ?_)))
   refine gw_cond rfl (fun hh => ?_) (fun hh => ?_)
   ·have hc2 : vk = 2 := by simpa using hh
    clear hh
    refine gw_region (mv_ rfl (mv_ rfl ?_))
    refine wl_got (γ := Int) (val := fun v => .int .i64 v) (φ := fun v => -2000000000000000 ≤ v ∧ v ≤ 2000000000000000) rfl cb65 rfl rfl rfl rfl (fun wx hm => (odd_any _ _ wx B sb _ hm.k (by omega) (by omega) (by omega) (by omega))) fun v6 hv6 => ?_
    refine wl_ov (ov_nilcheck rfl) rfl (fd_ fo288_4 rfl rfl ?_)
    refine wl_storeE (l := l) (j := i) (r := 4) (el := ⟨y0, y1, y2, y3, y4, y5, y6⟩) (el' := ⟨y0, y1, y2, y3, v6, y5, y6⟩) 0 sc3 rfl rfl rfl rfl rt_len rfl hy hi2 (by decide) rfl rfl ?_
    refine wl_nil (nx_blk_nrm (nx_then (sr_ (mv_ rfl (sg_ rfl (nn_ ?_))))))
    refine gw_ret ?_
    refine nx_ret1 rfl rfl fun wx hm => ?_
    exact ⟨some ⟨bo, 0, none⟩, n, c, (l.set i ⟨y0, y1, y2, y3, v6, y5, y6⟩), rfl, SlT.ofOwn rt_len (hm.ownI 0 rfl) (by simp; exact hi2), rt_set (hi3) ⟨show y0.size ≤ 1000000 by omega, hy3⟩, by omega, own_cap (hm.ownI 0 rfl), hm.k.more (by omega), hm.g⟩
   have hc2 : ¬ (vk = 2) := by simpa using hh
   clear hh
   refine gw_region (mv_ rfl (mv_ rfl ?_))
   refine wl_ov (ov_index (j := 0) es71 rfl rfl hk0) rfl ?_
   refine wl_ov (ov_elem (vs := [.string z0, .int .i64 z1, .int .i64 z2, .int .i64 z3, .int .i64 z4, .int .i64 z5, .int .i64 z6]) rz288 rfl (fun _ hm => (SlT.ofOwn rt_len (hm.ownI 0 rfl) hi2)) (show l[0]? = some _ from hz) rfl rfl) rfl ?_
   refine wl_buildSlice (e := 288) (cs := [.string z0, .int .i64 z1, .int .i64 z2, .int .i64 z3, .int .i64 z4, .int .i64 z5, .int .i64 z6]) rfl (by kernel_rfl) rfl fun g7 => ?_
   refine wl_append (news := [.string z0, .int .i64 z1, .int .i64 z2, .int .i64 z3, .int .i64 z4, .int .i64 z5, .int .i64 z6]) 0 0 ap71 rfl rfl rfl rfl rfl rfl rfl (by omega) (by unfold maxLen; omega) rfl rfl fun v2 hv2 => ?_
   refine wl_look (R := ∃ A cc, v2 = .slice A (n + 1) cc) (fun wx hm => own_slice (hm.ownI 0 rfl)) ?_
   rintro ⟨A2, c2, rfl⟩
   refine sg_ rfl (wl_nil (nx_blk_nrm (nx_then (sr_ (mv_ rfl (sg_ rfl (nn_ ?_)))))))
   refine gw_ret ?_
   refine nx_ret1 rfl rfl fun wx hm => ?_
   exact ⟨A2, n + 1, c2, l ++ [⟨z0, z1, z2, z3, z4, z5, z6⟩], rfl, SlT.ofOwn (l := l ++ [⟨z0, z1, z2, z3, z4, z5, z6⟩]) rt_len (by have h := hm.ownI 0 rfl; simpa [rtEnc] using h) (by simp [hi2]), rt_snoc hi3 hz0, by omega, own_cap (hm.ownI 0 rfl), hm.k.more (by omega), hm.g⟩
  have hf : f1 = false := by simpa using hh
  clear hh
  refine gw_skip (nx_then (sr_ (mv_ rfl (sg_ rfl (nn_ ?_)))))
  refine gw_ret ?_
  refine nx_ret1 rfl rfl fun wx hm => ?_
  exact ⟨A, n, c, l, rfl, SlT.ofOwn rt_len (hm.ownI 0 rfl) hi2, hi3, by omega, own_cap (hm.ownI 0 rfl), hm.k.more (by omega), hm.g⟩
 refine wl_set 10 rfl (congrArg Value.bool hb) ?_
 refine goff rfl rfl rfl (goff rfl rfl rfl (pf_ rfl rfl (nn_ (cf_ rfl (gw_skip (nx_then (sr_ (mv_ rfl (sg_ rfl (nn_ ?_))))))))))
 refine gw_ret ?_
 refine nx_ret1 rfl rfl fun wx hm => ?_
 exact ⟨A, n, c, l, rfl, SlT.ofOwn rt_len (hm.ownI 0 rfl) hi2, hi3, by omega, own_cap (hm.ownI 0 rfl), hm.k.more (by omega), hm.g⟩
end Go.Proofs.YtdoooppeiphefaaGreatDoor
namespace Go.Proofs.YtdoooppeiphefaaGreatDoor
open Go.RowKit
section
variable {P : Program} {c : Cx} {ops : Array Oper} {Q : Exit → Act → World → Prop} {L : List (Nat × TypeId × List Value)} {O : List Own} {Z : World → Prop}
/-- What an operation leaves: its slot, its value over a ghost, a property of the ghost, facts that last. -/
structure Item where
  γ : Type
  d : Nat
  v : γ → Value
  Ph : γ → Prop
  X : γ → List (World → Prop)
def Item.Known (t : Item) (S : List (Nat × Value)) (X : List (World → Prop)) : Prop := ∃ g, t.Ph g ∧ look S t.d = some (t.v g) ∧ ∀ A ∈ t.X g, A ∈ X
theorem Item.Known.more {t : Item} {S S' : List (Nat × Value)} {X X' : List (World → Prop)} (h : t.Known S X) (hs : look S' t.d = look S t.d) (hx : ∀ A ∈ X, A ∈ X') : t.Known S' X' := by
  obtain ⟨g, h1, h2, h3⟩ := h
  exact ⟨g, h1, hs.trans h2, fun A hA => hx A (h3 A hA)⟩
/-- One operation, whenever it comes up. -/
def StepI (P : Program) (c : Cx) (ops : Array Oper) (n' : Nat) (its : List Item) (K : Nat → World → Prop) (S0 : List (Nat × Value)) (L : List (Nat × TypeId × List Value)) (O : List Own) (X0 : List (World → Prop)) (i : Nat) (t : Item) : Prop :=
  ∃ o, ops[i]? = some o ∧ ∀ (QQ : Exit → Act → World → Prop) (S : List (Nat × Value)) (X : List (World → Prop)) (k : Nat), k < n' → (∀ x ∈ S0, look S x.1 = some x.2) → (∀ A ∈ X0, A ∈ X) →
    (∀ e ∈ o.after, Region.binds .any e = true → ∃ u, its[e.on]? = some u ∧ u.Known S X) →
    (∀ g, t.Ph g → Nx c QQ .normal ((t.d, t.v g) :: S) (K (k + 1)) L O (t.X g ++ X)) → WL P c ops QQ [o] S (K k) L O X
def Steps (P : Program) (c : Cx) (ops : Array Oper) (n' : Nat) (its : List Item) (K : Nat → World → Prop) (S0 : List (Nat × Value)) (L : List (Nat × TypeId × List Value)) (O : List Own) (X0 : List (World → Prop)) : Nat → List Item → Prop
  | _, [] => True
  | i, t :: r => StepI P c ops n' its K S0 L O X0 i t ∧ Steps P c ops n' its K S0 L O X0 (i + 1) r
theorem Steps.get {n' : Nat} {its : List Item} {K : Nat → World → Prop} {S0 : List (Nat × Value)} {X0 : List (World → Prop)} : ∀ {r : List Item} {b : Nat}, Steps P c ops n' its K S0 L O X0 b r → ∀ i t, r[i]? = some t → StepI P c ops n' its K S0 L O X0 (b + i) t
  | [], _, _, i, t, h => by simp at h
  | x :: r, b, hs, 0, t, h => by
    simp only [List.getElem?_cons_zero, Option.some.injEq] at h
    subst h; exact hs.1
  | x :: r, b, hs, i + 1, t, h => by
    have := Steps.get hs.2 i t (by simpa using h)
    rw [show b + (i + 1) = b + 1 + i by omega]; exact this
/-- How many of the first are listed. -/
def cntL (listed : Array Bool) : Nat → Nat
  | 0 => 0
  | n + 1 => cntL listed n + (if listed.getD n false = true then 1 else 0)
theorem cntL_le (listed : Array Bool) : ∀ n, cntL listed n ≤ n
  | 0 => Nat.le_refl _
  | n + 1 => by have := cntL_le listed n; unfold cntL; split <;> omega
theorem cntL_all {listed : Array Bool} : ∀ {n : Nat}, cntL listed n = n → ∀ i < n, listed.getD i false = true
  | 0, _, i, hi => by omega
  | n + 1, h, i, hi => by
    have hl := cntL_le listed n
    unfold cntL at h
    split at h
    · rename_i hb
      by_cases e : i = n
      · subst e; exact hb
      · exact cntL_all (n := n) (by omega) i (by omega)
    · omega
theorem cntL_some {listed : Array Bool} : ∀ {n : Nat}, cntL listed n < n → ∃ i < n, listed.getD i false = false ∧ ∀ j < i, listed.getD j false = true
  | 0, h => by omega
  | n + 1, h => by
    by_cases hc : cntL listed n < n
    · obtain ⟨i, hi, h1, h2⟩ := cntL_some (n := n) hc
      exact ⟨i, by omega, h1, h2⟩
    · have hl := cntL_le listed n
      have ha := cntL_all (listed := listed) (n := n) (by omega)
      unfold cntL at h
      split at h
      · omega
      · rename_i hb
        exact ⟨n, by omega, by simpa using hb, fun j hj => ha j hj⟩
theorem cntL_set {listed : Array Bool} {i : Nat} (hs : i < listed.size) (h0 : listed.getD i false = false) : ∀ {n : Nat}, (i < n → cntL (listed.setIfInBounds i true) n = cntL listed n + 1) ∧ (n ≤ i → cntL (listed.setIfInBounds i true) n = cntL listed n)
  | 0 => ⟨fun h => by omega, fun _ => rfl⟩
  | n + 1 => by
    have ih := cntL_set hs h0 (n := n)
    constructor
    · intro h
      unfold cntL
      by_cases e : i = n
      · subst e
        have h1 : (listed.setIfInBounds i true).getD i false = true := by simp [hs]
        rw [ih.2 (Nat.le_refl _), h1, h0]; simp
      · rw [ih.1 (by omega), getD_set_ne false e]; omega
    · intro h
      unfold cntL
      rw [ih.2 (by omega), getD_set_ne false (by omega)]
/-- The conditions on the region alone: all but the last are items, each waits for earlier ones only, the last for all. -/
def famB (ops : Array Oper) (its : List Item) : Bool :=
  Nat.beq ops.size (its.length + 1) &&
  ((List.range its.length).all fun i => ((ops[i]?).map fun o => o.after.toList.all fun e => Nat.blt e.on i).getD false) &&
  ((List.range its.length).all fun i => ((ops[its.length]?).map fun o => o.after.toList.any fun e => Region.binds .any e && Nat.beq e.on i).getD false)
def famD (its : List Item) (S0 : List (Nat × Value)) : Bool := allNe (its.map (·.d)) && its.all (fun t => S0.all fun x => !Nat.beq x.1 t.d)
theorem allNe_get : ∀ {l : List Nat}, allNe l = true → ∀ (i j a : Nat), i < j → l[i]? = some a → l[j]? = some a → False
  | [], _, i, j, a, _, h, _ => by simp at h
  | x :: r, h, 0, j + 1, a, _, h1, h2 => by
    simp only [allNe, Bool.and_eq_true] at h
    simp only [List.getElem?_cons_zero, Option.some.injEq] at h1
    subst h1
    have := List.all_eq_true.1 h.1 x (List.mem_of_getElem? (by simpa using h2))
    simp at this
  | x :: r, h, i + 1, j + 1, a, hij, h1, h2 => by
    simp only [allNe, Bool.and_eq_true] at h
    exact allNe_get h.2 i j a (by omega) (by simpa using h1) (by simpa using h2)
theorem look_ne {d t : Nat} {v : Value} {S : List (Nat × Value)} (h : d ≠ t) : look ((d, v) :: S) t = look S t := by
  rw [look]
  cases hb : Nat.beq d t
  · rfl
  · exact absurd (Nat.eq_of_beq_eq_true hb) h
theorem wa_family {its : List Item} {N : Nat} {K0 : World → Prop} {K : Nat → World → Prop} {S0 : List (Nat × Value)} {X0 : List (World → Prop)} (hN : N = its.length + 1) (hK0 : K0 = K 0) (hb : famB ops its = true) (hd : famD its S0 = true) (hZ : ∀ w, Z w) (hsteps : Steps P c ops its.length its K S0 L O X0 0 its)
    (htail : ∀ (S : List (Nat × Value)) (X : List (World → Prop)), (∀ x ∈ S0, look S x.1 = some x.2) → (∀ A ∈ X0, A ∈ X) → (∀ (i : Nat) (t : Item), its[i]? = some t → t.Known S X) → WA P c ops Q Z 1 ((Array.replicate its.length true).push false) S (K its.length) L O X)
    {S : List (Nat × Value)} {X : List (World → Prop)} (hS0 : ∀ x ∈ S0, look S x.1 = some x.2) (hX0 : ∀ A ∈ X0, A ∈ X) :
    WA P c ops Q Z N (Array.replicate N false) S K0 L O X := by
  subst hN hK0
  unfold famB at hb
  unfold famD at hd
  simp only [Bool.and_eq_true, List.all_eq_true, List.mem_range] at hb hd
  obtain ⟨⟨hsz, hearly⟩, hlast⟩ := hb
  have hsz := Nat.eq_of_beq_eq_true hsz
  suffices h : ∀ (fuel : Nat) (listed : Array Bool) (S : List (Nat × Value)) (X : List (World → Prop)), listed.size = its.length + 1 → listed.getD its.length true = false → fuel + cntL listed its.length = its.length + 1 → (∀ x ∈ S0, look S x.1 = some x.2) → (∀ A ∈ X0, A ∈ X) → (∀ (i : Nat) (t : Item), its[i]? = some t → listed.getD i false = true → t.Known S X) → WA P c ops Q Z fuel listed S (K (cntL listed its.length)) L O X by
    have hc : cntL (Array.replicate (its.length + 1) false) its.length = 0 := by
      have : ∀ n, n ≤ its.length → cntL (Array.replicate (its.length + 1) false) n = 0 := fun n hn => by
        induction n with
        | zero => rfl
        | succ n ih =>
          unfold cntL
          rw [ih (by omega), if_neg (by rw [show (Array.replicate (its.length + 1) false).getD n false = false by simp [Array.getElem?_replicate]; split <;> rfl]; decide)]
      exact this _ (Nat.le_refl _)
    have := h (its.length + 1) (Array.replicate (its.length + 1) false) S X (by simp) (by simp) (by omega) hS0 hX0 (fun i t _ hl => by simp [Array.getElem?_replicate] at hl; split at hl <;> simp at hl)
    rw [hc] at this; exact this
  intro fuel
  induction fuel with
  | zero =>
    intro listed S X _ _ hf
    have := cntL_le listed its.length
    omega
  | succ fuel ih =>
    intro listed S X hlz hl0 hf hS0 hX0 hkn
    by_cases hall : cntL listed its.length = its.length
    · have hfu : fuel = 0 := by omega
      subst hfu
      have hl : listed = (Array.replicate its.length true).push false := by
        refine Array.ext (by simp [hlz]) fun i h1 h2 => ?_
        by_cases hi : i < its.length
        · have := cntL_all hall i hi
          rw [Array.getElem_push]
          simp only [Array.size_replicate, hi, dite_true, Array.getElem_replicate]
          simpa [h1] using this
        · have e : i = its.length := by omega
          subst e
          rw [Array.getElem_push]
          simp only [Array.size_replicate, Nat.lt_irrefl, dite_false]
          simpa [h1] using hl0
      rw [hall, hl]
      exact htail S X hS0 hX0 fun i t ht => hkn i t ht (cntL_all hall i (List.getElem?_eq_some_iff.1 ht).1)
    · have hlt : cntL listed its.length < its.length := by have := cntL_le listed its.length; omega
      intro a w ha hm
      have hget : ∀ i, i < its.length → ∃ o, ops[i]? = some o ∧ ∀ e ∈ o.after, e.on < i := fun i hi => by
        have h1 := hearly i hi
        cases ho : ops[i]? with
        | none => rw [ho] at h1; simp at h1
        | some o =>
          rw [ho] at h1
          simp only [Option.map_some, Option.getD_some] at h1
          exact ⟨o, rfl, fun e he => by
            have := List.all_eq_true.1 h1 e (Array.mem_toList_iff.2 he)
            exact Nat.le_of_ble_eq_true this⟩
      have hdT : ∀ i, i < its.length → listed.getD i true = listed.getD i false := fun i hi => by
        simp [show i < listed.size by omega]
      refine ⟨fun hr => ?_, fun i hi => ?_⟩
      · exfalso
        obtain ⟨i, hi, h1, h2⟩ := cntL_some hlt
        obtain ⟨o, ho, hon⟩ := hget i hi
        have : i ∈ Region.ready .any ops listed := mem_ready.2 ⟨by rw [hdT i hi]; exact h1, o, ho, fun e he _ => h2 _ (hon e he)⟩
        rw [hr] at this; cases this
      · obtain ⟨h0, o, ho, hafter⟩ := mem_ready.1 hi
        have hin : i < its.length + 1 := by have := (Array.getElem?_eq_some_iff.1 ho).1; omega
        have hi2 : i < its.length := by
          rcases Nat.lt_or_ge i its.length with h | h
          · exact h
          · exfalso
            have e : i = its.length := by omega
            subst e
            obtain ⟨j, hj, h1, _⟩ := cntL_some hlt
            have hla := hlast j hj
            rw [ho] at hla
            simp only [Option.map_some, Option.getD_some] at hla
            obtain ⟨e, he, hbe⟩ := List.any_eq_true.1 hla
            simp only [Bool.and_eq_true] at hbe
            have := hafter e (Array.mem_toList_iff.1 he) hbe.1
            rw [Nat.eq_of_beq_eq_true hbe.2, h1] at this
            cases this
        obtain ⟨t, ht⟩ : ∃ t, its[i]? = some t := ⟨_, List.getElem?_eq_getElem hi2⟩
        obtain ⟨o', ho', hst⟩ := hsteps.get i t ht
        rw [Nat.zero_add, ho] at ho'
        have := Option.some.inj ho'
        subst this
        refine wpOp_of_list ho (hst _ S X (cntL listed its.length) hlt hS0 hX0 (fun e he hb => ?_) (fun g hg => ?_) a w ha hm)
        · have hl := hafter e he hb
          have hlt2 : e.on < its.length := by
            obtain ⟨o2, ho2, hon⟩ := hget i hi2
            rw [ho] at ho2
            have := Option.some.inj ho2
            subst this
            have := hon e he; omega
          obtain ⟨u, hu⟩ : ∃ u, its[e.on]? = some u := ⟨_, List.getElem?_eq_getElem hlt2⟩
          exact ⟨u, hu, hkn e.on u hu hl⟩
        · have h0' : listed.getD i false = false := by rw [← hdT i hi2]; exact h0
          have hcn := (cntL_set (listed := listed) (i := i) (by omega) h0' (n := its.length)).1 hi2
          have hnext := ih (listed.setIfInBounds i true) ((t.d, t.v g) :: S) (t.X g ++ X) (by simp [hlz]) (by rw [getD_set_ne true (by omega)]; exact hl0) (by omega)
            (fun x hx => by
              have := hd.2 t (List.mem_of_getElem? ht) x hx
              rw [look_ne (fun e => by rw [e] at this; simp at this)]; exact hS0 x hx)
            (fun A hA => List.mem_append_right _ (hX0 A hA))
            (fun j u hu hlj => by
              by_cases e : i = j
              · subst e
                rw [ht] at hu
                have := Option.some.inj hu
                subst this
                exact ⟨g, hg, by simp [look], fun A hA => List.mem_append_left _ hA⟩
              · rw [getD_set_ne false e] at hlj
                refine (hkn j u hu hlj).more (look_ne fun he => ?_) (fun A hA => List.mem_append_right _ hA)
                have h1 : (its.map (·.d))[i]? = some t.d := by rw [List.getElem?_map, ht]; rfl
                have h2 : (its.map (·.d))[j]? = some t.d := by rw [List.getElem?_map, hu, he]; rfl
                rcases Nat.lt_or_ge i j with h | h
                · exact allNe_get hd.1 i j _ h h1 h2
                · exact allNe_get hd.1 j i _ (by omega) h2 h1)
          rw [hcn] at hnext
          exact fun a' w' ha' hm' => ⟨hZ w', hnext a' w' ha' hm'⟩
/-- A new block as a fact. -/
def BlkF (N : Nat) (g : Nat) (T : TypeId) (cs : List Value) (w : World) : Prop := N ≤ g ∧ Blk w g T cs
theorem BlkF.lasts2 {N : Nat} {row : Option Nat} {Tt : List TypeId} {g : Nat} {T : TypeId} {cs : List Value} (hT : Tt.contains T = true) : Lasts2 N row Tt (BlkF N g T cs) :=
  ⟨fun _ _ h ⟨h1, h2⟩ => ⟨h1, h2.grown h (by simp)⟩, fun w w' r T' cc h1 h2 h3 h4 ⟨h5, h6⟩ => ⟨h5, h6.grown h4 (fun e => by
    have e := Option.some.inj e
    subst e
    unfold Blk at h6
    rw [h6] at h1
    injection h1 with h1
    injection h1 with _ h1 _
    subst h1
    exact h2 (by simpa using hT))⟩⟩
theorem Nx.blkF {e : Exit} {S : List (Nat × Value)} {K : World → Prop} {X : List (World → Prop)} {g : Nat} {T : TypeId} {cs : List Value} (hT : c.Tt.contains T = true) (h : Nx c Q e S K L O (BlkF c.w0.heap.size g T cs :: X)) : Nx c Q e S K ((g, T, cs) :: L) O X := fun a w ha hm =>
  h a w ha ((hm.sub (List.sublist_cons_self ..)).also (BlkF.lasts2 hT) ⟨(hm.b _ (List.mem_cons_self ..)).1, (hm.b _ (List.mem_cons_self ..)).2⟩)
theorem Nx.facts {e : Exit} {S : List (Nat × Value)} {K : World → Prop} {X X' : List (World → Prop)} (hx : ∀ A ∈ X', A ∈ X) (h : Nx c Q e S K L O X') : Nx c Q e S K L O X := fun a w ha hm =>
  h a w ha ⟨hm.g, hm.k, hm.b, hm.nd, hm.o, hm.od, hm.oo, fun A hA => hm.x A (hx A hA), hm.kk, fun A hA => hm.l A (hx A hA), hm.rs⟩
theorem WL.facts {l : List Oper} {S : List (Nat × Value)} {K : World → Prop} {X X' : List (World → Prop)} (hx : ∀ A ∈ X', A ∈ X) (h : WL P c ops Q l S K L O X') : WL P c ops Q l S K L O X := fun a w ha hm =>
  h a w ha ⟨hm.g, hm.k, hm.b, hm.nd, hm.o, hm.od, hm.oo, fun A hA => hm.x A (hx A hA), hm.kk, fun A hA => hm.l A (hx A hA), hm.rs⟩
theorem pre_look {S : List (Nat × Value)} : ∀ {pre : List (Nat × Value)}, (∀ x ∈ pre, look S x.1 = some x.2) → ∀ t, look (pre ++ S) t = look S t
  | [], _, t => rfl
  | (k, v) :: r, h, t => by
    rw [List.cons_append, look]
    cases hb : Nat.beq k t
    · rw [cond_false]; exact pre_look (fun x hx => h x (List.mem_cons_of_mem _ hx)) t
    · rw [cond_true]
      have := h (k, v) (List.mem_cons_self ..)
      rw [Nat.eq_of_beq_eq_true hb] at this
      exact this.symm
theorem all_sub {S : List (Nat × Value)} : ∀ {S0 : List (Nat × Value)}, (∀ x ∈ S0, look S x.1 = some x.2) → Sub S S0
  | [], _ => trivial
  | (k, v) :: _, h => ⟨h (k, v) (List.mem_cons_self ..), all_sub fun x hx => h x (List.mem_cons_of_mem _ hx)⟩
theorem sub_all {S : List (Nat × Value)} : ∀ {S0 : List (Nat × Value)}, Sub S S0 → ∀ x ∈ S0, look S x.1 = some x.2
  | [], _, x, hx => by cases hx
  | (_, _) :: _, h, x, hx => by
    rcases List.mem_cons.1 hx with rfl | hx
    · exact h.1
    · exact sub_all h.2 x hx
def AllIn : List (World → Prop) → List (World → Prop) → Prop
  | [], _ => True
  | A :: r, X => A ∈ X ∧ AllIn r X
theorem AllIn.mem {X : List (World → Prop)} : ∀ {l : List (World → Prop)}, AllIn l X → ∀ A ∈ l, A ∈ X
  | [], _, A, hA => by cases hA
  | _ :: _, h, A, hA => by
    rcases List.mem_cons.1 hA with rfl | hA
    · exact h.1
    · exact AllIn.mem h.2 A hA
theorem known_of {its : List Item} {i : Nat} {t : Item} {S : List (Nat × Value)} {X : List (World → Prop)} (h : ∃ u, its[i]? = some u ∧ u.Known S X) (ht : its[i]? = some t) : t.Known S X := by
  obtain ⟨u, hu, hk⟩ := h
  rw [hu] at ht
  rw [← Option.some.inj ht]; exact hk
/-- What is wanted of the others is laid in front. -/
theorem step_open {o : Oper} {t : Item} {QQ : Exit → Act → World → Prop} {S : List (Nat × Value)} {K K' : World → Prop} {X : List (World → Prop)} (pre : List (Nat × Value)) (fs : List (World → Prop)) (hp' : Sub S pre) (hf' : AllIn fs X)
    (hH : ∀ g, t.Ph g → Nx c QQ .normal ((t.d, t.v g) :: S) K' L O (t.X g ++ X))
    (h : (∀ g, t.Ph g → Nx c QQ .normal ((t.d, t.v g) :: (pre ++ S)) K' L O (t.X g ++ (fs ++ X))) → WL P c ops QQ [o] (pre ++ S) K L O (fs ++ X)) : WL P c ops QQ [o] S K L O X := by
  have hp := sub_all hp'
  have hf := hf'.mem
  have hin : ∀ A ∈ fs ++ X, A ∈ X := fun A hA => by
    rcases List.mem_append.1 hA with h | h
    · exact hf A h
    · exact h
  refine WL.facts (X' := fs ++ X) hin fun a w ha hm => h (fun g hg => ?_) a w ⟨ha.size, fun t v ht => ha.val t v (by rw [← pre_look hp t]; exact ht), ha.df⟩ hm
  refine Nx.facts (X' := t.X g ++ X) (fun A hA => ?_) fun a w ha hm => hH g hg a w ⟨ha.size, fun u v hu => ha.val u v (by
    rcases beq_look hu with ⟨rfl, rfl⟩ | ⟨hne, hu⟩
    · simp [look]
    · rw [look_ne hne, pre_look hp]; exact hu), ha.df⟩ hm
  rcases List.mem_append.1 hA with h | h
  · exact List.mem_append_left _ h
  · exact List.mem_append_right _ (List.mem_append_right _ h)
theorem Nx.fin {e : Exit} {S : List (Nat × Value)} {K : World → Prop} {l X X' : List (World → Prop)} (hl : AllIn l X') (hx : ∀ A ∈ X, A ∈ X') (h : Nx c Q e S K L O (l ++ X)) : Nx c Q e S K L O X' := Nx.facts (fun A hA => by
    rcases List.mem_append.1 hA with h | h
    · exact hl.mem A h
    · exact hx A h) h
theorem Mem.allIn {K : World → Prop} {X X' : List (World → Prop)} {w : World} (hx : AllIn X' X) (hm : Mem c K L O X w) : Mem c K L O X' w := ⟨hm.g, hm.k, hm.b, hm.nd, hm.o, hm.od, hm.oo, fun A hA => hm.x A (hx.mem A hA), hm.kk, fun A hA => hm.l A (hx.mem A hA), hm.rs⟩
theorem Nx.kmore {e : Exit} {S : List (Nat × Value)} {TS : TypeId} {B sb m m' : Nat} {X : List (World → Prop)} (hrow : c.row = some sb) (hm' : m ≤ m') (h : Nx c Q e S (fun w => Strm TS w B sb m') L O X) : Nx c Q e S (fun w => Strm TS w B sb m) L O X := fun a w ha hm => h a w ha (hm.more hrow hm')
end
end Go.Proofs.YtdoooppeiphefaaGreatDoor
namespace Go.Proofs.YtdoooppeiphefaaGreatDoor
open Go.RowKit
def askI (N sb : Nat) : List Item := [
  ⟨Unit, 3, (fun _ => .pointer (some ⟨sb, 0, none⟩)), (fun _ => True), (fun _ => [])⟩,
  ⟨Nat, 4, (fun (g : Nat) => .slice (some ⟨g, 0, none⟩) 6 6), (fun _ => True), (fun (g : Nat) => [BlkF N g 9 [.string ⟨#[109, 105, 110, 105]⟩, .string ⟨#[109, 105, 110, 105]⟩, .string ⟨#[109, 105, 100, 105]⟩, .string ⟨#[109, 97, 120, 105]⟩, .string ⟨#[110, 111, 110, 101]⟩, .string ⟨#[65]⟩]])⟩,
  ⟨ByteArray, 5, (fun (g : ByteArray) => .string g), (fun (g : ByteArray) => g.size ≤ 100), (fun _ => [])⟩,
  ⟨Unit, 6, (fun _ => .pointer (some ⟨sb, 0, none⟩)), (fun _ => True), (fun _ => [])⟩,
  ⟨Int × Int, 7, (fun (g : Int × Int) => .agg #[.int .i64 g.1, .int .i64 g.2]), (fun (g : Int × Int) => Far g.1 ∧ Far g.2), (fun _ => [])⟩,
  ⟨Unit, 8, (fun _ => .pointer (some ⟨sb, 0, none⟩)), (fun _ => True), (fun _ => [])⟩,
  ⟨Nat, 9, (fun (g : Nat) => .slice (some ⟨g, 0, none⟩) 4 4), (fun _ => True), (fun (g : Nat) => [BlkF N g 9 [.string ⟨#[115, 49]⟩, .string ⟨#[115, 49]⟩, .string ⟨#[115, 50]⟩, .string ⟨#[65]⟩]])⟩,
  ⟨ByteArray, 10, (fun (g : ByteArray) => .string g), (fun (g : ByteArray) => g.size ≤ 100), (fun _ => [])⟩,
  ⟨Unit, 11, (fun _ => .pointer (some ⟨sb, 0, none⟩)), (fun _ => True), (fun _ => [])⟩,
  ⟨Nat, 12, (fun (g : Nat) => .slice (some ⟨g, 0, none⟩) 5 5), (fun _ => True), (fun (g : Nat) => [BlkF N g 9 [.string ⟨#[115, 49]⟩, .string ⟨#[115, 49]⟩, .string ⟨#[115, 50]⟩, .string ⟨#[115, 51]⟩, .string ⟨#[]⟩]])⟩,
  ⟨ByteArray, 13, (fun (g : ByteArray) => .string g), (fun (g : ByteArray) => g.size ≤ 100), (fun _ => [])⟩,
  ⟨Nat, 14, (fun (g : Nat) => .slice (some ⟨g, 0, none⟩) 1 1), (fun _ => True), (fun (g : Nat) => [BlkF N g 9 [.string ⟨#[109, 97, 112]⟩]])⟩,
  ⟨Nat, 15, (fun (g : Nat) => .slice (some ⟨g, 0, none⟩) 2 2), (fun _ => True), (fun (g : Nat) => [BlkF N g 9 [.string ⟨#[115, 101, 97, 116]⟩, .string ⟨#[109, 97, 112]⟩]])⟩,
  ⟨Nat, 16, (fun (g : Nat) => .slice (some ⟨g, 0, none⟩) 1 1), (fun _ => True), (fun (g : Nat) => [BlkF N g 9 [.string ⟨#[110, 111, 110, 101]⟩]])⟩,
  ⟨Nat, 17, (fun (g : Nat) => .slice (some ⟨g, 0, none⟩) 2 2), (fun _ => True), (fun (g : Nat) => [BlkF N g 9 [.string ⟨#[109, 97, 112]⟩, .string ⟨#[109, 97, 112]⟩]])⟩,
  ⟨Nat × Nat × Nat × Nat × Nat, 18, (fun (g : Nat × Nat × Nat × Nat × Nat) => .slice (some ⟨g.1, 0, none⟩) 5 5), (fun _ => True), (fun (g : Nat × Nat × Nat × Nat × Nat) => [BlkF N g.1 79 [.slice none 0 0, .slice (some ⟨g.2.1, 0, none⟩) 1 1, .slice (some ⟨g.2.2.1, 0, none⟩) 2 2, .slice (some ⟨g.2.2.2.1, 0, none⟩) 1 1, .slice (some ⟨g.2.2.2.2, 0, none⟩) 2 2], BlkF N g.2.1 9 [.string ⟨#[109, 97, 112]⟩], BlkF N g.2.2.1 9 [.string ⟨#[115, 101, 97, 116]⟩, .string ⟨#[109, 97, 112]⟩], BlkF N g.2.2.2.1 9 [.string ⟨#[110, 111, 110, 101]⟩], BlkF N g.2.2.2.2 9 [.string ⟨#[109, 97, 112]⟩, .string ⟨#[109, 97, 112]⟩]])⟩,
  ⟨Unit, 19, (fun _ => .pointer (some ⟨sb, 0, none⟩)), (fun _ => True), (fun _ => [])⟩,
  ⟨Nat, 20, (fun (g : Nat) => .slice (some ⟨g, 0, none⟩) 7 7), (fun _ => True), (fun (g : Nat) => [BlkF N g 3 [.int .i64 0, .int .i64 0, .int .i64 1, .int .i64 2, .int .i64 2, .int .i64 3, .int .i64 4]])⟩,
  ⟨Int, 21, (fun (g : Int) => .int .i64 g), (fun (g : Int) => g ∈ ([0, 0, 1, 2, 2, 3, 4] : List Int)), (fun _ => [])⟩,
  ⟨Nat × Nat × Nat × Nat × Nat × Nat, 22, (fun (g : Nat × Nat × Nat × Nat × Nat × Nat) => .pointer (some ⟨g.1, g.2.2.2.2.2, none⟩)), (fun (g : Nat × Nat × Nat × Nat × Nat × Nat) => g.2.2.2.2.2 ≤ 4), (fun (g : Nat × Nat × Nat × Nat × Nat × Nat) => [BlkF N g.1 79 [.slice none 0 0, .slice (some ⟨g.2.1, 0, none⟩) 1 1, .slice (some ⟨g.2.2.1, 0, none⟩) 2 2, .slice (some ⟨g.2.2.2.1, 0, none⟩) 1 1, .slice (some ⟨g.2.2.2.2.1, 0, none⟩) 2 2], BlkF N g.2.1 9 [.string ⟨#[109, 97, 112]⟩], BlkF N g.2.2.1 9 [.string ⟨#[115, 101, 97, 116]⟩, .string ⟨#[109, 97, 112]⟩], BlkF N g.2.2.2.1 9 [.string ⟨#[110, 111, 110, 101]⟩], BlkF N g.2.2.2.2.1 9 [.string ⟨#[109, 97, 112]⟩, .string ⟨#[109, 97, 112]⟩]])⟩,
  ⟨Option Addr × Nat × Nat × List ByteArray, 23, (fun (g : Option Addr × Nat × Nat × List ByteArray) => .slice g.1 g.2.1 g.2.2.1), (fun (g : Option Addr × Nat × Nat × List ByteArray) => (∀ x ∈ g.2.2.2, x.size ≤ 100) ∧ g.2.1 ≤ 2 ∧ g.2.1 ≤ g.2.2.1), (fun (g : Option Addr × Nat × Nat × List ByteArray) => [fun w => SlT sgEnc 1 9 w g.1 g.2.1 g.2.2.2])⟩,
  ⟨Unit, 24, (fun _ => .pointer (some ⟨sb, 0, none⟩)), (fun _ => True), (fun _ => [])⟩,
  ⟨Option Addr × Nat × Nat × List ByteArray, 25, (fun (g : Option Addr × Nat × Nat × List ByteArray) => .slice g.1 g.2.1 g.2.2.1), (fun (g : Option Addr × Nat × Nat × List ByteArray) => (∀ x ∈ g.2.2.2, x.size ≤ 100) ∧ g.2.1 ≤ 3 ∧ g.2.1 ≤ g.2.2.1), (fun (g : Option Addr × Nat × Nat × List ByteArray) => [fun w => SlT sgEnc 1 9 w g.1 g.2.1 g.2.2.2])⟩,
  ⟨ByteArray × Int × Int × ByteArray × ByteArray × Option Addr × Nat × Nat × List ByteArray × Option Addr × Nat × Nat × List ByteArray, 26, (fun (g : ByteArray × Int × Int × ByteArray × ByteArray × Option Addr × Nat × Nat × List ByteArray × Option Addr × Nat × Nat × List ByteArray) => .agg #[.string g.1, .int .i64 g.2.1, .int .i64 g.2.2.1, .string g.2.2.2.1, .string g.2.2.2.2.1, .slice g.2.2.2.2.2.1 g.2.2.2.2.2.2.1 g.2.2.2.2.2.2.2.1, .slice g.2.2.2.2.2.2.2.2.2.1 g.2.2.2.2.2.2.2.2.2.2.1 g.2.2.2.2.2.2.2.2.2.2.2.1]), (fun (g : ByteArray × Int × Int × ByteArray × ByteArray × Option Addr × Nat × Nat × List ByteArray × Option Addr × Nat × Nat × List ByteArray) => (g.1.size ≤ 100 ∧ g.2.2.2.1.size ≤ 100 ∧ g.2.2.2.2.1.size ≤ 100) ∧ (Far g.2.1 ∧ Far g.2.2.1) ∧ ((∀ x ∈ g.2.2.2.2.2.2.2.2.1, x.size ≤ 100) ∧ g.2.2.2.2.2.2.1 ≤ 2 ∧ g.2.2.2.2.2.2.1 ≤ g.2.2.2.2.2.2.2.1) ∧ ((∀ x ∈ g.2.2.2.2.2.2.2.2.2.2.2.2, x.size ≤ 100) ∧ g.2.2.2.2.2.2.2.2.2.2.1 ≤ 3 ∧ g.2.2.2.2.2.2.2.2.2.2.1 ≤ g.2.2.2.2.2.2.2.2.2.2.2.1)), (fun (g : ByteArray × Int × Int × ByteArray × ByteArray × Option Addr × Nat × Nat × List ByteArray × Option Addr × Nat × Nat × List ByteArray) => [fun w => SlT sgEnc 1 9 w g.2.2.2.2.2.1 g.2.2.2.2.2.2.1 g.2.2.2.2.2.2.2.2.1, fun w => SlT sgEnc 1 9 w g.2.2.2.2.2.2.2.2.2.1 g.2.2.2.2.2.2.2.2.2.2.1 g.2.2.2.2.2.2.2.2.2.2.2.2])⟩]
theorem gask_any (w : World) (B sb m : Nat) (hS : Strm 25 w B sb m) (hm : m ≤ 10000000000) :
  Calls Tryz.prog 31 #[.pointer (some ⟨sb, 0, none⟩)] w (fun e w' => ∃ (q5 : ByteArray) (qf qt : Int) (q10 q13 : ByteArray) (A3 : Option Addr) (n3 c3 : Nat) (l3 : List ByteArray) (A4 : Option Addr) (n4 c4 : Nat) (l4 : List ByteArray), e = .returned (.agg #[.string q5, .int .i64 qf, .int .i64 qt, .string q10, .string q13, .slice A3 n3 c3, .slice A4 n4 c4]) ∧ ((q5.size ≤ 100 ∧ q10.size ≤ 100 ∧ q13.size ≤ 100) ∧ (Far qf ∧ Far qt) ∧ ((∀ x ∈ l3, x.size ≤ 100) ∧ n3 ≤ 2 ∧ n3 ≤ c3) ∧ ((∀ x ∈ l4, x.size ≤ 100) ∧ n4 ≤ 3 ∧ n4 ≤ c4)) ∧ SlT sgEnc 1 9 w' A3 n3 l3 ∧ SlT sgEnc 1 9 w' A4 n4 l4 ∧ Strm 25 w' B sb (m + 1000) ∧ w.grownBy w' (some sb)) := by
 refine gw_enter ⟨27, w, (some sb), [9, 3, 79]⟩ Tryz.func31 rfl Tryz.ntmps31 rfl (memS (X := []) hS allF_nil allL_nil) ?_
 refine sr_ ?_
 refine wl_alloc zc81 rfl fun g1 => ?_
 refine nn_ (gw_seq ?_)
 refine gw_draw (fun _ => True) mixed ?_
 refine wa_family (its := (askI w.heap.size sb)) (K := fun k w => Strm 25 w B sb (m + 30 * k)) (S0 := [(0, .pointer (some ⟨sb, 0, none⟩)), (2, .pointer (some ⟨g1, 0, none⟩))]) (X0 := []) rfl rfl rfl rfl (fun _ => trivial) ⟨?_, ?_, ?_, ?_, ?_, ?_, ?_, ?_, ?_, ?_, ?_, ?_, ?_, ?_, ?_, ?_, ?_, ?_, ?_, ?_, ?_, ?_, ?_, ?_, trivial⟩ ?_ (sub_all ⟨rfl, rfl, trivial⟩) (fun _ h => by cases h)
 ·refine ⟨_, rfl, fun QQ S X k hk hS0 _ hdep hH => ?_⟩
  replace hk : k < 24 := hk
  obtain ⟨s0, s2, _⟩ := all_sub hS0
  refine step_open [(0, .pointer (some ⟨sb, 0, none⟩)), (2, .pointer (some ⟨g1, 0, none⟩))] [] ⟨s0, s2, trivial⟩ trivial hH fun hH => ?_
  show WL _ _ _ _ _ _ (fun w => Strm 25 w B sb (m + 30 * k)) _ _ _
  refine mv_ rfl (wl_nil ?_)
  refine Nx.kmore (m' := m + 30 * (k + 1)) rfl (by omega) ?_
  exact Nx.fin (l := []) trivial (fun A hA => hA) (hH () trivial)
 ·refine ⟨_, rfl, fun QQ S X k hk hS0 _ hdep hH => ?_⟩
  replace hk : k < 24 := hk
  obtain ⟨s0, s2, _⟩ := all_sub hS0
  refine step_open [(0, .pointer (some ⟨sb, 0, none⟩)), (2, .pointer (some ⟨g1, 0, none⟩))] [] ⟨s0, s2, trivial⟩ trivial hH fun hH => ?_
  show WL _ _ _ _ _ _ (fun w => Strm 25 w B sb (m + 30 * k)) _ _ _
  refine wl_buildSlice (e := 9) (cs := [.string ⟨#[109, 105, 110, 105]⟩, .string ⟨#[109, 105, 110, 105]⟩, .string ⟨#[109, 105, 100, 105]⟩, .string ⟨#[109, 97, 120, 105]⟩, .string ⟨#[110, 111, 110, 101]⟩, .string ⟨#[65]⟩]) rfl (by kernel_rfl) rfl fun g2 => ?_
  refine wl_nil ?_
  refine Nx.blkF rfl ?_
  refine Nx.kmore (m' := m + 30 * (k + 1)) rfl (by omega) ?_
  exact Nx.fin (l := [BlkF w.heap.size g2 9 [.string ⟨#[109, 105, 110, 105]⟩, .string ⟨#[109, 105, 110, 105]⟩, .string ⟨#[109, 105, 100, 105]⟩, .string ⟨#[109, 97, 120, 105]⟩, .string ⟨#[110, 111, 110, 101]⟩, .string ⟨#[65]⟩]]) ⟨(List.mem_cons_self ..), trivial⟩ (fun A hA => (List.mem_cons_of_mem _ hA)) (hH g2 trivial)
 ·refine ⟨_, rfl, fun QQ S X k hk hS0 _ hdep hH => ?_⟩
  replace hk : k < 24 := hk
  obtain ⟨_, hp0, hl0, hx0⟩ := (known_of (hdep _ (Array.mem_of_getElem? (i := 0) rfl) rfl) rfl)
  clear hp0
  replace hl0 : look S 3 = some (.pointer (some ⟨sb, 0, none⟩)) := hl0
  obtain ⟨y1, hp1, hl1, hx1⟩ := (known_of (hdep _ (Array.mem_of_getElem? (i := 1) rfl) rfl) rfl)
  clear hp1
  replace hl1 : look S 4 = some (.slice (some ⟨y1, 0, none⟩) 6 6) := hl1
  have hf1_0 := hx1 (BlkF w.heap.size y1 9 [.string ⟨#[109, 105, 110, 105]⟩, .string ⟨#[109, 105, 110, 105]⟩, .string ⟨#[109, 105, 100, 105]⟩, .string ⟨#[109, 97, 120, 105]⟩, .string ⟨#[110, 111, 110, 101]⟩, .string ⟨#[65]⟩]) (List.mem_cons_self ..)
  obtain ⟨s0, s2, _⟩ := all_sub hS0
  refine step_open [(3, .pointer (some ⟨sb, 0, none⟩)), (4, .slice (some ⟨y1, 0, none⟩) 6 6), (0, .pointer (some ⟨sb, 0, none⟩)), (2, .pointer (some ⟨g1, 0, none⟩))] [BlkF w.heap.size y1 9 [.string ⟨#[109, 105, 110, 105]⟩, .string ⟨#[109, 105, 110, 105]⟩, .string ⟨#[109, 105, 100, 105]⟩, .string ⟨#[109, 97, 120, 105]⟩, .string ⟨#[110, 111, 110, 101]⟩, .string ⟨#[65]⟩]] ⟨hl0, hl1, s0, s2, trivial⟩ ⟨hf1_0, trivial⟩ hH fun hH => ?_
  show WL _ _ _ _ _ _ (fun w => Strm 25 w B sb (m + 30 * k)) _ _ _
  refine wl_got (γ := ByteArray) (val := fun v => .string v) (φ := fun v => v ∈ ([⟨#[109, 105, 110, 105]⟩, ⟨#[109, 105, 110, 105]⟩, ⟨#[109, 105, 100, 105]⟩, ⟨#[109, 97, 120, 105]⟩, ⟨#[110, 111, 110, 101]⟩, ⟨#[65]⟩] : List ByteArray)) rfl cb62 rfl rfl rfl rfl (fun wx hm => (some_any [⟨#[109, 105, 110, 105]⟩, ⟨#[109, 105, 110, 105]⟩, ⟨#[109, 105, 100, 105]⟩, ⟨#[109, 97, 120, 105]⟩, ⟨#[110, 111, 110, 101]⟩, ⟨#[65]⟩] _ _ _ wx B sb _ hm.k (by omega) (by simp) (by simp) (hm.fact 0 rfl).2 (fun e => by have h1 : w.heap.size ≤ y1 := (hm.fact 0 rfl).1; have h2 : sb < w.heap.size := hm.rs _ rfl; omega))) fun k5 hk5 => ?_
  have zk5 : k5.size ≤ 100 := mem_sz hk5 (by decide)
  refine wl_nil ?_
  refine Nx.kmore (m' := m + 30 * (k + 1)) rfl (by omega) ?_
  exact Nx.fin (l := []) trivial (fun A hA => hA) (hH k5 zk5)
 ·refine ⟨_, rfl, fun QQ S X k hk hS0 _ hdep hH => ?_⟩
  replace hk : k < 24 := hk
  obtain ⟨s0, s2, _⟩ := all_sub hS0
  refine step_open [(0, .pointer (some ⟨sb, 0, none⟩)), (2, .pointer (some ⟨g1, 0, none⟩))] [] ⟨s0, s2, trivial⟩ trivial hH fun hH => ?_
  show WL _ _ _ _ _ _ (fun w => Strm 25 w B sb (m + 30 * k)) _ _ _
  refine mv_ rfl (wl_nil ?_)
  refine Nx.kmore (m' := m + 30 * (k + 1)) rfl (by omega) ?_
  exact Nx.fin (l := []) trivial (fun A hA => hA) (hH () trivial)
 ·refine ⟨_, rfl, fun QQ S X k hk hS0 _ hdep hH => ?_⟩
  replace hk : k < 24 := hk
  obtain ⟨_, hp3, hl3, hx3⟩ := (known_of (hdep _ (Array.mem_of_getElem? (i := 0) rfl) rfl) rfl)
  clear hp3
  replace hl3 : look S 6 = some (.pointer (some ⟨sb, 0, none⟩)) := hl3
  obtain ⟨s0, s2, _⟩ := all_sub hS0
  refine step_open [(6, .pointer (some ⟨sb, 0, none⟩)), (0, .pointer (some ⟨sb, 0, none⟩)), (2, .pointer (some ⟨g1, 0, none⟩))] [] ⟨hl3, s0, s2, trivial⟩ trivial hH fun hH => ?_
  show WL _ _ _ _ _ _ (fun w => Strm 25 w B sb (m + 30 * k)) _ _ _
  refine wl_calls (γ := Int × Int) (val := (fun g => .agg #[.int .i64 g.1, .int .i64 g.2])) (φ := (fun g => Far g.1 ∧ Far g.2)) (Y := (fun g => fun _ => True)) (m' := m + 30 * k + 10) rfl cb99 rfl rfl rfl rfl (fun wx hm => (gtime_any wx B sb _ hm.k (by omega)).mono fun _ _ ⟨fr, tt, h1, h2, he, hS, hg⟩ => ⟨(fr, tt), he, ⟨h1, h2⟩, hS, hg, trivial⟩) (fun _ => Lasts2.true_) ?_
  rintro ⟨fr, tt⟩ hft
  dsimp only at hft ⊢
  refine wl_nil ?_
  refine Nx.kmore (m' := m + 30 * (k + 1)) rfl (by omega) ?_
  exact Nx.fin (l := []) trivial (fun A hA => (List.mem_cons_of_mem _ hA)) (hH ⟨fr, tt⟩ hft)
 ·refine ⟨_, rfl, fun QQ S X k hk hS0 _ hdep hH => ?_⟩
  replace hk : k < 24 := hk
  obtain ⟨s0, s2, _⟩ := all_sub hS0
  refine step_open [(0, .pointer (some ⟨sb, 0, none⟩)), (2, .pointer (some ⟨g1, 0, none⟩))] [] ⟨s0, s2, trivial⟩ trivial hH fun hH => ?_
  show WL _ _ _ _ _ _ (fun w => Strm 25 w B sb (m + 30 * k)) _ _ _
  refine mv_ rfl (wl_nil ?_)
  refine Nx.kmore (m' := m + 30 * (k + 1)) rfl (by omega) ?_
  exact Nx.fin (l := []) trivial (fun A hA => hA) (hH () trivial)
 ·refine ⟨_, rfl, fun QQ S X k hk hS0 _ hdep hH => ?_⟩
  replace hk : k < 24 := hk
  obtain ⟨s0, s2, _⟩ := all_sub hS0
  refine step_open [(0, .pointer (some ⟨sb, 0, none⟩)), (2, .pointer (some ⟨g1, 0, none⟩))] [] ⟨s0, s2, trivial⟩ trivial hH fun hH => ?_
  show WL _ _ _ _ _ _ (fun w => Strm 25 w B sb (m + 30 * k)) _ _ _
  refine wl_buildSlice (e := 9) (cs := [.string ⟨#[115, 49]⟩, .string ⟨#[115, 49]⟩, .string ⟨#[115, 50]⟩, .string ⟨#[65]⟩]) rfl (by kernel_rfl) rfl fun g4 => ?_
  refine wl_nil ?_
  refine Nx.blkF rfl ?_
  refine Nx.kmore (m' := m + 30 * (k + 1)) rfl (by omega) ?_
  exact Nx.fin (l := [BlkF w.heap.size g4 9 [.string ⟨#[115, 49]⟩, .string ⟨#[115, 49]⟩, .string ⟨#[115, 50]⟩, .string ⟨#[65]⟩]]) ⟨(List.mem_cons_self ..), trivial⟩ (fun A hA => (List.mem_cons_of_mem _ hA)) (hH g4 trivial)
 ·refine ⟨_, rfl, fun QQ S X k hk hS0 _ hdep hH => ?_⟩
  replace hk : k < 24 := hk
  obtain ⟨_, hp5, hl5, hx5⟩ := (known_of (hdep _ (Array.mem_of_getElem? (i := 0) rfl) rfl) rfl)
  clear hp5
  replace hl5 : look S 8 = some (.pointer (some ⟨sb, 0, none⟩)) := hl5
  obtain ⟨y6, hp6, hl6, hx6⟩ := (known_of (hdep _ (Array.mem_of_getElem? (i := 1) rfl) rfl) rfl)
  clear hp6
  replace hl6 : look S 9 = some (.slice (some ⟨y6, 0, none⟩) 4 4) := hl6
  have hf6_0 := hx6 (BlkF w.heap.size y6 9 [.string ⟨#[115, 49]⟩, .string ⟨#[115, 49]⟩, .string ⟨#[115, 50]⟩, .string ⟨#[65]⟩]) (List.mem_cons_self ..)
  obtain ⟨s0, s2, _⟩ := all_sub hS0
  refine step_open [(8, .pointer (some ⟨sb, 0, none⟩)), (9, .slice (some ⟨y6, 0, none⟩) 4 4), (0, .pointer (some ⟨sb, 0, none⟩)), (2, .pointer (some ⟨g1, 0, none⟩))] [BlkF w.heap.size y6 9 [.string ⟨#[115, 49]⟩, .string ⟨#[115, 49]⟩, .string ⟨#[115, 50]⟩, .string ⟨#[65]⟩]] ⟨hl5, hl6, s0, s2, trivial⟩ ⟨hf6_0, trivial⟩ hH fun hH => ?_
  show WL _ _ _ _ _ _ (fun w => Strm 25 w B sb (m + 30 * k)) _ _ _
  refine wl_got (γ := ByteArray) (val := fun v => .string v) (φ := fun v => v ∈ ([⟨#[115, 49]⟩, ⟨#[115, 49]⟩, ⟨#[115, 50]⟩, ⟨#[65]⟩] : List ByteArray)) rfl cb62 rfl rfl rfl rfl (fun wx hm => (some_any [⟨#[115, 49]⟩, ⟨#[115, 49]⟩, ⟨#[115, 50]⟩, ⟨#[65]⟩] _ _ _ wx B sb _ hm.k (by omega) (by simp) (by simp) (hm.fact 0 rfl).2 (fun e => by have h1 : w.heap.size ≤ y6 := (hm.fact 0 rfl).1; have h2 : sb < w.heap.size := hm.rs _ rfl; omega))) fun k10 hk10 => ?_
  have zk10 : k10.size ≤ 100 := mem_sz hk10 (by decide)
  refine wl_nil ?_
  refine Nx.kmore (m' := m + 30 * (k + 1)) rfl (by omega) ?_
  exact Nx.fin (l := []) trivial (fun A hA => hA) (hH k10 zk10)
 ·refine ⟨_, rfl, fun QQ S X k hk hS0 _ hdep hH => ?_⟩
  replace hk : k < 24 := hk
  obtain ⟨s0, s2, _⟩ := all_sub hS0
  refine step_open [(0, .pointer (some ⟨sb, 0, none⟩)), (2, .pointer (some ⟨g1, 0, none⟩))] [] ⟨s0, s2, trivial⟩ trivial hH fun hH => ?_
  show WL _ _ _ _ _ _ (fun w => Strm 25 w B sb (m + 30 * k)) _ _ _
  refine mv_ rfl (wl_nil ?_)
  refine Nx.kmore (m' := m + 30 * (k + 1)) rfl (by omega) ?_
  exact Nx.fin (l := []) trivial (fun A hA => hA) (hH () trivial)
 ·refine ⟨_, rfl, fun QQ S X k hk hS0 _ hdep hH => ?_⟩
  replace hk : k < 24 := hk
  obtain ⟨s0, s2, _⟩ := all_sub hS0
  refine step_open [(0, .pointer (some ⟨sb, 0, none⟩)), (2, .pointer (some ⟨g1, 0, none⟩))] [] ⟨s0, s2, trivial⟩ trivial hH fun hH => ?_
  show WL _ _ _ _ _ _ (fun w => Strm 25 w B sb (m + 30 * k)) _ _ _
  refine wl_buildSlice (e := 9) (cs := [.string ⟨#[115, 49]⟩, .string ⟨#[115, 49]⟩, .string ⟨#[115, 50]⟩, .string ⟨#[115, 51]⟩, .string ⟨#[]⟩]) rfl (by kernel_rfl) rfl fun g5 => ?_
  refine wl_nil ?_
  refine Nx.blkF rfl ?_
  refine Nx.kmore (m' := m + 30 * (k + 1)) rfl (by omega) ?_
  exact Nx.fin (l := [BlkF w.heap.size g5 9 [.string ⟨#[115, 49]⟩, .string ⟨#[115, 49]⟩, .string ⟨#[115, 50]⟩, .string ⟨#[115, 51]⟩, .string ⟨#[]⟩]]) ⟨(List.mem_cons_self ..), trivial⟩ (fun A hA => (List.mem_cons_of_mem _ hA)) (hH g5 trivial)
 ·refine ⟨_, rfl, fun QQ S X k hk hS0 _ hdep hH => ?_⟩
  replace hk : k < 24 := hk
  obtain ⟨_, hp8, hl8, hx8⟩ := (known_of (hdep _ (Array.mem_of_getElem? (i := 0) rfl) rfl) rfl)
  clear hp8
  replace hl8 : look S 11 = some (.pointer (some ⟨sb, 0, none⟩)) := hl8
  obtain ⟨y9, hp9, hl9, hx9⟩ := (known_of (hdep _ (Array.mem_of_getElem? (i := 1) rfl) rfl) rfl)
  clear hp9
  replace hl9 : look S 12 = some (.slice (some ⟨y9, 0, none⟩) 5 5) := hl9
  have hf9_0 := hx9 (BlkF w.heap.size y9 9 [.string ⟨#[115, 49]⟩, .string ⟨#[115, 49]⟩, .string ⟨#[115, 50]⟩, .string ⟨#[115, 51]⟩, .string ⟨#[]⟩]) (List.mem_cons_self ..)
  obtain ⟨s0, s2, _⟩ := all_sub hS0
  refine step_open [(11, .pointer (some ⟨sb, 0, none⟩)), (12, .slice (some ⟨y9, 0, none⟩) 5 5), (0, .pointer (some ⟨sb, 0, none⟩)), (2, .pointer (some ⟨g1, 0, none⟩))] [BlkF w.heap.size y9 9 [.string ⟨#[115, 49]⟩, .string ⟨#[115, 49]⟩, .string ⟨#[115, 50]⟩, .string ⟨#[115, 51]⟩, .string ⟨#[]⟩]] ⟨hl8, hl9, s0, s2, trivial⟩ ⟨hf9_0, trivial⟩ hH fun hH => ?_
  show WL _ _ _ _ _ _ (fun w => Strm 25 w B sb (m + 30 * k)) _ _ _
  refine wl_got (γ := ByteArray) (val := fun v => .string v) (φ := fun v => v ∈ ([⟨#[115, 49]⟩, ⟨#[115, 49]⟩, ⟨#[115, 50]⟩, ⟨#[115, 51]⟩, ⟨#[]⟩] : List ByteArray)) rfl cb62 rfl rfl rfl rfl (fun wx hm => (some_any [⟨#[115, 49]⟩, ⟨#[115, 49]⟩, ⟨#[115, 50]⟩, ⟨#[115, 51]⟩, ⟨#[]⟩] _ _ _ wx B sb _ hm.k (by omega) (by simp) (by simp) (hm.fact 0 rfl).2 (fun e => by have h1 : w.heap.size ≤ y9 := (hm.fact 0 rfl).1; have h2 : sb < w.heap.size := hm.rs _ rfl; omega))) fun k13 hk13 => ?_
  have zk13 : k13.size ≤ 100 := mem_sz hk13 (by decide)
  refine wl_nil ?_
  refine Nx.kmore (m' := m + 30 * (k + 1)) rfl (by omega) ?_
  exact Nx.fin (l := []) trivial (fun A hA => hA) (hH k13 zk13)
 ·refine ⟨_, rfl, fun QQ S X k hk hS0 _ hdep hH => ?_⟩
  replace hk : k < 24 := hk
  obtain ⟨s0, s2, _⟩ := all_sub hS0
  refine step_open [(0, .pointer (some ⟨sb, 0, none⟩)), (2, .pointer (some ⟨g1, 0, none⟩))] [] ⟨s0, s2, trivial⟩ trivial hH fun hH => ?_
  show WL _ _ _ _ _ _ (fun w => Strm 25 w B sb (m + 30 * k)) _ _ _
  refine wl_buildSlice (e := 9) (cs := [.string ⟨#[109, 97, 112]⟩]) rfl (by kernel_rfl) rfl fun g6 => ?_
  refine wl_nil ?_
  refine Nx.blkF rfl ?_
  refine Nx.kmore (m' := m + 30 * (k + 1)) rfl (by omega) ?_
  exact Nx.fin (l := [BlkF w.heap.size g6 9 [.string ⟨#[109, 97, 112]⟩]]) ⟨(List.mem_cons_self ..), trivial⟩ (fun A hA => (List.mem_cons_of_mem _ hA)) (hH g6 trivial)
 ·refine ⟨_, rfl, fun QQ S X k hk hS0 _ hdep hH => ?_⟩
  replace hk : k < 24 := hk
  obtain ⟨s0, s2, _⟩ := all_sub hS0
  refine step_open [(0, .pointer (some ⟨sb, 0, none⟩)), (2, .pointer (some ⟨g1, 0, none⟩))] [] ⟨s0, s2, trivial⟩ trivial hH fun hH => ?_
  show WL _ _ _ _ _ _ (fun w => Strm 25 w B sb (m + 30 * k)) _ _ _
  refine wl_buildSlice (e := 9) (cs := [.string ⟨#[115, 101, 97, 116]⟩, .string ⟨#[109, 97, 112]⟩]) rfl (by kernel_rfl) rfl fun g7 => ?_
  refine wl_nil ?_
  refine Nx.blkF rfl ?_
  refine Nx.kmore (m' := m + 30 * (k + 1)) rfl (by omega) ?_
  exact Nx.fin (l := [BlkF w.heap.size g7 9 [.string ⟨#[115, 101, 97, 116]⟩, .string ⟨#[109, 97, 112]⟩]]) ⟨(List.mem_cons_self ..), trivial⟩ (fun A hA => (List.mem_cons_of_mem _ hA)) (hH g7 trivial)
 ·refine ⟨_, rfl, fun QQ S X k hk hS0 _ hdep hH => ?_⟩
  replace hk : k < 24 := hk
  obtain ⟨s0, s2, _⟩ := all_sub hS0
  refine step_open [(0, .pointer (some ⟨sb, 0, none⟩)), (2, .pointer (some ⟨g1, 0, none⟩))] [] ⟨s0, s2, trivial⟩ trivial hH fun hH => ?_
  show WL _ _ _ _ _ _ (fun w => Strm 25 w B sb (m + 30 * k)) _ _ _
  refine wl_buildSlice (e := 9) (cs := [.string ⟨#[110, 111, 110, 101]⟩]) rfl (by kernel_rfl) rfl fun g8 => ?_
  refine wl_nil ?_
  refine Nx.blkF rfl ?_
  refine Nx.kmore (m' := m + 30 * (k + 1)) rfl (by omega) ?_
  exact Nx.fin (l := [BlkF w.heap.size g8 9 [.string ⟨#[110, 111, 110, 101]⟩]]) ⟨(List.mem_cons_self ..), trivial⟩ (fun A hA => (List.mem_cons_of_mem _ hA)) (hH g8 trivial)
 ·refine ⟨_, rfl, fun QQ S X k hk hS0 _ hdep hH => ?_⟩
  replace hk : k < 24 := hk
  obtain ⟨s0, s2, _⟩ := all_sub hS0
  refine step_open [(0, .pointer (some ⟨sb, 0, none⟩)), (2, .pointer (some ⟨g1, 0, none⟩))] [] ⟨s0, s2, trivial⟩ trivial hH fun hH => ?_
  show WL _ _ _ _ _ _ (fun w => Strm 25 w B sb (m + 30 * k)) _ _ _
  refine wl_buildSlice (e := 9) (cs := [.string ⟨#[109, 97, 112]⟩, .string ⟨#[109, 97, 112]⟩]) rfl (by kernel_rfl) rfl fun g9 => ?_
  refine wl_nil ?_
  refine Nx.blkF rfl ?_
  refine Nx.kmore (m' := m + 30 * (k + 1)) rfl (by omega) ?_
  exact Nx.fin (l := [BlkF w.heap.size g9 9 [.string ⟨#[109, 97, 112]⟩, .string ⟨#[109, 97, 112]⟩]]) ⟨(List.mem_cons_self ..), trivial⟩ (fun A hA => (List.mem_cons_of_mem _ hA)) (hH g9 trivial)
 ·refine ⟨_, rfl, fun QQ S X k hk hS0 _ hdep hH => ?_⟩
  replace hk : k < 24 := hk
  obtain ⟨h11, hp11, hl11, hx11⟩ := (known_of (hdep _ (Array.mem_of_getElem? (i := 0) rfl) rfl) rfl)
  clear hp11
  replace hl11 : look S 14 = some (.slice (some ⟨h11, 0, none⟩) 1 1) := hl11
  have hf11_0 := hx11 (BlkF w.heap.size h11 9 [.string ⟨#[109, 97, 112]⟩]) (List.mem_cons_self ..)
  obtain ⟨h12, hp12, hl12, hx12⟩ := (known_of (hdep _ (Array.mem_of_getElem? (i := 1) rfl) rfl) rfl)
  clear hp12
  replace hl12 : look S 15 = some (.slice (some ⟨h12, 0, none⟩) 2 2) := hl12
  have hf12_0 := hx12 (BlkF w.heap.size h12 9 [.string ⟨#[115, 101, 97, 116]⟩, .string ⟨#[109, 97, 112]⟩]) (List.mem_cons_self ..)
  obtain ⟨h13, hp13, hl13, hx13⟩ := (known_of (hdep _ (Array.mem_of_getElem? (i := 2) rfl) rfl) rfl)
  clear hp13
  replace hl13 : look S 16 = some (.slice (some ⟨h13, 0, none⟩) 1 1) := hl13
  have hf13_0 := hx13 (BlkF w.heap.size h13 9 [.string ⟨#[110, 111, 110, 101]⟩]) (List.mem_cons_self ..)
  obtain ⟨h14, hp14, hl14, hx14⟩ := (known_of (hdep _ (Array.mem_of_getElem? (i := 3) rfl) rfl) rfl)
  clear hp14
  replace hl14 : look S 17 = some (.slice (some ⟨h14, 0, none⟩) 2 2) := hl14
  have hf14_0 := hx14 (BlkF w.heap.size h14 9 [.string ⟨#[109, 97, 112]⟩, .string ⟨#[109, 97, 112]⟩]) (List.mem_cons_self ..)
  obtain ⟨s0, s2, _⟩ := all_sub hS0
  refine step_open [(14, .slice (some ⟨h11, 0, none⟩) 1 1), (15, .slice (some ⟨h12, 0, none⟩) 2 2), (16, .slice (some ⟨h13, 0, none⟩) 1 1), (17, .slice (some ⟨h14, 0, none⟩) 2 2), (0, .pointer (some ⟨sb, 0, none⟩)), (2, .pointer (some ⟨g1, 0, none⟩))] [BlkF w.heap.size h11 9 [.string ⟨#[109, 97, 112]⟩], BlkF w.heap.size h12 9 [.string ⟨#[115, 101, 97, 116]⟩, .string ⟨#[109, 97, 112]⟩], BlkF w.heap.size h13 9 [.string ⟨#[110, 111, 110, 101]⟩], BlkF w.heap.size h14 9 [.string ⟨#[109, 97, 112]⟩, .string ⟨#[109, 97, 112]⟩]] ⟨hl11, hl12, hl13, hl14, s0, s2, trivial⟩ ⟨hf11_0, hf12_0, hf13_0, hf14_0, trivial⟩ hH fun hH => ?_
  show WL _ _ _ _ _ _ (fun w => Strm 25 w B sb (m + 30 * k)) _ _ _
  refine wl_buildSlice (e := 79) (cs := [.slice none 0 0, .slice (some ⟨h11, 0, none⟩) 1 1, .slice (some ⟨h12, 0, none⟩) 2 2, .slice (some ⟨h13, 0, none⟩) 1 1, .slice (some ⟨h14, 0, none⟩) 2 2]) rfl (by kernel_rfl) rfl fun g10 => ?_
  refine wl_nil ?_
  refine Nx.blkF rfl ?_
  refine Nx.kmore (m' := m + 30 * (k + 1)) rfl (by omega) ?_
  exact Nx.fin (l := [BlkF w.heap.size g10 79 [.slice none 0 0, .slice (some ⟨h11, 0, none⟩) 1 1, .slice (some ⟨h12, 0, none⟩) 2 2, .slice (some ⟨h13, 0, none⟩) 1 1, .slice (some ⟨h14, 0, none⟩) 2 2], BlkF w.heap.size h11 9 [.string ⟨#[109, 97, 112]⟩], BlkF w.heap.size h12 9 [.string ⟨#[115, 101, 97, 116]⟩, .string ⟨#[109, 97, 112]⟩], BlkF w.heap.size h13 9 [.string ⟨#[110, 111, 110, 101]⟩], BlkF w.heap.size h14 9 [.string ⟨#[109, 97, 112]⟩, .string ⟨#[109, 97, 112]⟩]]) ⟨(List.mem_cons_self ..), (List.mem_cons_of_mem _ (List.mem_cons_self ..)), (List.mem_cons_of_mem _ (List.mem_cons_of_mem _ (List.mem_cons_self ..))), (List.mem_cons_of_mem _ (List.mem_cons_of_mem _ (List.mem_cons_of_mem _ (List.mem_cons_self ..)))), (List.mem_cons_of_mem _ (List.mem_cons_of_mem _ (List.mem_cons_of_mem _ (List.mem_cons_of_mem _ (List.mem_cons_self ..))))), trivial⟩ (fun A hA => (List.mem_cons_of_mem _ hA)) (hH ⟨g10, h11, h12, h13, h14⟩ trivial)
 ·refine ⟨_, rfl, fun QQ S X k hk hS0 _ hdep hH => ?_⟩
  replace hk : k < 24 := hk
  obtain ⟨s0, s2, _⟩ := all_sub hS0
  refine step_open [(0, .pointer (some ⟨sb, 0, none⟩)), (2, .pointer (some ⟨g1, 0, none⟩))] [] ⟨s0, s2, trivial⟩ trivial hH fun hH => ?_
  show WL _ _ _ _ _ _ (fun w => Strm 25 w B sb (m + 30 * k)) _ _ _
  refine mv_ rfl (wl_nil ?_)
  refine Nx.kmore (m' := m + 30 * (k + 1)) rfl (by omega) ?_
  exact Nx.fin (l := []) trivial (fun A hA => hA) (hH () trivial)
 ·refine ⟨_, rfl, fun QQ S X k hk hS0 _ hdep hH => ?_⟩
  replace hk : k < 24 := hk
  obtain ⟨s0, s2, _⟩ := all_sub hS0
  refine step_open [(0, .pointer (some ⟨sb, 0, none⟩)), (2, .pointer (some ⟨g1, 0, none⟩))] [] ⟨s0, s2, trivial⟩ trivial hH fun hH => ?_
  show WL _ _ _ _ _ _ (fun w => Strm 25 w B sb (m + 30 * k)) _ _ _
  refine wl_buildSlice (e := 3) (cs := [.int .i64 0, .int .i64 0, .int .i64 1, .int .i64 2, .int .i64 2, .int .i64 3, .int .i64 4]) rfl (by kernel_rfl) rfl fun g11 => ?_
  refine wl_nil ?_
  refine Nx.blkF rfl ?_
  refine Nx.kmore (m' := m + 30 * (k + 1)) rfl (by omega) ?_
  exact Nx.fin (l := [BlkF w.heap.size g11 3 [.int .i64 0, .int .i64 0, .int .i64 1, .int .i64 2, .int .i64 2, .int .i64 3, .int .i64 4]]) ⟨(List.mem_cons_self ..), trivial⟩ (fun A hA => (List.mem_cons_of_mem _ hA)) (hH g11 trivial)
 ·refine ⟨_, rfl, fun QQ S X k hk hS0 _ hdep hH => ?_⟩
  replace hk : k < 24 := hk
  obtain ⟨_, hp16, hl16, hx16⟩ := (known_of (hdep _ (Array.mem_of_getElem? (i := 0) rfl) rfl) rfl)
  clear hp16
  replace hl16 : look S 19 = some (.pointer (some ⟨sb, 0, none⟩)) := hl16
  obtain ⟨y17, hp17, hl17, hx17⟩ := (known_of (hdep _ (Array.mem_of_getElem? (i := 1) rfl) rfl) rfl)
  clear hp17
  replace hl17 : look S 20 = some (.slice (some ⟨y17, 0, none⟩) 7 7) := hl17
  have hf17_0 := hx17 (BlkF w.heap.size y17 3 [.int .i64 0, .int .i64 0, .int .i64 1, .int .i64 2, .int .i64 2, .int .i64 3, .int .i64 4]) (List.mem_cons_self ..)
  obtain ⟨s0, s2, _⟩ := all_sub hS0
  refine step_open [(19, .pointer (some ⟨sb, 0, none⟩)), (20, .slice (some ⟨y17, 0, none⟩) 7 7), (0, .pointer (some ⟨sb, 0, none⟩)), (2, .pointer (some ⟨g1, 0, none⟩))] [BlkF w.heap.size y17 3 [.int .i64 0, .int .i64 0, .int .i64 1, .int .i64 2, .int .i64 2, .int .i64 3, .int .i64 4]] ⟨hl16, hl17, s0, s2, trivial⟩ ⟨hf17_0, trivial⟩ hH fun hH => ?_
  show WL _ _ _ _ _ _ (fun w => Strm 25 w B sb (m + 30 * k)) _ _ _
  refine wl_got (γ := Int) (val := fun v => .int .i64 v) (φ := fun v => v ∈ ([0, 0, 1, 2, 2, 3, 4] : List Int)) rfl cb63 rfl rfl rfl rfl (fun wx hm => (pick_any [0, 0, 1, 2, 2, 3, 4] _ _ _ wx B sb _ hm.k (by omega) (by simp) (by simp) (hm.fact 0 rfl).2 (fun e => by have h1 : w.heap.size ≤ y17 := (hm.fact 0 rfl).1; have h2 : sb < w.heap.size := hm.rs _ rfl; omega))) fun pk hpk => ?_
  refine wl_nil ?_
  refine Nx.kmore (m' := m + 30 * (k + 1)) rfl (by omega) ?_
  exact Nx.fin (l := []) trivial (fun A hA => hA) (hH pk hpk)
 ·refine ⟨_, rfl, fun QQ S X k hk hS0 _ hdep hH => ?_⟩
  replace hk : k < 24 := hk
  obtain ⟨⟨y15, gax, gbx, gcx, gdx⟩, hp15, hl15, hx15⟩ := (known_of (hdep _ (Array.mem_of_getElem? (i := 0) rfl) rfl) rfl)
  clear hp15
  replace hl15 : look S 18 = some (.slice (some ⟨y15, 0, none⟩) 5 5) := hl15
  have hf15_0 := hx15 (BlkF w.heap.size y15 79 [.slice none 0 0, .slice (some ⟨gax, 0, none⟩) 1 1, .slice (some ⟨gbx, 0, none⟩) 2 2, .slice (some ⟨gcx, 0, none⟩) 1 1, .slice (some ⟨gdx, 0, none⟩) 2 2]) (List.mem_cons_self ..)
  have hf15_1 := hx15 (BlkF w.heap.size gax 9 [.string ⟨#[109, 97, 112]⟩]) (List.mem_cons_of_mem _ (List.mem_cons_self ..))
  have hf15_2 := hx15 (BlkF w.heap.size gbx 9 [.string ⟨#[115, 101, 97, 116]⟩, .string ⟨#[109, 97, 112]⟩]) (List.mem_cons_of_mem _ (List.mem_cons_of_mem _ (List.mem_cons_self ..)))
  have hf15_3 := hx15 (BlkF w.heap.size gcx 9 [.string ⟨#[110, 111, 110, 101]⟩]) (List.mem_cons_of_mem _ (List.mem_cons_of_mem _ (List.mem_cons_of_mem _ (List.mem_cons_self ..))))
  have hf15_4 := hx15 (BlkF w.heap.size gdx 9 [.string ⟨#[109, 97, 112]⟩, .string ⟨#[109, 97, 112]⟩]) (List.mem_cons_of_mem _ (List.mem_cons_of_mem _ (List.mem_cons_of_mem _ (List.mem_cons_of_mem _ (List.mem_cons_self ..)))))
  obtain ⟨pk, hp18, hl18, hx18⟩ := (known_of (hdep _ (Array.mem_of_getElem? (i := 1) rfl) rfl) rfl)
  replace hp18 : pk ∈ ([0, 0, 1, 2, 2, 3, 4] : List Int) := hp18
  replace hl18 : look S 21 = some (.int .i64 pk) := hl18
  obtain ⟨s0, s2, _⟩ := all_sub hS0
  refine step_open [(18, .slice (some ⟨y15, 0, none⟩) 5 5), (21, .int .i64 pk), (0, .pointer (some ⟨sb, 0, none⟩)), (2, .pointer (some ⟨g1, 0, none⟩))] [BlkF w.heap.size y15 79 [.slice none 0 0, .slice (some ⟨gax, 0, none⟩) 1 1, .slice (some ⟨gbx, 0, none⟩) 2 2, .slice (some ⟨gcx, 0, none⟩) 1 1, .slice (some ⟨gdx, 0, none⟩) 2 2], BlkF w.heap.size gax 9 [.string ⟨#[109, 97, 112]⟩], BlkF w.heap.size gbx 9 [.string ⟨#[115, 101, 97, 116]⟩, .string ⟨#[109, 97, 112]⟩], BlkF w.heap.size gcx 9 [.string ⟨#[110, 111, 110, 101]⟩], BlkF w.heap.size gdx 9 [.string ⟨#[109, 97, 112]⟩, .string ⟨#[109, 97, 112]⟩]] ⟨hl15, hl18, s0, s2, trivial⟩ ⟨hf15_0, hf15_1, hf15_2, hf15_3, hf15_4, trivial⟩ hH fun hH => ?_
  show WL _ _ _ _ _ _ (fun w => Strm 25 w B sb (m + 30 * k)) _ _ _
  have hj : pk = 0 ∨ pk = 1 ∨ pk = 2 ∨ pk = 3 ∨ pk = 4 := by simp at hp18; omega
  rcases hj with rfl | rfl | rfl | rfl | rfl
  ·refine wl_ov (ov_index (j := 0) es189 rfl rfl (by decide)) rfl ?_
   refine wl_nil ?_
   refine Nx.kmore (m' := m + 30 * (k + 1)) rfl (by omega) ?_
   exact Nx.fin (l := [BlkF w.heap.size y15 79 [.slice none 0 0, .slice (some ⟨gax, 0, none⟩) 1 1, .slice (some ⟨gbx, 0, none⟩) 2 2, .slice (some ⟨gcx, 0, none⟩) 1 1, .slice (some ⟨gdx, 0, none⟩) 2 2], BlkF w.heap.size gax 9 [.string ⟨#[109, 97, 112]⟩], BlkF w.heap.size gbx 9 [.string ⟨#[115, 101, 97, 116]⟩, .string ⟨#[109, 97, 112]⟩], BlkF w.heap.size gcx 9 [.string ⟨#[110, 111, 110, 101]⟩], BlkF w.heap.size gdx 9 [.string ⟨#[109, 97, 112]⟩, .string ⟨#[109, 97, 112]⟩]]) ⟨(List.mem_cons_self ..), (List.mem_cons_of_mem _ (List.mem_cons_self ..)), (List.mem_cons_of_mem _ (List.mem_cons_of_mem _ (List.mem_cons_self ..))), (List.mem_cons_of_mem _ (List.mem_cons_of_mem _ (List.mem_cons_of_mem _ (List.mem_cons_self ..)))), (List.mem_cons_of_mem _ (List.mem_cons_of_mem _ (List.mem_cons_of_mem _ (List.mem_cons_of_mem _ (List.mem_cons_self ..))))), trivial⟩ (fun A hA => hA) (hH ⟨y15, gax, gbx, gcx, gdx, 0⟩ (Nat.le_of_ble_eq_true rfl))
  ·refine wl_ov (ov_index (j := 1) es189 rfl rfl (by decide)) rfl ?_
   refine wl_nil ?_
   refine Nx.kmore (m' := m + 30 * (k + 1)) rfl (by omega) ?_
   exact Nx.fin (l := [BlkF w.heap.size y15 79 [.slice none 0 0, .slice (some ⟨gax, 0, none⟩) 1 1, .slice (some ⟨gbx, 0, none⟩) 2 2, .slice (some ⟨gcx, 0, none⟩) 1 1, .slice (some ⟨gdx, 0, none⟩) 2 2], BlkF w.heap.size gax 9 [.string ⟨#[109, 97, 112]⟩], BlkF w.heap.size gbx 9 [.string ⟨#[115, 101, 97, 116]⟩, .string ⟨#[109, 97, 112]⟩], BlkF w.heap.size gcx 9 [.string ⟨#[110, 111, 110, 101]⟩], BlkF w.heap.size gdx 9 [.string ⟨#[109, 97, 112]⟩, .string ⟨#[109, 97, 112]⟩]]) ⟨(List.mem_cons_self ..), (List.mem_cons_of_mem _ (List.mem_cons_self ..)), (List.mem_cons_of_mem _ (List.mem_cons_of_mem _ (List.mem_cons_self ..))), (List.mem_cons_of_mem _ (List.mem_cons_of_mem _ (List.mem_cons_of_mem _ (List.mem_cons_self ..)))), (List.mem_cons_of_mem _ (List.mem_cons_of_mem _ (List.mem_cons_of_mem _ (List.mem_cons_of_mem _ (List.mem_cons_self ..))))), trivial⟩ (fun A hA => hA) (hH ⟨y15, gax, gbx, gcx, gdx, 1⟩ (Nat.le_of_ble_eq_true rfl))
  ·refine wl_ov (ov_index (j := 2) es189 rfl rfl (by decide)) rfl ?_
   refine wl_nil ?_
   refine Nx.kmore (m' := m + 30 * (k + 1)) rfl (by omega) ?_
   exact Nx.fin (l := [BlkF w.heap.size y15 79 [.slice none 0 0, .slice (some ⟨gax, 0, none⟩) 1 1, .slice (some ⟨gbx, 0, none⟩) 2 2, .slice (some ⟨gcx, 0, none⟩) 1 1, .slice (some ⟨gdx, 0, none⟩) 2 2], BlkF w.heap.size gax 9 [.string ⟨#[109, 97, 112]⟩], BlkF w.heap.size gbx 9 [.string ⟨#[115, 101, 97, 116]⟩, .string ⟨#[109, 97, 112]⟩], BlkF w.heap.size gcx 9 [.string ⟨#[110, 111, 110, 101]⟩], BlkF w.heap.size gdx 9 [.string ⟨#[109, 97, 112]⟩, .string ⟨#[109, 97, 112]⟩]]) ⟨(List.mem_cons_self ..), (List.mem_cons_of_mem _ (List.mem_cons_self ..)), (List.mem_cons_of_mem _ (List.mem_cons_of_mem _ (List.mem_cons_self ..))), (List.mem_cons_of_mem _ (List.mem_cons_of_mem _ (List.mem_cons_of_mem _ (List.mem_cons_self ..)))), (List.mem_cons_of_mem _ (List.mem_cons_of_mem _ (List.mem_cons_of_mem _ (List.mem_cons_of_mem _ (List.mem_cons_self ..))))), trivial⟩ (fun A hA => hA) (hH ⟨y15, gax, gbx, gcx, gdx, 2⟩ (Nat.le_of_ble_eq_true rfl))
  ·refine wl_ov (ov_index (j := 3) es189 rfl rfl (by decide)) rfl ?_
   refine wl_nil ?_
   refine Nx.kmore (m' := m + 30 * (k + 1)) rfl (by omega) ?_
   exact Nx.fin (l := [BlkF w.heap.size y15 79 [.slice none 0 0, .slice (some ⟨gax, 0, none⟩) 1 1, .slice (some ⟨gbx, 0, none⟩) 2 2, .slice (some ⟨gcx, 0, none⟩) 1 1, .slice (some ⟨gdx, 0, none⟩) 2 2], BlkF w.heap.size gax 9 [.string ⟨#[109, 97, 112]⟩], BlkF w.heap.size gbx 9 [.string ⟨#[115, 101, 97, 116]⟩, .string ⟨#[109, 97, 112]⟩], BlkF w.heap.size gcx 9 [.string ⟨#[110, 111, 110, 101]⟩], BlkF w.heap.size gdx 9 [.string ⟨#[109, 97, 112]⟩, .string ⟨#[109, 97, 112]⟩]]) ⟨(List.mem_cons_self ..), (List.mem_cons_of_mem _ (List.mem_cons_self ..)), (List.mem_cons_of_mem _ (List.mem_cons_of_mem _ (List.mem_cons_self ..))), (List.mem_cons_of_mem _ (List.mem_cons_of_mem _ (List.mem_cons_of_mem _ (List.mem_cons_self ..)))), (List.mem_cons_of_mem _ (List.mem_cons_of_mem _ (List.mem_cons_of_mem _ (List.mem_cons_of_mem _ (List.mem_cons_self ..))))), trivial⟩ (fun A hA => hA) (hH ⟨y15, gax, gbx, gcx, gdx, 3⟩ (Nat.le_of_ble_eq_true rfl))
  refine wl_ov (ov_index (j := 4) es189 rfl rfl (by decide)) rfl ?_
  refine wl_nil ?_
  refine Nx.kmore (m' := m + 30 * (k + 1)) rfl (by omega) ?_
  exact Nx.fin (l := [BlkF w.heap.size y15 79 [.slice none 0 0, .slice (some ⟨gax, 0, none⟩) 1 1, .slice (some ⟨gbx, 0, none⟩) 2 2, .slice (some ⟨gcx, 0, none⟩) 1 1, .slice (some ⟨gdx, 0, none⟩) 2 2], BlkF w.heap.size gax 9 [.string ⟨#[109, 97, 112]⟩], BlkF w.heap.size gbx 9 [.string ⟨#[115, 101, 97, 116]⟩, .string ⟨#[109, 97, 112]⟩], BlkF w.heap.size gcx 9 [.string ⟨#[110, 111, 110, 101]⟩], BlkF w.heap.size gdx 9 [.string ⟨#[109, 97, 112]⟩, .string ⟨#[109, 97, 112]⟩]]) ⟨(List.mem_cons_self ..), (List.mem_cons_of_mem _ (List.mem_cons_self ..)), (List.mem_cons_of_mem _ (List.mem_cons_of_mem _ (List.mem_cons_self ..))), (List.mem_cons_of_mem _ (List.mem_cons_of_mem _ (List.mem_cons_of_mem _ (List.mem_cons_self ..)))), (List.mem_cons_of_mem _ (List.mem_cons_of_mem _ (List.mem_cons_of_mem _ (List.mem_cons_of_mem _ (List.mem_cons_self ..))))), trivial⟩ (fun A hA => hA) (hH ⟨y15, gax, gbx, gcx, gdx, 4⟩ (Nat.le_of_ble_eq_true rfl))
 ·refine ⟨_, rfl, fun QQ S X k hk hS0 _ hdep hH => ?_⟩
  replace hk : k < 24 := hk
  obtain ⟨⟨y19, gay, gby, gcy, gdy, j⟩, hp19, hl19, hx19⟩ := (known_of (hdep _ (Array.mem_of_getElem? (i := 0) rfl) rfl) rfl)
  replace hp19 : j ≤ 4 := hp19
  replace hl19 : look S 22 = some (.pointer (some ⟨y19, j, none⟩)) := hl19
  have hf19_0 := hx19 (BlkF w.heap.size y19 79 [.slice none 0 0, .slice (some ⟨gay, 0, none⟩) 1 1, .slice (some ⟨gby, 0, none⟩) 2 2, .slice (some ⟨gcy, 0, none⟩) 1 1, .slice (some ⟨gdy, 0, none⟩) 2 2]) (List.mem_cons_self ..)
  have hf19_1 := hx19 (BlkF w.heap.size gay 9 [.string ⟨#[109, 97, 112]⟩]) (List.mem_cons_of_mem _ (List.mem_cons_self ..))
  have hf19_2 := hx19 (BlkF w.heap.size gby 9 [.string ⟨#[115, 101, 97, 116]⟩, .string ⟨#[109, 97, 112]⟩]) (List.mem_cons_of_mem _ (List.mem_cons_of_mem _ (List.mem_cons_self ..)))
  have hf19_3 := hx19 (BlkF w.heap.size gcy 9 [.string ⟨#[110, 111, 110, 101]⟩]) (List.mem_cons_of_mem _ (List.mem_cons_of_mem _ (List.mem_cons_of_mem _ (List.mem_cons_self ..))))
  have hf19_4 := hx19 (BlkF w.heap.size gdy 9 [.string ⟨#[109, 97, 112]⟩, .string ⟨#[109, 97, 112]⟩]) (List.mem_cons_of_mem _ (List.mem_cons_of_mem _ (List.mem_cons_of_mem _ (List.mem_cons_of_mem _ (List.mem_cons_self ..)))))
  obtain ⟨s0, s2, _⟩ := all_sub hS0
  refine step_open [(22, .pointer (some ⟨y19, j, none⟩)), (0, .pointer (some ⟨sb, 0, none⟩)), (2, .pointer (some ⟨g1, 0, none⟩))] [BlkF w.heap.size y19 79 [.slice none 0 0, .slice (some ⟨gay, 0, none⟩) 1 1, .slice (some ⟨gby, 0, none⟩) 2 2, .slice (some ⟨gcy, 0, none⟩) 1 1, .slice (some ⟨gdy, 0, none⟩) 2 2], BlkF w.heap.size gay 9 [.string ⟨#[109, 97, 112]⟩], BlkF w.heap.size gby 9 [.string ⟨#[115, 101, 97, 116]⟩, .string ⟨#[109, 97, 112]⟩], BlkF w.heap.size gcy 9 [.string ⟨#[110, 111, 110, 101]⟩], BlkF w.heap.size gdy 9 [.string ⟨#[109, 97, 112]⟩, .string ⟨#[109, 97, 112]⟩]] ⟨hl19, s0, s2, trivial⟩ ⟨hf19_0, hf19_1, hf19_2, hf19_3, hf19_4, trivial⟩ hH fun hH => ?_
  show WL _ _ _ _ _ _ (fun w => Strm 25 w B sb (m + 30 * k)) _ _ _
  have hj : j = 0 ∨ j = 1 ∨ j = 2 ∨ j = 3 ∨ j = 4 := by omega
  rcases hj with rfl | rfl | rfl | rfl | rfl
  ·refine wl_ov (ov_load (v := .slice none 0 0) sc79 rfl (fun _ hm => (hm.fact 0 rfl).2) rfl) rfl ?_
   refine wl_nil ?_
   refine nx_also (Y := fun w => SlT sgEnc 1 9 w none 0 []) (SlT.lasts2 rfl) (fun wx hm => SlT.nil_ _ _) ?_
   refine Nx.kmore (m' := m + 30 * (k + 1)) rfl (by omega) ?_
   exact Nx.fin (l := [fun w => SlT sgEnc 1 9 w none 0 []]) ⟨(List.mem_cons_self ..), trivial⟩ (fun A hA => (List.mem_cons_of_mem _ hA)) (hH ⟨none, 0, 0, []⟩ ⟨(fun _ h => by cases h), Nat.zero_le _, Nat.le_refl _⟩)
  ·refine wl_ov (ov_load (v := .slice (some ⟨gay, 0, none⟩) 1 1) sc79 rfl (fun _ hm => (hm.fact 0 rfl).2) rfl) rfl ?_
   refine wl_nil ?_
   refine nx_also (Y := fun w => SlT sgEnc 1 9 w (some ⟨gay, 0, none⟩) 1 [⟨#[109, 97, 112]⟩]) (SlT.lasts2 rfl) (fun wx hm => SlT.ofBlk (l := [⟨#[109, 97, 112]⟩]) sg_len (hm.fact 1 rfl).2) ?_
   refine Nx.kmore (m' := m + 30 * (k + 1)) rfl (by omega) ?_
   exact Nx.fin (l := [fun w => SlT sgEnc 1 9 w (some ⟨gay, 0, none⟩) 1 [⟨#[109, 97, 112]⟩]]) ⟨(List.mem_cons_self ..), trivial⟩ (fun A hA => (List.mem_cons_of_mem _ hA)) (hH ⟨(some ⟨gay, 0, none⟩), 1, 1, [⟨#[109, 97, 112]⟩]⟩ (show (∀ x ∈ ([⟨#[109, 97, 112]⟩] : List ByteArray), x.size ≤ 100) ∧ 1 ≤ 2 ∧ 1 ≤ 1 from ⟨by decide, by omega, by omega⟩))
  ·refine wl_ov (ov_load (v := .slice (some ⟨gby, 0, none⟩) 2 2) sc79 rfl (fun _ hm => (hm.fact 0 rfl).2) rfl) rfl ?_
   refine wl_nil ?_
   refine nx_also (Y := fun w => SlT sgEnc 1 9 w (some ⟨gby, 0, none⟩) 2 [⟨#[115, 101, 97, 116]⟩, ⟨#[109, 97, 112]⟩]) (SlT.lasts2 rfl) (fun wx hm => SlT.ofBlk (l := [⟨#[115, 101, 97, 116]⟩, ⟨#[109, 97, 112]⟩]) sg_len (hm.fact 2 rfl).2) ?_
   refine Nx.kmore (m' := m + 30 * (k + 1)) rfl (by omega) ?_
   exact Nx.fin (l := [fun w => SlT sgEnc 1 9 w (some ⟨gby, 0, none⟩) 2 [⟨#[115, 101, 97, 116]⟩, ⟨#[109, 97, 112]⟩]]) ⟨(List.mem_cons_self ..), trivial⟩ (fun A hA => (List.mem_cons_of_mem _ hA)) (hH ⟨(some ⟨gby, 0, none⟩), 2, 2, [⟨#[115, 101, 97, 116]⟩, ⟨#[109, 97, 112]⟩]⟩ (show (∀ x ∈ ([⟨#[115, 101, 97, 116]⟩, ⟨#[109, 97, 112]⟩] : List ByteArray), x.size ≤ 100) ∧ 2 ≤ 2 ∧ 2 ≤ 2 from ⟨by decide, by omega, by omega⟩))
  ·refine wl_ov (ov_load (v := .slice (some ⟨gcy, 0, none⟩) 1 1) sc79 rfl (fun _ hm => (hm.fact 0 rfl).2) rfl) rfl ?_
   refine wl_nil ?_
   refine nx_also (Y := fun w => SlT sgEnc 1 9 w (some ⟨gcy, 0, none⟩) 1 [⟨#[110, 111, 110, 101]⟩]) (SlT.lasts2 rfl) (fun wx hm => SlT.ofBlk (l := [⟨#[110, 111, 110, 101]⟩]) sg_len (hm.fact 3 rfl).2) ?_
   refine Nx.kmore (m' := m + 30 * (k + 1)) rfl (by omega) ?_
   exact Nx.fin (l := [fun w => SlT sgEnc 1 9 w (some ⟨gcy, 0, none⟩) 1 [⟨#[110, 111, 110, 101]⟩]]) ⟨(List.mem_cons_self ..), trivial⟩ (fun A hA => (List.mem_cons_of_mem _ hA)) (hH ⟨(some ⟨gcy, 0, none⟩), 1, 1, [⟨#[110, 111, 110, 101]⟩]⟩ (show (∀ x ∈ ([⟨#[110, 111, 110, 101]⟩] : List ByteArray), x.size ≤ 100) ∧ 1 ≤ 2 ∧ 1 ≤ 1 from ⟨by decide, by omega, by omega⟩))
  refine wl_ov (ov_load (v := .slice (some ⟨gdy, 0, none⟩) 2 2) sc79 rfl (fun _ hm => (hm.fact 0 rfl).2) rfl) rfl ?_
  refine wl_nil ?_
  refine nx_also (Y := fun w => SlT sgEnc 1 9 w (some ⟨gdy, 0, none⟩) 2 [⟨#[109, 97, 112]⟩, ⟨#[109, 97, 112]⟩]) (SlT.lasts2 rfl) (fun wx hm => SlT.ofBlk (l := [⟨#[109, 97, 112]⟩, ⟨#[109, 97, 112]⟩]) sg_len (hm.fact 4 rfl).2) ?_
  refine Nx.kmore (m' := m + 30 * (k + 1)) rfl (by omega) ?_
  exact Nx.fin (l := [fun w => SlT sgEnc 1 9 w (some ⟨gdy, 0, none⟩) 2 [⟨#[109, 97, 112]⟩, ⟨#[109, 97, 112]⟩]]) ⟨(List.mem_cons_self ..), trivial⟩ (fun A hA => (List.mem_cons_of_mem _ hA)) (hH ⟨(some ⟨gdy, 0, none⟩), 2, 2, [⟨#[109, 97, 112]⟩, ⟨#[109, 97, 112]⟩]⟩ (show (∀ x ∈ ([⟨#[109, 97, 112]⟩, ⟨#[109, 97, 112]⟩] : List ByteArray), x.size ≤ 100) ∧ 2 ≤ 2 ∧ 2 ≤ 2 from ⟨by decide, by omega, by omega⟩))
 ·refine ⟨_, rfl, fun QQ S X k hk hS0 _ hdep hH => ?_⟩
  replace hk : k < 24 := hk
  obtain ⟨s0, s2, _⟩ := all_sub hS0
  refine step_open [(0, .pointer (some ⟨sb, 0, none⟩)), (2, .pointer (some ⟨g1, 0, none⟩))] [] ⟨s0, s2, trivial⟩ trivial hH fun hH => ?_
  show WL _ _ _ _ _ _ (fun w => Strm 25 w B sb (m + 30 * k)) _ _ _
  refine mv_ rfl (wl_nil ?_)
  refine Nx.kmore (m' := m + 30 * (k + 1)) rfl (by omega) ?_
  exact Nx.fin (l := []) trivial (fun A hA => hA) (hH () trivial)
 ·refine ⟨_, rfl, fun QQ S X k hk hS0 _ hdep hH => ?_⟩
  replace hk : k < 24 := hk
  obtain ⟨_, hp21, hl21, hx21⟩ := (known_of (hdep _ (Array.mem_of_getElem? (i := 0) rfl) rfl) rfl)
  clear hp21
  replace hl21 : look S 24 = some (.pointer (some ⟨sb, 0, none⟩)) := hl21
  obtain ⟨s0, s2, _⟩ := all_sub hS0
  refine step_open [(24, .pointer (some ⟨sb, 0, none⟩)), (0, .pointer (some ⟨sb, 0, none⟩)), (2, .pointer (some ⟨g1, 0, none⟩))] [] ⟨hl21, s0, s2, trivial⟩ trivial hH fun hH => ?_
  show WL _ _ _ _ _ _ (fun w => Strm 25 w B sb (m + 30 * k)) _ _ _
  refine wl_calls (γ := Option Addr × Nat × Nat × List ByteArray) (val := (fun g => .slice g.1 g.2.1 g.2.2.1)) (φ := (fun g => (∀ x ∈ g.2.2.2, x.size ≤ 100) ∧ g.2.1 ≤ 3 ∧ g.2.1 ≤ g.2.2.1)) (Y := (fun g => fun wy => SlT sgEnc 1 9 wy g.1 g.2.1 g.2.2.2)) (m' := m + 30 * k + 1) rfl cb100 rfl rfl rfl rfl (fun wx hm => (gcodeKeys_any wx B sb _ hm.k (by omega)).mono fun _ _ ⟨A2, n2, c2, l2, he, hs, hz, hn, hnc, hS, hg⟩ => ⟨(A2, n2, c2, l2), he, ⟨hz, hn, hnc⟩, hS, hg, hs⟩) (fun _ => SlT.lasts2 rfl) ?_
  rintro ⟨A2, n2, c2, l2⟩ hck
  dsimp only at hck ⊢
  refine wl_nil ?_
  refine Nx.kmore (m' := m + 30 * (k + 1)) rfl (by omega) ?_
  exact Nx.fin (l := [fun w => SlT sgEnc 1 9 w A2 n2 l2]) ⟨(List.mem_cons_self ..), trivial⟩ (fun A hA => (List.mem_cons_of_mem _ hA)) (hH ⟨A2, n2, c2, l2⟩ hck)
 ·refine ⟨_, rfl, fun QQ S X k hk hS0 _ hdep hH => ?_⟩
  replace hk : k < 24 := hk
  obtain ⟨k5, hp2, hl2, hx2⟩ := (known_of (hdep _ (Array.mem_of_getElem? (i := 0) rfl) rfl) rfl)
  replace hp2 : k5.size ≤ 100 := hp2
  replace hl2 : look S 5 = some (.string k5) := hl2
  obtain ⟨⟨fr, tt⟩, hp4, hl4, hx4⟩ := (known_of (hdep _ (Array.mem_of_getElem? (i := 1) rfl) rfl) rfl)
  replace hp4 : Far fr ∧ Far tt := hp4
  replace hl4 : look S 7 = some (.agg #[.int .i64 fr, .int .i64 tt]) := hl4
  obtain ⟨k10, hp7, hl7, hx7⟩ := (known_of (hdep _ (Array.mem_of_getElem? (i := 2) rfl) rfl) rfl)
  replace hp7 : k10.size ≤ 100 := hp7
  replace hl7 : look S 10 = some (.string k10) := hl7
  obtain ⟨k13, hp10, hl10, hx10⟩ := (known_of (hdep _ (Array.mem_of_getElem? (i := 3) rfl) rfl) rfl)
  replace hp10 : k13.size ≤ 100 := hp10
  replace hl10 : look S 13 = some (.string k13) := hl10
  obtain ⟨⟨A, n, c, l⟩, hp20, hl20, hx20⟩ := (known_of (hdep _ (Array.mem_of_getElem? (i := 4) rfl) rfl) rfl)
  replace hp20 : (∀ x ∈ l, x.size ≤ 100) ∧ n ≤ 2 ∧ n ≤ c := hp20
  replace hl20 : look S 23 = some (.slice A n c) := hl20
  have hf20_0 := hx20 (fun w => SlT sgEnc 1 9 w A n l) (List.mem_cons_self ..)
  obtain ⟨⟨A2, n2, c2, l2⟩, hp22, hl22, hx22⟩ := (known_of (hdep _ (Array.mem_of_getElem? (i := 5) rfl) rfl) rfl)
  replace hp22 : (∀ x ∈ l2, x.size ≤ 100) ∧ n2 ≤ 3 ∧ n2 ≤ c2 := hp22
  replace hl22 : look S 25 = some (.slice A2 n2 c2) := hl22
  have hf22_0 := hx22 (fun w => SlT sgEnc 1 9 w A2 n2 l2) (List.mem_cons_self ..)
  obtain ⟨s0, s2, _⟩ := all_sub hS0
  refine step_open [(5, .string k5), (7, .agg #[.int .i64 fr, .int .i64 tt]), (10, .string k10), (13, .string k13), (23, .slice A n c), (25, .slice A2 n2 c2), (0, .pointer (some ⟨sb, 0, none⟩)), (2, .pointer (some ⟨g1, 0, none⟩))] [fun w => SlT sgEnc 1 9 w A n l, fun w => SlT sgEnc 1 9 w A2 n2 l2] ⟨hl2, hl4, hl7, hl10, hl20, hl22, s0, s2, trivial⟩ ⟨hf20_0, hf22_0, trivial⟩ hH fun hH => ?_
  show WL _ _ _ _ _ _ (fun w => Strm 25 w B sb (m + 30 * k)) _ _ _
  refine wl_ov (ov_build (cs := [.string k5, .int .i64 fr, .int .i64 tt, .string k10, .string k13, .slice A n c, .slice A2 n2 c2]) rfl (by kernel_rfl)) rfl ?_
  refine wl_nil ?_
  refine Nx.kmore (m' := m + 30 * (k + 1)) rfl (by omega) ?_
  exact Nx.fin (l := [fun w => SlT sgEnc 1 9 w A n l, fun w => SlT sgEnc 1 9 w A2 n2 l2]) ⟨(List.mem_cons_self ..), (List.mem_cons_of_mem _ (List.mem_cons_self ..)), trivial⟩ (fun A hA => hA) (hH ⟨k5, fr, tt, k10, k13, A, n, c, l, A2, n2, c2, l2⟩ ⟨⟨hp2, hp7, hp10⟩, hp4, hp20, hp22⟩)
 intro S X hS0 _ hkn
 obtain ⟨⟨q5, qf, qt, q10, q13, A3, n3, c3, l3, A4, n4, c4, l4⟩, hp23, hl23, hx23⟩ := (hkn 23 _ rfl)
 replace hp23 : (q5.size ≤ 100 ∧ q10.size ≤ 100 ∧ q13.size ≤ 100) ∧ (Far qf ∧ Far qt) ∧ ((∀ x ∈ l3, x.size ≤ 100) ∧ n3 ≤ 2 ∧ n3 ≤ c3) ∧ ((∀ x ∈ l4, x.size ≤ 100) ∧ n4 ≤ 3 ∧ n4 ≤ c4) := hp23
 replace hl23 : look S 26 = some (.agg #[.string q5, .int .i64 qf, .int .i64 qt, .string q10, .string q13, .slice A3 n3 c3, .slice A4 n4 c4]) := hl23
 have hf23_0 := hx23 (fun w => SlT sgEnc 1 9 w A3 n3 l3) (List.mem_cons_self ..)
 have hf23_1 := hx23 (fun w => SlT sgEnc 1 9 w A4 n4 l4) (List.mem_cons_of_mem _ (List.mem_cons_self ..))
 obtain ⟨s0, s2, _⟩ := all_sub hS0
 refine wa_weak (S' := [(26, .agg #[.string q5, .int .i64 qf, .int .i64 qt, .string q10, .string q13, .slice A3 n3 c3, .slice A4 n4 c4]), (0, .pointer (some ⟨sb, 0, none⟩)), (2, .pointer (some ⟨g1, 0, none⟩))]) (X' := [fun w => SlT sgEnc 1 9 w A3 n3 l3, fun w => SlT sgEnc 1 9 w A4 n4 l4]) ⟨hl23, s0, s2, trivial⟩ (fun _ hm => hm.allIn ⟨hf23_0, hf23_1, trivial⟩) ?_
 show WA _ _ _ _ _ 1 _ _ (fun w => Strm 25 w B sb (m + 30 * 24)) _ _ _
 refine wa1 24 rfl ?_
 refine wl_stores (cs' := [.string q5, .int .i64 qf, .int .i64 qt, .string q10, .string q13, .slice A3 n3 c3, .slice A4 n4 c4]) 0 rz81 rfl rfl rfl rfl rfl rfl rfl rfl ?_
 refine wl_nil ?_
 refine nw 25 33554431 (fun _ _ => trivial) fun z => ?_
 refine wa_done (by kernel_rfl) ?_
 refine nx_then ?_
 refine gw_ret ?_
 refine nx_retc 0 rfl rz81 rfl rfl rfl fun wx hm => ?_
 exact ⟨q5, qf, qt, q10, q13, A3, n3, c3, l3, A4, n4, c4, l4, rfl, hp23, (hm.fact 0 rfl), (hm.fact 1 rfl), hm.k.more (by omega), hm.g⟩
end Go.Proofs.YtdoooppeiphefaaGreatDoor
namespace Go.Proofs.YtdoooppeiphefaaGreatDoor
open Go.RowKit
def tariffE (rl : List Rt) (el : List Ex) (fl : List Fe) (cl : List Cd) (tl : List Tx) : Int := firstE [ratesE rl, extrasE el, feesE fl, codesE cl, taxesE tl]
theorem tariffE_ok {rl : List Rt} {el : List Ex} {fl : List Fe} {cl : List Cd} {tl : List Tx} (h : tariffE rl el fl cl tl = 0) : ratesE rl = 0 ∧ extrasE el = 0 ∧ feesE fl = 0 ∧ codesE cl = 0 ∧ taxesE tl = 0 := by
  have hz := fe_all h
  exact ⟨hz _ (by simp), hz _ (by simp), hz _ (by simp), hz _ (by simp), hz _ (by simp)⟩
def kindK (k : Int) : ByteArray := if k = 1 then ⟨#[104, 111, 117, 114, 115]⟩ else if k = 2 then ⟨#[100, 97, 121]⟩ else if k = 3 then ⟨#[119, 101, 101, 107, 101, 110, 100]⟩ else ⟨#[119, 101, 101, 107]⟩
def pcL (p : Pc) : Ln := ⟨1, kindK p.kind, p.cents⟩
def codeL (x : ByteArray × Int) : List Ln := if emptyS x.1 = true then [] else [⟨2, x.1, -x.2⟩]
def askL (el : List Ex) (n : Int) (k : ByteArray) : Ln := ⟨3, k, exAt el k n⟩
def feeL (fl : List Fe) (a b : ByteArray) : List Ln := if (a.toList == b.toList) = true then [] else [⟨4, ⟨#[111, 110, 101, 119, 97, 121]⟩, feeOfV fl a b⟩]
def line1 (ps : List Pc) (x : ByteArray × Int) : List Ln := ps.map pcL ++ codeL x
def line2 (el : List Ex) (n : Int) (ks : List ByteArray) (ps : List Pc) (x : ByteArray × Int) : List Ln := line1 ps x ++ ks.map (askL el n)
def line3 (el : List Ex) (n : Int) (ks : List ByteArray) (fl : List Fe) (a b : ByteArray) (ps : List Pc) (x : ByteArray × Int) : List Ln := line2 el n ks ps x ++ feeL fl a b
def lineQ (tl : List Tx) (l3 : List Ln) : List Ln := l3 ++ taxesV l3 [] tl
def CheapR (rl : List Rt) : Prop := ∀ r ∈ rl, r.hr ≤ 10
theorem price_small {l : List Rt} {sea : List Int} {fr to_ kind : Int} {i : Nat} {m v : Int} (hl : ∀ r ∈ l, RateOk r) (hc : CheapR l) (hto : begV fr i ≤ to_) (h : priceO l sea fr to_ kind i m = some v) : 0 ≤ v ∧ v ≤ 1000000 := by
  unfold priceO at h
  split at h
  · cases h
  · split at h
    · cases h
    · rename_i r hr
      obtain ⟨k, hk, hr⟩ := Option.bind_eq_some_iff.1 hr
      obtain ⟨h1, h2, h3, h4⟩ := hl r (List.mem_of_getElem? hr)
      have h5 := hc r (List.mem_of_getElem? hr)
      unfold priceK at h
      split at h
      · split at h
        · rename_i hc
          simp only [Option.some.injEq] at h
          subst h
          have e1 : (endV fr to_ i - begV fr i + 59) / 60 ≤ 24 := by unfold endV begV; omega
          have e0 : 0 ≤ (endV fr to_ i - begV fr i + 59) / 60 := by unfold endV; unfold begV at hto ⊢; omega
          refine ⟨Int.mul_nonneg hc.2.2 e0, ?_⟩
          have := Int.mul_le_mul h5 e1 e0 (by omega)
          omega
        · cases h
      · split at h
        · split at h
          · simp only [Option.some.injEq] at h; omega
          · cases h
        · split at h
          · split at h
            · simp only [Option.some.injEq] at h; omega
            · cases h
          · split at h
            · split at h
              · simp only [Option.some.injEq] at h; omega
              · cases h
            · cases h
theorem chain_mem {pr : Int → Nat → Int → Option Int} : ∀ {a : List Pc} {i j : Nat}, Chain pr i j a → ∀ p ∈ a, ∃ k, StepOk pr k p
  | [], _, _, _, p, hp => by cases hp
  | q :: r, i, j, h, p, hp => by
    simp only [Chain] at h
    rcases List.mem_cons.1 hp with rfl | hp
    · exact ⟨i, h.1⟩
    · exact chain_mem h.2 p hp
/-- What is known of the pieces. -/
def PsOk (ps : List Pc) : Prop := ps.length ≤ 120 ∧ ∀ p ∈ ps, (1 ≤ p.kind ∧ p.kind ≤ 4) ∧ 0 ≤ p.cents ∧ p.cents ≤ 1000000
theorem best_ok {rl : List Rt} {c : ByteArray} {fr tt : Int} {ps : List Pc} (hr : ratesE rl = 0) (hc : CheapR rl) (ht : timeE fr tt = 0) (h : Best (prH rl c fr tt) 0 (daysN fr tt) ps) : PsOk ps := by
  have hd : daysN fr tt ≤ 120 := by
    have := timeE_ok ht
    unfold daysN; omega
  have h1 := chain_le h.1
  refine ⟨by omega, fun p hp => ?_⟩
  obtain ⟨k, hk1, hk2, _, _, hk5⟩ := chain_mem h.1 p hp
  obtain ⟨hp1, hp2, _⟩ := price_some hk5
  rw [seasons_len] at hp2
  exact ⟨⟨hk1, hk2⟩, price_small (rate_ok hr) hc (begV_end ht k (by omega)) hk5⟩
theorem pcSum_eq : ∀ ps : List Pc, sumBy centsOf (ps.map pcL) = pcSum ps
  | [] => rfl
  | p :: r => by
    rw [List.map_cons, sumBy, pcSum_eq r]; rfl
theorem pcSum_ok {ps : List Pc} (h : PsOk ps) : 0 ≤ pcSum ps ∧ pcSum ps ≤ 120000000 := by
  rw [← pcSum_eq]
  have hb := sumBy_bound (l := ps.map pcL) (f := centsOf) (a := 0) (b := 1000000) (fun x hx => by
    obtain ⟨p, hp, rfl⟩ := List.mem_map.1 hx
    exact (h.2 p hp).2)
  rw [List.length_map] at hb
  have := h.1
  omega
theorem bestK_bound {l : List Cd} {cls : ByteArray} {fr tt cents : Int} (h0 : codesE l = 0) (hc : 0 ≤ cents) (keys : List ByteArray) : 0 ≤ (bestK l keys cls fr tt cents).2 ∧ (bestK l keys cls fr tt cents).2 ≤ cents := by
  have hgo : ∀ (ks : List ByteArray) (st : ByteArray × Int), (0 ≤ st.2 ∧ st.2 ≤ cents) → 0 ≤ (ks.foldl (bestS l cls fr tt cents) st).2 ∧ (ks.foldl (bestS l cls fr tt cents) st).2 ≤ cents := fun ks => by
    induction ks with
    | nil => exact fun st h => h
    | cons k r ih =>
      intro st h
      rw [List.foldl_cons]
      refine ih _ ?_
      unfold bestS
      cases hx : l[(ixP (codeP k) l 0).toNat]? with
      | none => exact h
      | some c =>
        dsimp only
        split
        · have hm := ((codesE_ok h0).2.2 c (List.mem_of_getElem? hx)).2.2.2
          unfold offV
          have h1 : 0 ≤ cents * c.mille := Int.mul_nonneg hc (by omega)
          have h2 : cents * c.mille ≤ cents * 1000 := Int.mul_le_mul_of_nonneg_left (by omega) hc
          dsimp only
          omega
        · exact h
  exact hgo keys _ ⟨Int.le_refl _, hc⟩
/-- Each line is small. -/
def LnSm (l : List Ln) : Prop := ∀ x ∈ l, -1000000000 ≤ x.cents ∧ x.cents ≤ 1000000000
theorem onSum_sm {l : List Ln} (h : LnSm l) (hn : l.length ≤ 200) (on : List Int) (k : Nat) : -200000000000 ≤ onSum on (l.take k) ∧ onSum on (l.take k) ≤ 200000000000 := by
  have hb := sumBy_bound (l := l.take k) (f := fun x : Ln => if x.kind ∈ on then x.cents else 0) (a := -1000000000) (b := 1000000000) (fun x hx => by
    have := h x (List.mem_of_mem_take hx)
    split <;> omega)
  have hl : (l.take k).length ≤ 200 := by rw [List.length_take]; omega
  unfold onSum
  omega
theorem line_sm {el : List Ex} {fr tt : Int} {ks : List ByteArray} {fl : List Fe} {a b : ByteArray} {ps : List Pc} {x : ByteArray × Int} (hp : PsOk ps) (hx : 0 ≤ x.2 ∧ x.2 ≤ 120000000) (he : extrasE el = 0) (hk : ∀ k ∈ ks, el.any (exP k) = true) (ht : timeE fr tt = 0) (hf : feesE fl = 0) :
    LnSm (line3 el (daysV fr tt) ks fl a b ps x) := fun y hy => by
  unfold line3 line2 line1 at hy
  rcases List.mem_append.1 hy with hy | hy
  · rcases List.mem_append.1 hy with hy | hy
    · rcases List.mem_append.1 hy with hy | hy
      · obtain ⟨p, hp', rfl⟩ := List.mem_map.1 hy
        have := hp.2 p hp'
        unfold pcL; dsimp only; omega
      · unfold codeL at hy
        split at hy
        · cases hy
        · rw [List.mem_singleton.1 hy]; dsimp only; omega
    · obtain ⟨k, hk', rfl⟩ := List.mem_map.1 hy
      have h0 : 0 ≤ ixP (exP k) el 0 := by
        have := hk k hk'
        rw [← ix_any] at this
        exact of_decide_eq_true this
      obtain ⟨e, he', _⟩ := ixP_get h0
      obtain ⟨_, h1, h2, h3⟩ := (extrasE_ok he).2 e (List.mem_of_getElem? he')
      have ht2 := timeE_ok ht
      have hb := exV_bound (n := daysV fr tt) h1 h2 h3 ⟨by unfold daysV; omega, by omega⟩
      unfold askL exAt
      rw [he']
      dsimp only
      omega
  · unfold feeL at hy
    split at hy
    · cases hy
    · rw [List.mem_singleton.1 hy]
      dsimp only
      unfold feeOfV
      by_cases h0 : feeOfC fl a b = 0
      · rw [if_pos h0]
        by_cases h1 : (a.toList == b.toList) = true
        · rw [if_pos h1]; omega
        · rw [if_neg h1]
          by_cases h2 : 0 ≤ ixP (feP a b) fl 0
          · rw [if_pos h2]
            obtain ⟨e, he', _⟩ := ixP_get h2
            have := (feesE_ok hf).2 e (List.mem_of_getElem? he')
            unfold feAt
            rw [he']
            dsimp only
            omega
          · rw [if_neg h2]; omega
      · rw [if_neg h0]; omega
theorem line_len {el : List Ex} {n : Int} {ks : List ByteArray} {fl : List Fe} {a b : ByteArray} {ps : List Pc} {x : ByteArray × Int} (hp : PsOk ps) (hk : ks.length ≤ 10) : (line3 el n ks fl a b ps x).length ≤ 140 := by
  have h1 : (codeL x).length ≤ 1 := by unfold codeL; split <;> simp
  have h2 : (feeL fl a b).length ≤ 1 := by unfold feeL; split <;> simp
  have h3 := hp.1
  unfold line3 line2 line1
  simp only [List.length_append, List.length_map]
  omega
theorem tcheck_any (rl : List Rt) (rA : Option Addr) (rn rc : Nat) (el : List Ex) (eA : Option Addr) (en ec : Nat) (fl : List Fe) (fA : Option Addr) (fn fc : Nat) (cl : List Cd) (cA : Option Addr) (cn cc : Nat) (tl : List Tx) (tA : Option Addr) (tn tc : Nat) (w : World) (hr : SlT rtEnc 7 288 w rA rn rl) (he : SlT exEnc 4 295 w eA en el) (hf : SlT feEnc 3 352 w fA fn fl) (hc : SlT cdEnc 6 354 w cA cn cl) (ht : SlT txEnc 4 298 w tA tn tl) (hons : Ons tl w) (hro : ∀ x ∈ rl, RtOk x) (heo : ∀ x ∈ el, ExOk x) (hfo : ∀ x ∈ fl, FeOk x) (hco : ∀ x ∈ cl, CdOk x) (hto : ∀ x ∈ tl, TxOk x) (hrn : rn ≤ 1000) (hen : en ≤ 1000) (hfn : fn ≤ 1000) (hcn : cn ≤ 1000) (htn : tn ≤ 3) (htc : tn ≤ tc) :
  Calls Tryz.prog 101 #[.agg #[.slice rA rn rc, .slice eA en ec, .slice fA fn fc, .slice cA cn cc, .slice tA tn tc]] w (GotE w (tariffE rl el fl cl tl)) := by
 refine gw_enter ⟨20, w, none, []⟩ Tryz.func101 rfl Tryz.ntmps101 rfl (mem0 (X := [SlOld rtEnc 7 288 w.heap.size none rA rn rl, SlOld exEnc 4 295 w.heap.size none eA en el, SlOld feEnc 3 352 w.heap.size none fA fn fl, SlOld cdEnc 6 354 w.heap.size none cA cn cl, SlOld txEnc 4 298 w.heap.size none tA tn tl, OnsOld w.heap.size none tl]) (allF_cons hr.old (allF_cons he.old (allF_cons hf.old (allF_cons hc.old (allF_cons ht.old (allF_cons hons.old allF_nil)))))) (allL_cons SlOld.lasts (allL_cons SlOld.lasts (allL_cons SlOld.lasts (allL_cons SlOld.lasts (allL_cons SlOld.lasts (allL_cons OnsOld.lasts allL_nil))))))) ?_
 refine sr_ ?_
 obtain ⟨RE, hRE⟩ : ∃ E, E = ratesE rl := ⟨_, rfl⟩
 obtain ⟨XE, hXE⟩ : ∃ E, E = extrasE el := ⟨_, rfl⟩
 obtain ⟨FE, hFE⟩ : ∃ E, E = feesE fl := ⟨_, rfl⟩
 obtain ⟨CE, hCE⟩ : ∃ E, E = codesE cl := ⟨_, rfl⟩
 obtain ⟨TE, hTE⟩ : ∃ E, E = taxesE tl := ⟨_, rfl⟩
 have hTE5 : tariffE rl el fl cl tl = firstE [RE, XE, FE, CE, TE] := by rw [hRE, hXE, hFE, hCE, hTE]; rfl
 refine wl_box rfl rfl rfl fun g1 => ?_
 refine sg_ rfl (nn_ (gw_seq ?_))
 refine gd (fun wz => Blk wz g1 77 [.slice rA rn rc, .slice eA en ec, .slice fA fn fc, .slice cA cn cc, .slice tA tn tc] ∧ (SlOld rtEnc 7 288 w.heap.size none rA rn rl) wz ∧ (SlOld exEnc 4 295 w.heap.size none eA en el) wz ∧ (SlOld feEnc 3 352 w.heap.size none fA fn fl) wz ∧ (SlOld cdEnc 6 354 w.heap.size none cA cn cl) wz ∧ (SlOld txEnc 4 298 w.heap.size none tA tn tl) wz ∧ (OnsOld w.heap.size none tl) wz ∧ True) mixed (fun _ hm => ⟨hm.bl 0, hm.fa 0, hm.fa 1, hm.fa 2, hm.fa 3, hm.fa 4, hm.fa 5, trivial⟩) fun z => ?_
 refine wt 0 18 1 rfl z (ov_field fo77_0 rfl rfl) ?_
 refine wt 1 18 3 rfl z (ov_load sc71 rfl (fun _ hm => hm.1) rfl) ?_
 refine wt 3 18 11 rfl z (ov_field fo77_1 rfl rfl) ?_
 refine wt 4 18 27 rfl z (ov_load sc72 rfl (fun _ hm => hm.1) rfl) ?_
 refine wt 6 18 91 rfl z (ov_field fo77_2 rfl rfl) ?_
 refine wt 7 18 219 rfl z (ov_load sc73 rfl (fun _ hm => hm.1) rfl) ?_
 refine wt 9 18 731 rfl z (ov_field fo77_3 rfl rfl) ?_
 refine wt 10 18 1755 rfl z (ov_load sc74 rfl (fun _ hm => hm.1) rfl) ?_
 refine wt 12 18 5851 rfl z (ov_field fo77_4 rfl rfl) ?_
 refine wt 13 18 14043 rfl z (ov_load sc75 rfl (fun _ hm => hm.1) rfl) ?_
 refine wa1 2 rfl ?_
 refine wl_callv (v := .int .i64 RE) rfl cb204 rfl rfl (fun wx hm => (by rw [hRE]; exact checkRates_any rl rA rn rc wx (hm.fact 0 rfl).1 hro (by omega))) ?_
 refine wl_nil ?_
 refine nw 18 14047 (fun _ hm => ⟨hm.bl 0, hm.fa 0, hm.fa 1, hm.fa 2, hm.fa 3, hm.fa 4, hm.fa 5, trivial⟩) fun z => ?_
 refine wa1 5 rfl ?_
 refine wl_callv (v := .int .i64 XE) rfl cb205 rfl rfl (fun wx hm => (by rw [hXE]; exact checkExtras_any el eA en ec wx (hm.fact 1 rfl).1 heo (by omega))) ?_
 refine wl_nil ?_
 refine nw 18 14079 (fun _ hm => ⟨hm.bl 0, hm.fa 0, hm.fa 1, hm.fa 2, hm.fa 3, hm.fa 4, hm.fa 5, trivial⟩) fun z => ?_
 refine wa1 8 rfl ?_
 refine wl_callv (v := .int .i64 FE) rfl cb206 rfl rfl (fun wx hm => (by rw [hFE]; exact checkFees_any fl fA fn fc wx (hm.fact 2 rfl).1 hfo (by omega))) ?_
 refine wl_nil ?_
 refine nw 18 14335 (fun _ hm => ⟨hm.bl 0, hm.fa 0, hm.fa 1, hm.fa 2, hm.fa 3, hm.fa 4, hm.fa 5, trivial⟩) fun z => ?_
 refine wa1 11 rfl ?_
 refine wl_callv (v := .int .i64 CE) rfl cb207 rfl rfl (fun wx hm => (by rw [hCE]; exact checkCodes_any cl cA cn cc wx (hm.fact 3 rfl).1 hco (by omega))) ?_
 refine wl_nil ?_
 refine nw 18 16383 (fun _ hm => ⟨hm.bl 0, hm.fa 0, hm.fa 1, hm.fa 2, hm.fa 3, hm.fa 4, hm.fa 5, trivial⟩) fun z => ?_
 refine wa1 14 rfl ?_
 refine wl_callv (v := .int .i64 TE) rfl cb104 rfl rfl (fun wx hm => (by rw [hTE]; exact checkTaxes_any tl tA tn tc wx (hm.fact 4 rfl).1 (OnsOld.ons (hm.fact 5 rfl)) hto (by omega) htc)) ?_
 refine wl_nil ?_
 refine nw 18 32767 (fun _ hm => ⟨hm.bl 0, hm.fa 0, hm.fa 1, hm.fa 2, hm.fa 3, hm.fa 4, hm.fa 5, trivial⟩) fun z => ?_
 refine wa1 15 rfl ?_
 refine wl_buildSlice (e := 33) (cs := [.int .i64 RE, .int .i64 XE, .int .i64 FE, .int .i64 CE, .int .i64 TE]) rfl (by kernel_rfl) rfl fun g2 => ?_
 refine wl_nil ?_
 refine nw 18 65535 (fun _ hm => ⟨hm.bl 1, hm.fa 0, hm.fa 1, hm.fa 2, hm.fa 3, hm.fa 4, hm.fa 5, trivial⟩) fun z => ?_
 refine wa1 16 rfl ?_
 refine wl_callw rfl cb66 rfl rfl (fun wx hm => (first_any [RE, XE, FE, CE, TE] _ _ _ wx (hm.blkI 0 rfl) (by simp))) ?_
 refine wl_nil ?_
 refine nw 18 131071 (fun _ hm => ⟨hm.bl 1, hm.fa 0, hm.fa 1, hm.fa 2, hm.fa 3, hm.fa 4, hm.fa 5, trivial⟩) fun z => ?_
 refine wt 17 18 262143 rfl z (ov_assign rfl) ?_
 refine wa_done (by kernel_rfl) ?_
 refine nx_then ?_
 refine gw_ret ?_
 refine nx_ret1 rfl rfl fun wx hm => ?_
 exact ⟨ret_int hTE5.symm, hm.g⟩
theorem tariffFault_any (rl : List Rt) (rA : Option Addr) (rn rc : Nat) (el : List Ex) (eA : Option Addr) (en ec : Nat) (fl : List Fe) (fA : Option Addr) (fn fc : Nat) (cl : List Cd) (cA : Option Addr) (cn cc : Nat) (tl : List Tx) (tA : Option Addr) (tn tc : Nat) (w : World) (hr : SlT rtEnc 7 288 w rA rn rl) (he : SlT exEnc 4 295 w eA en el) (hf : SlT feEnc 3 352 w fA fn fl) (hc : SlT cdEnc 6 354 w cA cn cl) (ht : SlT txEnc 4 298 w tA tn tl) (hons : Ons tl w) (hro : ∀ x ∈ rl, RtOk x) (heo : ∀ x ∈ el, ExOk x) (hfo : ∀ x ∈ fl, FeOk x) (hco : ∀ x ∈ cl, CdOk x) (hto : ∀ x ∈ tl, TxOk x) (hrn : rn ≤ 1000) (hen : en ≤ 1000) (hfn : fn ≤ 1000) (hcn : cn ≤ 1000) (htn : tn ≤ 3) (htc : tn ≤ tc) :
  Calls Tryz.prog 97 #[.agg #[.slice rA rn rc, .slice eA en ec, .slice fA fn fc, .slice cA cn cc, .slice tA tn tc]] w (GotE w (tariffE rl el fl cl tl)) := by
 refine gw_enter ⟨30, w, none, []⟩ Tryz.func97 rfl Tryz.ntmps97 rfl (mem0 (X := [SlOld rtEnc 7 288 w.heap.size none rA rn rl, SlOld exEnc 4 295 w.heap.size none eA en el, SlOld feEnc 3 352 w.heap.size none fA fn fl, SlOld cdEnc 6 354 w.heap.size none cA cn cl, SlOld txEnc 4 298 w.heap.size none tA tn tl, OnsOld w.heap.size none tl]) (allF_cons hr.old (allF_cons he.old (allF_cons hf.old (allF_cons hc.old (allF_cons ht.old (allF_cons hons.old allF_nil)))))) (allL_cons SlOld.lasts (allL_cons SlOld.lasts (allL_cons SlOld.lasts (allL_cons SlOld.lasts (allL_cons SlOld.lasts (allL_cons OnsOld.lasts allL_nil))))))) ?_
 refine sr_ ?_
 obtain ⟨RE, hRE⟩ : ∃ E, E = ratesE rl := ⟨_, rfl⟩
 obtain ⟨XE, hXE⟩ : ∃ E, E = extrasE el := ⟨_, rfl⟩
 obtain ⟨FE, hFE⟩ : ∃ E, E = feesE fl := ⟨_, rfl⟩
 obtain ⟨CE, hCE⟩ : ∃ E, E = codesE cl := ⟨_, rfl⟩
 obtain ⟨TE, hTE⟩ : ∃ E, E = taxesE tl := ⟨_, rfl⟩
 have hTE5 : tariffE rl el fl cl tl = firstE [RE, XE, FE, CE, TE] := by rw [hRE, hXE, hFE, hCE, hTE]; rfl
 rw [hTE5]
 refine wl_box rfl rfl rfl fun g1 => ?_
 refine sg_ rfl (nn_ (gw_seq (gw_seq ?_)))
 refine gd (fun wz => Blk wz g1 77 [.slice rA rn rc, .slice eA en ec, .slice fA fn fc, .slice cA cn cc, .slice tA tn tc] ∧ (SlOld rtEnc 7 288 w.heap.size none rA rn rl) wz ∧ (SlOld exEnc 4 295 w.heap.size none eA en el) wz ∧ (SlOld feEnc 3 352 w.heap.size none fA fn fl) wz ∧ (SlOld cdEnc 6 354 w.heap.size none cA cn cl) wz ∧ (SlOld txEnc 4 298 w.heap.size none tA tn tl) wz ∧ (OnsOld w.heap.size none tl) wz ∧ True) mixed (fun _ hm => ⟨hm.bl 0, hm.fa 0, hm.fa 1, hm.fa 2, hm.fa 3, hm.fa 4, hm.fa 5, trivial⟩) fun z => ?_
 refine wt 0 18 1 rfl z (ov_field fo77_0 rfl rfl) ?_
 refine wt 1 18 3 rfl z (ov_load sc71 rfl (fun _ hm => hm.1) rfl) ?_
 refine wt 3 18 11 rfl z (ov_field fo77_1 rfl rfl) ?_
 refine wt 4 18 27 rfl z (ov_load sc72 rfl (fun _ hm => hm.1) rfl) ?_
 refine wt 6 18 91 rfl z (ov_field fo77_2 rfl rfl) ?_
 refine wt 7 18 219 rfl z (ov_load sc73 rfl (fun _ hm => hm.1) rfl) ?_
 refine wt 9 18 731 rfl z (ov_field fo77_3 rfl rfl) ?_
 refine wt 10 18 1755 rfl z (ov_load sc74 rfl (fun _ hm => hm.1) rfl) ?_
 refine wt 12 18 5851 rfl z (ov_field fo77_4 rfl rfl) ?_
 refine wt 13 18 14043 rfl z (ov_load sc75 rfl (fun _ hm => hm.1) rfl) ?_
 refine wt 17 18 145115 rfl z (ov_move rfl) ?_
 refine wa1 2 rfl ?_
 refine wl_callv (v := .int .i64 RE) rfl cb199 rfl rfl (fun wx hm => (by rw [hRE]; exact ratesFault_any rl rA rn rc wx (hm.fact 0 rfl).1 hro (by omega))) ?_
 refine wl_nil ?_
 refine nw 18 145119 (fun _ hm => ⟨hm.bl 0, hm.fa 0, hm.fa 1, hm.fa 2, hm.fa 3, hm.fa 4, hm.fa 5, trivial⟩) fun z => ?_
 refine wa1 5 rfl ?_
 refine wl_callv (v := .int .i64 XE) rfl cb200 rfl rfl (fun wx hm => (by rw [hXE]; exact extrasFault_any el eA en ec wx (hm.fact 1 rfl).1 heo (by omega))) ?_
 refine wl_nil ?_
 refine nw 18 145151 (fun _ hm => ⟨hm.bl 0, hm.fa 0, hm.fa 1, hm.fa 2, hm.fa 3, hm.fa 4, hm.fa 5, trivial⟩) fun z => ?_
 refine wa1 8 rfl ?_
 refine wl_callv (v := .int .i64 FE) rfl cb201 rfl rfl (fun wx hm => (by rw [hFE]; exact feesFault_any fl fA fn fc wx (hm.fact 2 rfl).1 hfo (by omega))) ?_
 refine wl_nil ?_
 refine nw 18 145407 (fun _ hm => ⟨hm.bl 0, hm.fa 0, hm.fa 1, hm.fa 2, hm.fa 3, hm.fa 4, hm.fa 5, trivial⟩) fun z => ?_
 refine wa1 11 rfl ?_
 refine wl_callv (v := .int .i64 CE) rfl cb202 rfl rfl (fun wx hm => (by rw [hCE]; exact codesFault_any cl cA cn cc wx (hm.fact 3 rfl).1 hco (by omega))) ?_
 refine wl_nil ?_
 refine nw 18 147455 (fun _ hm => ⟨hm.bl 0, hm.fa 0, hm.fa 1, hm.fa 2, hm.fa 3, hm.fa 4, hm.fa 5, trivial⟩) fun z => ?_
 refine wa1 14 rfl ?_
 refine wl_callv (v := .int .i64 TE) rfl cb203 rfl rfl (fun wx hm => (by rw [hTE]; exact taxesFault_any tl tA tn tc wx (hm.fact 4 rfl).1 (OnsOld.ons (hm.fact 5 rfl)) hto (by omega) htc)) ?_
 refine wl_nil ?_
 refine nw 18 163839 (fun _ hm => ⟨hm.bl 0, hm.fa 0, hm.fa 1, hm.fa 2, hm.fa 3, hm.fa 4, hm.fa 5, trivial⟩) fun z => ?_
 refine wa1 15 rfl ?_
 refine wl_buildSlice (e := 33) (cs := [.int .i64 RE, .int .i64 XE, .int .i64 FE, .int .i64 CE, .int .i64 TE]) rfl (by kernel_rfl) rfl fun g2 => ?_
 refine wl_nil ?_
 refine nw 18 196607 (fun _ hm => ⟨hm.bl 1, hm.fa 0, hm.fa 1, hm.fa 2, hm.fa 3, hm.fa 4, hm.fa 5, trivial⟩) fun z => ?_
 refine wt 16 18 262143 rfl z (ov_len es148 rfl) ?_
 refine wa_set 21 (v' := .int .i64 5) rfl rfl ?_
 refine wa_done (by kernel_rfl) ?_
 refine nx_then (gw_block ?_)
 refine gw_rounds 6 ?_
 refine gr_next ?_
 refine sr_ (wl_ov (ov_lss rfl rfl) rfl ?_)
 refine wl_set 23 (v' := .bool true) rfl (congrArg Value.bool (by decide)) ?_
 refine nn_ (gw_seq (ct_ rfl (gw_skip (nx_then (gw_seq (gw_block (sr_ ?_)))))))
 refine wl_ov (ov_index (j := 0) es148 rfl rfl (by decide)) rfl ?_
 refine lk_ sc33 0 rfl rfl rfl (sg_ rfl (nn_ (sr_ (mv_ rfl (wl_ov (ov_neq rfl rfl) rfl (nn_ ?_))))))
 refine gw_cond rfl (fun hh => ?_) (fun hh => ?_)
 ·have g0 : ¬ (RE = 0) := by simpa using hh
  clear hh
  refine sr_ (mv_ rfl (sg_ rfl (nn_ ?_)))
  refine gw_ret ?_
  refine nx_blk_ret (nx_then_ret (nx_then_ret (nx_blk_ret (nx_then_ret ?_))))
  refine nx_ret1 rfl rfl fun wx hm => ?_
  exact ⟨ret_int (by simp [firstE, g0]), hm.g⟩
 have g0 : RE = 0 := by simpa using hh
 clear hh
 refine gw_skip (nx_blk_nrm (nx_then (gw_region (ad_ rfl rfl ?_))))
 refine wl_set 29 (v' := .int .i64 1) rfl rfl ?_
 refine mv_ rfl (wl_nil ?_)
 refine nx_next ?_
 refine gr_next ?_
 refine sr_ (wl_ov (ov_lss rfl rfl) rfl ?_)
 refine wl_set 23 (v' := .bool true) rfl (congrArg Value.bool (by decide)) ?_
 refine nn_ (gw_seq (ct_ rfl (gw_skip (nx_then (gw_seq (gw_block (sr_ ?_)))))))
 refine wl_ov (ov_index (j := 1) es148 rfl rfl (by decide)) rfl ?_
 refine lk_ sc33 0 rfl rfl rfl (sg_ rfl (nn_ (sr_ (mv_ rfl (wl_ov (ov_neq rfl rfl) rfl (nn_ ?_))))))
 refine gw_cond rfl (fun hh => ?_) (fun hh => ?_)
 ·have g1 : ¬ (XE = 0) := by simpa using hh
  clear hh
  refine sr_ (mv_ rfl (sg_ rfl (nn_ ?_)))
  refine gw_ret ?_
  refine nx_blk_ret (nx_then_ret (nx_then_ret (nx_blk_ret (nx_then_ret ?_))))
  refine nx_ret1 rfl rfl fun wx hm => ?_
  exact ⟨ret_int (by simp [firstE, g0, g1]), hm.g⟩
 have g1 : XE = 0 := by simpa using hh
 clear hh
 refine gw_skip (nx_blk_nrm (nx_then (gw_region (ad_ rfl rfl ?_))))
 refine wl_set 29 (v' := .int .i64 2) rfl rfl ?_
 refine mv_ rfl (wl_nil ?_)
 refine nx_next ?_
 refine gr_next ?_
 refine sr_ (wl_ov (ov_lss rfl rfl) rfl ?_)
 refine wl_set 23 (v' := .bool true) rfl (congrArg Value.bool (by decide)) ?_
 refine nn_ (gw_seq (ct_ rfl (gw_skip (nx_then (gw_seq (gw_block (sr_ ?_)))))))
 refine wl_ov (ov_index (j := 2) es148 rfl rfl (by decide)) rfl ?_
 refine lk_ sc33 0 rfl rfl rfl (sg_ rfl (nn_ (sr_ (mv_ rfl (wl_ov (ov_neq rfl rfl) rfl (nn_ ?_))))))
 refine gw_cond rfl (fun hh => ?_) (fun hh => ?_)
 ·have g2 : ¬ (FE = 0) := by simpa using hh
  clear hh
  refine sr_ (mv_ rfl (sg_ rfl (nn_ ?_)))
  refine gw_ret ?_
  refine nx_blk_ret (nx_then_ret (nx_then_ret (nx_blk_ret (nx_then_ret ?_))))
  refine nx_ret1 rfl rfl fun wx hm => ?_
  exact ⟨ret_int (by simp [firstE, g0, g1, g2]), hm.g⟩
 have g2 : FE = 0 := by simpa using hh
 clear hh
 refine gw_skip (nx_blk_nrm (nx_then (gw_region (ad_ rfl rfl ?_))))
 refine wl_set 29 (v' := .int .i64 3) rfl rfl ?_
 refine mv_ rfl (wl_nil ?_)
 refine nx_next ?_
 refine gr_next ?_
 refine sr_ (wl_ov (ov_lss rfl rfl) rfl ?_)
 refine wl_set 23 (v' := .bool true) rfl (congrArg Value.bool (by decide)) ?_
 refine nn_ (gw_seq (ct_ rfl (gw_skip (nx_then (gw_seq (gw_block (sr_ ?_)))))))
 refine wl_ov (ov_index (j := 3) es148 rfl rfl (by decide)) rfl ?_
 refine lk_ sc33 0 rfl rfl rfl (sg_ rfl (nn_ (sr_ (mv_ rfl (wl_ov (ov_neq rfl rfl) rfl (nn_ ?_))))))
 refine gw_cond rfl (fun hh => ?_) (fun hh => ?_)
 ·have g3 : ¬ (CE = 0) := by simpa using hh
  clear hh
  refine sr_ (mv_ rfl (sg_ rfl (nn_ ?_)))
  refine gw_ret ?_
  refine nx_blk_ret (nx_then_ret (nx_then_ret (nx_blk_ret (nx_then_ret ?_))))
  refine nx_ret1 rfl rfl fun wx hm => ?_
  exact ⟨ret_int (by simp [firstE, g0, g1, g2, g3]), hm.g⟩
 have g3 : CE = 0 := by simpa using hh
 clear hh
 refine gw_skip (nx_blk_nrm (nx_then (gw_region (ad_ rfl rfl ?_))))
 refine wl_set 29 (v' := .int .i64 4) rfl rfl ?_
 refine mv_ rfl (wl_nil ?_)
 refine nx_next ?_
 refine gr_next ?_
 refine sr_ (wl_ov (ov_lss rfl rfl) rfl ?_)
 refine wl_set 23 (v' := .bool true) rfl (congrArg Value.bool (by decide)) ?_
 refine nn_ (gw_seq (ct_ rfl (gw_skip (nx_then (gw_seq (gw_block (sr_ ?_)))))))
 refine wl_ov (ov_index (j := 4) es148 rfl rfl (by decide)) rfl ?_
 refine lk_ sc33 0 rfl rfl rfl (sg_ rfl (nn_ (sr_ (mv_ rfl (wl_ov (ov_neq rfl rfl) rfl (nn_ ?_))))))
 refine gw_cond rfl (fun hh => ?_) (fun hh => ?_)
 ·have g4 : ¬ (TE = 0) := by simpa using hh
  clear hh
  refine sr_ (mv_ rfl (sg_ rfl (nn_ ?_)))
  refine gw_ret ?_
  refine nx_blk_ret (nx_then_ret (nx_then_ret (nx_blk_ret (nx_then_ret ?_))))
  refine nx_ret1 rfl rfl fun wx hm => ?_
  exact ⟨ret_int (by simp [firstE, g0, g1, g2, g3, g4]), hm.g⟩
 have g4 : TE = 0 := by simpa using hh
 clear hh
 refine gw_skip (nx_blk_nrm (nx_then (gw_region (ad_ rfl rfl ?_))))
 refine wl_set 29 (v' := .int .i64 5) rfl rfl ?_
 refine mv_ rfl (wl_nil ?_)
 refine nx_next ?_
 refine gr_next ?_
 refine sr_ (wl_ov (ov_lss rfl rfl) rfl ?_)
 refine wl_set 23 (v' := .bool false) rfl (congrArg Value.bool (by decide)) ?_
 refine nn_ (gw_seq (cf_ rfl ?_))
 refine gw_exit ?_
 refine nx_then_exit (nx_then_exit ?_)
 refine nx_blk_here ?_
 refine nx_then (sr_ (sg_ rfl (nn_ ?_)))
 refine gw_ret ?_
 refine nx_ret1 rfl rfl fun wx hm => ?_
 exact ⟨ret_int (by simp [firstE, g0, g1, g2, g3, g4]), hm.g⟩
theorem isExtra_any (el : List Ex) (eA : Option Addr) (en ec : Nat) (rA fA cA tA : Option Addr) (rn rc fn fc cn cc tn tc : Nat) (gt : Nat) (k : ByteArray) (w : World) (he : SlT exEnc 4 295 w eA en el) (hen : en ≤ 1000) (hg : Blk w gt 77 [.slice rA rn rc, .slice eA en ec, .slice fA fn fc, .slice cA cn cc, .slice tA tn tc]) :
  Calls Tryz.prog 209 #[.string k, .pointer (some ⟨gt, 0, none⟩)] w (fun e w' => e = .returned (.bool (el.any (exP k))) ∧ w.grownBy w' none) := by
 refine gw_enter ⟨9, w, none, []⟩ Tryz.func209 rfl Tryz.ntmps209 rfl (mem0 (X := [SlOld exEnc 4 295 w.heap.size none eA en el, BlkOld w.heap.size none gt 77 [.slice rA rn rc, .slice eA en ec, .slice fA fn fc, .slice cA cn cc, .slice tA tn tc]]) (allF_cons he.old (allF_cons hg.old allF_nil)) (allL_cons SlOld.lasts (allL_cons BlkOld.lasts allL_nil))) ?_
 refine sr_ (sg_ rfl (nn_ (sr_ (fd_ fo77_1 rfl rfl ?_))))
 refine wl_ov (ov_load (v := .slice eA en ec) sc72 rfl (fun _ hm => (hm.fact 1 rfl).2) rfl) rfl ?_
 refine mv_ rfl ?_
 refine wl_callv rfl cb210 rfl rfl (fun wx hm => (extraAt_any el eA en ec k wx (hm.fact 0 rfl).1 (by omega))) ?_
 refine wl_ov (ov_geq rfl rfl) rfl ?_
 refine sg_ rfl (nn_ ?_)
 refine gw_ret ?_
 refine nx_ret1 rfl rfl fun wx hm => ?_
 exact ⟨by rw [← ix_any], hm.g⟩
theorem checkAsked_extras (el : List Ex) (eA : Option Addr) (en ec : Nat) (rA fA cA tA : Option Addr) (rn rc fn fc cn cc tn tc : Nat) (ks : List ByteArray) (A1 : Option Addr) (n1 c1 : Nat) (gt : Nat) (w : World) (he : SlT exEnc 4 295 w eA en el) (hen : en ≤ 1000) (hs : SlT sgEnc 1 9 w A1 n1 ks) (hn1 : n1 ≤ 1000000) (hc1 : n1 ≤ c1) (hg : Blk w gt 77 [.slice rA rn rc, .slice eA en ec, .slice fA fn fc, .slice cA cn cc, .slice tA tn tc]) :
  Calls Tryz.prog 208 #[.slice A1 n1 c1, .func (.func 209) #[] #[.pointer (some ⟨gt, 0, none⟩)]] w (GotE w (askE (fun k => el.any (exP k)) ks)) := by
 refine gw_enter ⟨29, w, none, []⟩ Tryz.func208 rfl Tryz.ntmps208 rfl (mem0 (X := [SlOld sgEnc 1 9 w.heap.size none A1 n1 ks, SlOld exEnc 4 295 w.heap.size none eA en el, BlkOld w.heap.size none gt 77 [.slice rA rn rc, .slice eA en ec, .slice fA fn fc, .slice cA cn cc, .slice tA tn tc]]) (allF_cons hs.old (allF_cons he.old (allF_cons hg.old allF_nil))) (allL_cons SlOld.lasts (allL_cons SlOld.lasts (allL_cons BlkOld.lasts allL_nil)))) ?_
 refine sr_ ?_
 have hlen := hs.len
 refine sg_ rfl (nn_ (gw_seq (sr_ (mv_ rfl (wl_ov (ov_len es79 rfl) rfl ?_)))))
 refine wl_ov (ov_gtr rfl rfl) rfl ?_
 refine nn_ ?_
 refine gw_cond rfl (fun hh => ?_) (fun hh => ?_)
 ·have h1 : 10 < ((n1 : Nat) : Int) := by simpa using hh
  clear hh
  refine sr_ (sg_ rfl (nn_ ?_))
  refine gw_ret ?_
  refine nx_then_ret ?_
  refine nx_ret1 rfl rfl fun wx hm => ?_
  exact ⟨ret_int (by unfold askE; rw [if_pos (by omega)]), hm.g⟩
 have h1 : ¬ (10 < ((n1 : Nat) : Int)) := by simpa using hh
 clear hh
 refine gw_skip (nx_then (gw_seq (sr_ (mv_ rfl (wl_ov (ov_len es79 rfl) rfl (mv_ rfl (nn_ (gw_block ?_))))))))
 refine gw_loop (γ := Nat) (fun (i : Nat) => i ≤ n1 ∧ askE (fun k => el.any (exP k)) ks = askG (fun k => el.any (exP k)) (ks.take i) (ks.drop i)) (fun (i : Nat) => [(0, .slice A1 n1 c1), (1, .func (.func 209) #[] #[.pointer (some ⟨gt, 0, none⟩)]), (10, .slice A1 n1 c1), (11, .int .i64 ((n1 : Nat) : Int)), (12, .int .i64 ((i : Nat) : Int))]) (fun (i : Nat) => fun _ => True) (fun (i : Nat) => []) (fun (i : Nat) => []) (fun (i : Nat) => [SlOld sgEnc 1 9 w.heap.size none A1 n1 ks, SlOld exEnc 4 295 w.heap.size none eA en el, BlkOld w.heap.size none gt 77 [.slice rA rn rc, .slice eA en ec, .slice fA fn fc, .slice cA cn cc, .slice tA tn tc]]) (fun (i : Nat) => n1 - i) 0 ⟨Nat.zero_le _, by unfold askE; rw [if_neg (by omega)]; rfl⟩ ⟨rfl, rfl, rfl, rfl, rfl, trivial⟩ (fun _ hm => hm.pick [] [] [0, 1, 2] rfl rfl) ?_
 intro i hinv
 replace hinv : i ≤ n1 ∧ askE (fun k => el.any (exP k)) ks = askG (fun k => el.any (exP k)) (ks.take i) (ks.drop i) := hinv
 refine sr_ (wl_ov (ov_lss rfl rfl) rfl (nn_ (gw_seq ?_)))
 refine gw_cond rfl (fun hh => ?_) (fun hh => ?_)
 ·have hi : ((i : Nat) : Int) < ((n1 : Nat) : Int) := by simpa using hh
  clear hh
  refine gw_skip (nx_then (gw_seq (gw_block (sr_ ?_))))
  obtain ⟨b1, off1, hA, _, _⟩ := hs.get (by omega)
  subst hA
  obtain ⟨k, hx⟩ : ∃ x, ks[i]? = some x := ⟨_, List.getElem?_eq_getElem (by omega)⟩
  have hat := askG_at (has := (fun k => el.any (exP k))) hx
  refine mv_ rfl ?_
  refine wl_ov (ov_index (j := i) es79 rfl rfl (by omega)) rfl ?_
  refine wl_ov (ov_elem1 (k := 0) (v := .string k) sc9 rfl (fun _ hm => (hm.fact 0 rfl).1) hx rfl rfl) rfl ?_
  refine sg_ rfl (sg_ rfl (nn_ (gw_block (sr_ (mv_ rfl (mv_ rfl ?_))))))
  refine wl_callv rfl cb209 rfl rfl (fun wx hm => (isExtra_any el eA en ec rA fA cA tA rn rc fn fc cn cc tn tc gt k wx (hm.fact 1 rfl).1 hen (hm.fact 2 rfl).2)) ?_
  refine wl_ov (ov_un_not rfl) rfl (sg_ rfl (nn_ ?_))
  refine gw_cond rfl (fun hh => ?_) (fun hh => ?_)
  ·have h2 : (el.any (exP k)) = false := by simpa using hh
   clear hh
   refine sr_ (sg_ rfl (nn_ ?_))
   refine gw_ret ?_
   refine nx_blk_ret (nx_blk_ret (nx_then_ret (nx_then_ret (nx_blk_ret (nx_then_ret ?_)))))
   refine nx_ret1 rfl rfl fun wx hm => ?_
   exact ⟨ret_int (by rw [hinv.2, hat, if_pos (by simpa using h2)]), hm.g⟩
  have h2 : (el.any (exP k)) = true := by simpa using hh
  clear hh
  refine sr_ (mv_ rfl (mv_ rfl ?_))
  refine wl_ov (ov_sliceHi (hi := i) es79 rfl rfl rfl (by omega)) rfl ?_
  refine mv_ rfl ?_
  refine wl_callv rfl cb113 rfl rfl (fun wx hm => (contains_str (ks.take i) _ i c1 k wx (SlT.takeT (hm.fact 0 rfl).1 (by omega)) (by omega))) ?_
  refine sg_ rfl (nn_ ?_)
  refine gw_cond rfl (fun hh => ?_) (fun hh => ?_)
  ·have h3 : ((ks.take i).any (fun y => k.toList == y.toList)) = true := by simpa using hh
   clear hh
   refine sr_ (sg_ rfl (nn_ ?_))
   refine gw_ret ?_
   refine nx_blk_ret (nx_blk_ret (nx_then_ret (nx_then_ret (nx_blk_ret (nx_then_ret ?_)))))
   refine nx_ret1 rfl rfl fun wx hm => ?_
   exact ⟨ret_int (by rw [hinv.2, hat, if_neg (by simpa using h2), if_pos h3]), hm.g⟩
  have h3 : ((ks.take i).any (fun y => k.toList == y.toList)) = false := by simpa using hh
  clear hh
  refine gw_skip (nx_blk_nrm (nx_blk_nrm (nx_then (gw_region (ad_ rfl rfl (mv_ rfl (wl_nil ?_)))))))
  exact nx_round (i + 1) ⟨by omega, by rw [hinv.2, hat, if_neg (by simpa using h2), if_neg (by rw [h3]; decide)]⟩ (by omega) ⟨rfl, rfl, rfl, rfl, (some_int (by omega)), trivial⟩ (fun _ hm => hm.pick [] [] [0, 1, 2] rfl rfl)
 have hi : ¬ (((i : Nat) : Int) < ((n1 : Nat) : Int)) := by simpa using hh
 clear hh
 refine gw_exit ?_
 refine nx_then_exit (nx_then_exit ?_)
 refine nx_blk_here ?_
 refine nx_then (sr_ (sg_ rfl (nn_ ?_)))
 refine gw_ret ?_
 refine nx_ret1 rfl rfl fun wx hm => ?_
 exact ⟨ret_int (by rw [hinv.2, List.drop_eq_nil_of_le (by omega)]; rfl), hm.g⟩
theorem askedExtras_any (el : List Ex) (eA : Option Addr) (en ec : Nat) (rA fA cA tA : Option Addr) (rn rc fn fc cn cc tn tc : Nat) (ks : List ByteArray) (A1 : Option Addr) (n1 c1 : Nat) (w : World) (he : SlT exEnc 4 295 w eA en el) (hen : en ≤ 1000) (hs : SlT sgEnc 1 9 w A1 n1 ks) (hn1 : n1 ≤ 1000000) (hc1 : n1 ≤ c1) :
  Calls Tryz.prog 102 #[.agg #[.slice rA rn rc, .slice eA en ec, .slice fA fn fc, .slice cA cn cc, .slice tA tn tc], .slice A1 n1 c1] w (GotE w (askE (fun k => el.any (exP k)) ks)) := by
 refine gw_enter ⟨8, w, none, []⟩ Tryz.func102 rfl Tryz.ntmps102 rfl (mem0 (X := [SlOld sgEnc 1 9 w.heap.size none A1 n1 ks, SlOld exEnc 4 295 w.heap.size none eA en el]) (allF_cons hs.old (allF_cons he.old allF_nil)) (allL_cons SlOld.lasts (allL_cons SlOld.lasts allL_nil))) ?_
 refine sr_ ?_
 refine wl_box rfl rfl rfl fun g1 => ?_
 refine sg_ rfl (nn_ (sr_ (mv_ rfl (wl_ov (ov_makeFunc rfl rfl) rfl ?_))))
 refine wl_callv rfl cb208 rfl rfl (fun wx hm => (checkAsked_extras el eA en ec rA fA cA tA rn rc fn fc cn cc tn tc ks A1 n1 c1 _ wx (hm.fact 1 rfl).1 hen (hm.fact 0 rfl).1 hn1 hc1 (hm.blkI 0 rfl))) ?_
 refine sg_ rfl (nn_ ?_)
 refine gw_ret ?_
 refine nx_ret1 rfl rfl fun wx hm => ?_
 exact ⟨rfl, hm.g⟩
end Go.Proofs.YtdoooppeiphefaaGreatDoor
namespace Go.Proofs.YtdoooppeiphefaaGreatDoor
open Go.RowKit
theorem setOwn_self {r : Own} : ∀ {O : List Own} {i : Nat}, O[i]? = some r → setOwn r O i = O
  | [], i, h => by simp at h
  | x :: t, 0, h => by
    simp at h; subst h; rfl
  | x :: t, i + 1, h => by
    have h2 : t[i]? = some r := by simpa using h
    simp only [setOwn, setOwn_self h2]
section
variable {P : Program} {c : Cx} {ops : Array Oper} {Q : Exit → Act → World → Prop} {rest : List Oper} {S : List (Nat × Value)} {K : World → Prop} {L : List (Nat × TypeId × List Value)} {O : List Own} {X : List (World → Prop)}
variable {d : Nat} {ty : TypeId} {pos : String} {aft : Array Edge}
theorem wl_appendO {t e e2 : TypeId} {sz by_ : Nat} {x y : Operand} {m n : Nat} {v vy : Value} {xs ys : List Value} (i j : Nat) (ht : appB P t = some (e, sz, by_)) (hx : rd S x = some v) (hO : O[i]? = some ⟨v, e, sz, n, xs⟩) (hy : rd S y = some vy) (hO2 : O[j]? = some ⟨vy, e2, sz, m, ys⟩)
    (h1 : ∀ u ∈ ys, u.oneCell' = true) (hb : (n + m) * by_ ≤ 140737488355328) (h63 : n + m ≤ maxLen) (hT : c.Tt.contains e = false) (hd : Nat.ble (d + 1) c.n = true)
    (h : ∀ v', (v' = .slice none 0 0 ↔ v = .slice none 0 0 ∧ m = 0) → WL P c ops Q rest ((d, v') :: S) K L (setOwn ⟨v', e, sz, n + m, xs ++ ys⟩ O i) X) : WL P c ops Q (⟨some d, .call ⟨.builtin .append, #[x, y], #[t, t]⟩, ty, pos, aft, none⟩ :: rest) S K L O X := by
  intro a w ha hm
  unfold appB at ht
  split at ht
  · rename_i e' hu
    split at ht
    · rename_i inf hi
      split at ht
      · rename_i z hz
        split at ht
        · rename_i hzz
          simp only [Option.some.injEq, Prod.mk.injEq] at ht
          obtain ⟨rfl, rfl, rfl⟩ := ht
          have hown := hm.o _ (List.mem_of_getElem? hO)
          have hown2 := hm.o _ (List.mem_of_getElem? hO2)
          obtain ⟨hlen, hcase⟩ := hown2
          rcases hcase with ⟨hv, hm0⟩ | ⟨g, cap, cur, hv, _, hh, _, _, _, htk⟩
          · have hv : vy = .slice none 0 0 := hv
            have hm0 : m = 0 := hm0
            have hys : ys = [] := List.eq_nil_of_length_eq_zero (by
              have : ys.length = m * inf.size := hlen
              rw [this, hm0, Nat.zero_mul])
            subst hv hm0 hys
            refine wpList_append_own_none rfl x y t rfl c.w0.heap.size e' inf inf.size hu hi v n xs (ha.eval hx) hown (ha.eval hy) ?_
            have h2 := h v ⟨fun hh => ⟨hh, rfl⟩, fun hh => hh.1⟩
            rw [List.append_nil, Nat.add_zero, setOwn_self hO] at h2
            exact h2 _ _ (ha.put hd _) hm
          · have hv : vy = .slice (some ⟨g, 0, none⟩) m cap := hv
            have htk : cur.toList.take (m * inf.size) = ys := htk
            have hh : w.heap[g]? = some (.cells cur e2 (0, 0)) := hh
            subst hv
            refine wpList_append_own_at _ rfl x y t rfl c.w0.heap.size e' inf z inf.size inf.bytes hu hi hz rfl rfl hzz.1 hzz.2 v n xs (ha.eval hx) hown ⟨g, 0, none⟩ m cap ys (ha.eval hy) hlen (fun k u hk => ?_) h1 h63 hb hm.g.size fun v' w' h2 h3 h4 h5 => ?_
            · rw [add_addr, Nat.zero_add, cell_of_row w g k cur e2 (0, 0) hh]
              rw [show ys = cur.toList.take (m * inf.size) from htk.symm, List.getElem?_take] at hk
              split at hk
              · simpa using hk
              · cases hk
            · exact h v' h4 _ _ (ha.put hd _) (hm.append hO hT h2 h3 h5)
        · cases ht
      · cases ht
    · cases ht
  · cases ht
end
end Go.Proofs.YtdoooppeiphefaaGreatDoor
namespace Go.Proofs.YtdoooppeiphefaaGreatDoor
open Go.RowKit
def quoteE (er : Int) (cl : List Cd) (cks : List ByteArray) (fl : List Fe) (a b : ByteArray) : Int := firstE [er, askE (fun k => cl.any (codeP k)) cks, feeOfE fl a b]
def QIs (rl : List Rt) (el : List Ex) (fl : List Fe) (cl : List Cd) (tl : List Tx) (qc : ByteArray) (fr tt : Int) (qa qb : ByteArray) (ks cks : List ByteArray) (E : Int) (ls : List Ln) : Prop :=
  ∃ er ps, DivIs rl qc fr tt er ps ∧ E = quoteE er cl cks fl qa qb ∧ ls = if E = 0 then lineQ tl (line3 el (daysV fr tt) ks fl qa qb ps (bestK cl cks qc fr tt (pcSum ps))) else []
theorem qis_one {rl : List Rt} {el : List Ex} {fl : List Fe} {cl : List Cd} {tl : List Tx} {qc : ByteArray} {fr tt : Int} {qa qb : ByteArray} {ks cks : List ByteArray} {E F : Int} {ls ms : List Ln} (h : QIs rl el fl cl tl qc fr tt qa qb ks cks E ls) (g : QIs rl el fl cl tl qc fr tt qa qb ks cks F ms) : E = F ∧ ls = ms := by
  obtain ⟨er, ps, h1, h2, h3⟩ := h
  obtain ⟨er', ps', g1, g2, g3⟩ := g
  obtain ⟨rfl, rfl⟩ := divIs_one h1 g1
  have he : E = F := h2.trans g2.symm
  subst he
  exact ⟨rfl, h3.trans g3.symm⟩
theorem div_right {l : List Rt} {c : ByteArray} {fr tt : Int} {ps : List Pc} (h : DivIs l c fr tt 0 ps) : chkE l c fr tt = 0 ∧ Best (prH l c fr tt) 0 (daysN fr tt) ps := by
  rcases h with ⟨h1, h2, _⟩ | ⟨h1, ⟨h2, _⟩ | ⟨_, h3⟩⟩
  · exact absurd h2.symm h1
  · cases h2
  · exact ⟨h1, h3⟩
theorem ln_one : ∀ (x : Ln), ∀ v ∈ lnEnc x, v.oneCell' = true := fun x v hv => by
  unfold lnEnc at hv
  simp only [List.mem_cons, List.not_mem_nil, or_false] at hv
  rcases hv with rfl | rfl | rfl <;> rfl
theorem best_ce {cl : List Cd} {cks : List ByteArray} {qc : ByteArray} {fr tt x : Int} (h0 : codesE cl = 0) (hk : keyB qc = true) (ht : timeE fr tt = 0) (hx : 0 ≤ x ∧ x ≤ 120000000) : bestCE cl cks qc fr tt x = askE (fun k => cl.any (codeP k)) cks := by
  unfold bestCE
  rw [h0, hk, ht, inB_iff.2 (show 0 ≤ x ∧ x ≤ 1000000000 by omega)]
  by_cases ha : askE (fun k => cl.any (codeP k)) cks = 0
  · rw [ha]; rfl
  · simp [firstE, ha]
theorem best_v {cl : List Cd} {cks : List ByteArray} {qc : ByteArray} {fr tt x : Int} (h : bestCE cl cks qc fr tt x = 0) : bestV cl cks qc fr tt x = bestK cl cks qc fr tt x := by unfold bestV; rw [if_pos h]
theorem qe_one {er : Int} {cl : List Cd} {cks : List ByteArray} {fl : List Fe} {a b : ByteArray} (h : er ≠ 0) : quoteE er cl cks fl a b = er := by unfold quoteE firstE; rw [if_neg h]
theorem qe_two {cl : List Cd} {cks : List ByteArray} {fl : List Fe} {a b : ByteArray} (h : askE (fun k => cl.any (codeP k)) cks ≠ 0) : quoteE 0 cl cks fl a b = askE (fun k => cl.any (codeP k)) cks := by
  unfold quoteE; simp [firstE, h]
theorem qe_three {cl : List Cd} {cks : List ByteArray} {fl : List Fe} {a b : ByteArray} (h : askE (fun k => cl.any (codeP k)) cks = 0) : quoteE 0 cl cks fl a b = feeOfE fl a b := by
  unfold quoteE; rw [h]
  by_cases hf : feeOfE fl a b = 0
  · rw [hf]; rfl
  · simp [firstE, hf]
theorem pieces_snoc {ps : List Pc} {i : Nat} {p : Pc} (h : ps[i]? = some p) : ((ps.take (i + 1)).map pcL).flatMap lnEnc = ((ps.take i).map pcL).flatMap lnEnc ++ lnEnc (pcL p) := by
  rw [List.take_add_one, h]; simp
theorem asks_snoc {el : List Ex} {n : Int} {ks : List ByteArray} {L : List Ln} {i : Nat} {k : ByteArray} (h : ks[i]? = some k) : (L ++ (ks.take (i + 1)).map (askL el n)).flatMap lnEnc = (L ++ (ks.take i).map (askL el n)).flatMap lnEnc ++ lnEnc (askL el n k) := by
  rw [List.take_add_one, h]; simp
theorem ex_at {el : List Ex} {k : ByteArray} (h : el.any (exP k) = true) : ∃ (j : Nat) (x : Ex), ixP (exP k) el 0 = ((j : Nat) : Int) ∧ el[j]? = some x ∧ ∀ n, exAt el k n = exV x n := by
  rw [← ix_any] at h
  have h0 := of_decide_eq_true h
  obtain ⟨x, hx, _⟩ := ixP_get h0
  exact ⟨(ixP (exP k) el 0).toNat, x, by omega, hx, fun n => by unfold exAt; rw [hx]⟩
theorem quote_anyC (rl : List Rt) (rA : Option Addr) (rn rc : Nat) (el : List Ex) (eA : Option Addr) (en ec : Nat) (fl : List Fe) (fA : Option Addr) (fn fc : Nat) (cl : List Cd) (cA : Option Addr) (cn cc : Nat) (tl : List Tx) (tA : Option Addr) (tn tc : Nat) (qc : ByteArray) (fr tt : Int) (qa qb : ByteArray) (ks : List ByteArray) (A1 : Option Addr) (n1 c1 : Nat) (cks : List ByteArray) (A2 : Option Addr) (n2 c2 : Nat) (w : World) (hr : SlT rtEnc 7 288 w rA rn rl) (he : SlT exEnc 4 295 w eA en el) (hf : SlT feEnc 3 352 w fA fn fl) (hc : SlT cdEnc 6 354 w cA cn cl) (ht : SlT txEnc 4 298 w tA tn tl) (hons : Ons tl w) (hro : ∀ x ∈ rl, RtOk x) (_heo : ∀ x ∈ el, ExOk x) (hfo : ∀ x ∈ fl, FeOk x) (hco : ∀ x ∈ cl, CdOk x) (hto : ∀ x ∈ tl, TxOk x) (hrn : rn ≤ 1000) (hen : en ≤ 1000) (hfn : fn ≤ 1000) (hcn : cn ≤ 1000) (htn : tn ≤ 3) (_htc : tn ≤ tc) (hs : SlT sgEnc 1 9 w A1 n1 ks) (hs2 : SlT sgEnc 1 9 w A2 n2 cks) (hn1 : n1 ≤ c1) (hn2 : n2 ≤ c2) (hz : qc.size ≤ 1000000 ∧ qa.size ≤ 1000000 ∧ qb.size ≤ 1000000) (hn10 : n1 ≤ 1000000) (hn20 : n2 ≤ 1000000) (h0 : tariffE rl el fl cl tl = 0) (hch : CheapR rl) (hask : askE (fun k => el.any (exP k)) ks = 0) :
  Calls Tryz.prog 103 #[.agg #[.slice rA rn rc, .slice eA en ec, .slice fA fn fc, .slice cA cn cc, .slice tA tn tc], .agg #[.string qc, .int .i64 fr, .int .i64 tt, .string qa, .string qb, .slice A1 n1 c1, .slice A2 n2 c2]] w (fun e w' => ∃ (A : Option Addr) (n c : Nat) (ls : List Ln) (E : Int), e = .returned (.tuple #[.slice A n c, .int .i64 E]) ∧ SlT lnEnc 3 88 w' A n ls ∧ (n ≤ 200 ∧ n ≤ c) ∧ QIs rl el fl cl tl qc fr tt qa qb ks cks E ls ∧ w.grownBy w' none) := by
 refine gw_enter ⟨130, w, none, [203]⟩ Tryz.func103 rfl Tryz.ntmps103 rfl (mem0 (X := [SlOld rtEnc 7 288 w.heap.size none rA rn rl, SlOld exEnc 4 295 w.heap.size none eA en el, SlOld feEnc 3 352 w.heap.size none fA fn fl, SlOld cdEnc 6 354 w.heap.size none cA cn cl, SlOld txEnc 4 298 w.heap.size none tA tn tl, OnsOld w.heap.size none tl, SlOld sgEnc 1 9 w.heap.size none A1 n1 ks, SlOld sgEnc 1 9 w.heap.size none A2 n2 cks]) (allF_cons hr.old (allF_cons he.old (allF_cons hf.old (allF_cons hc.old (allF_cons ht.old (allF_cons hons.old (allF_cons hs.old (allF_cons hs2.old allF_nil)))))))) (allL_cons SlOld.lasts (allL_cons SlOld.lasts (allL_cons SlOld.lasts (allL_cons SlOld.lasts (allL_cons SlOld.lasts (allL_cons OnsOld.lasts (allL_cons SlOld.lasts (allL_cons SlOld.lasts allL_nil))))))))) ?_
 refine sr_ ?_
 obtain ⟨hr0, he0, hf0, hc0, ht0⟩ := tariffE_ok h0
 obtain ⟨hzc, hza, hzb⟩ := hz
 obtain ⟨hnk, hak⟩ := askE_ok hask
 have hkl := hs.len
 refine wl_box rfl rfl rfl fun g1 => ?_
 refine wl_box rfl rfl rfl fun g2 => ?_
 refine sg_ rfl (sg_ rfl (nn_ (sr_ (fd_ fo77_0 rfl rfl (lk_ sc71 1 rfl rfl rfl (fd_ fo81_0 rfl rfl (lk_ sc9 0 rfl rfl rfl (fd_ fo81_1 rfl rfl ?_))))))))
 refine wl_ov (ov_loads rz39 rfl (fun _ hm => hm.blkI 0 rfl) rfl rfl) rfl ?_
 refine wl_callx (γ := Option Addr × Nat × Nat × List Pc × Int) (val := (fun g => .tuple #[.slice g.1 g.2.1 g.2.2.1, .int .i64 g.2.2.2.2])) (φ := (fun g => DivIs rl qc fr tt g.2.2.2.2 g.2.2.2.1 ∧ g.2.1 ≤ 120 ∧ g.2.2.2.1.length = g.2.1)) (Y := (fun g => fun wy => SlT pcEnc 3 203 wy g.1 g.2.1 g.2.2.2.1)) rfl cb36 rfl rfl (fun wx hm => (tDivide_any rl rA rn rc qc fr tt wx (hm.fact 0 rfl).1 hro (by omega) (by omega)).mono fun _ _ ⟨A3, n3, c3, ps, er, he, hg, hs, hd, hn3⟩ => ⟨(A3, n3, c3, ps, er), he, ⟨hd, hn3, hs.len⟩, hg, hs⟩) (fun _ => SlT.lasts2 rfl) ?_
 rintro ⟨A3, n3, c3, ps, er⟩ hdv
 dsimp only at hdv ⊢
 obtain ⟨hdv, hn3, hps⟩ := hdv
 refine mv_ rfl (wl_ov (ov_extract rfl rfl) rfl (wl_ov (ov_extract rfl rfl) rfl (sg_ rfl (sg_ rfl (nn_ (gw_seq (sr_ (mv_ rfl (wl_ov (ov_neq rfl rfl) rfl (nn_ ?_))))))))))
 refine gw_cond rfl (fun hh => ?_) (fun hh => ?_)
 ·have h1 : ¬ (er = 0) := by simpa using hh
  clear hh
  refine sr_ (mv_ rfl (sg_ rfl (sg_ rfl (nn_ ?_))))
  refine gw_ret ?_
  refine nx_then_ret ?_
  have h2 : er ≠ 0 := by simpa using h1
  refine nx_ret2 rfl rfl rfl fun wx hm => ?_
  exact ⟨none, 0, 0, [], er, rfl, SlT.nil_ _ _, ⟨Nat.zero_le _, Nat.zero_le _⟩, ⟨er, ps, hdv, (qe_one h2).symm, by rw [if_neg h2]⟩, hm.g⟩
 have h1 : er = 0 := by simpa using hh
 clear hh
 refine gw_skip (nx_then (sr_ ?_))
 obtain rfl : er = 0 := by simpa using h1
 obtain ⟨hck, hbest⟩ := div_right hdv
 obtain ⟨_, hky, htm⟩ := chkE_ok hck
 obtain ⟨ht1, ht2, ht3, ht4⟩ := timeE_ok htm
 have hpo := best_ok hr0 hch htm hbest
 have hsm := pcSum_ok hpo
 obtain ⟨D, hD⟩ : ∃ d, d = daysV fr tt := ⟨_, rfl⟩
 have hD0 : 0 ≤ D ∧ D ≤ 120 := by rw [hD]; exact ⟨by unfold daysV; omega, ht4⟩
 refine wl_nest none [] fun w2 hm_w2 => ⟨_, _, _, _, mem0 (X := [BlkOld w2.heap.size none g2 81 [.string qc, .int .i64 fr, .int .i64 tt, .string qa, .string qb, .slice A1 n1 c1, .slice A2 n2 c2], BlkOld w2.heap.size none g1 77 [.slice rA rn rc, .slice eA en ec, .slice fA fn fc, .slice cA cn cc, .slice tA tn tc], SlOld rtEnc 7 288 w2.heap.size none rA rn rl, SlOld exEnc 4 295 w2.heap.size none eA en el, SlOld feEnc 3 352 w2.heap.size none fA fn fl, SlOld cdEnc 6 354 w2.heap.size none cA cn cl, SlOld txEnc 4 298 w2.heap.size none tA tn tl, SlOld sgEnc 1 9 w2.heap.size none A1 n1 ks, SlOld sgEnc 1 9 w2.heap.size none A2 n2 cks, OnsOld w2.heap.size none tl, SlOld pcEnc 3 203 w2.heap.size none A3 n3 ps]) (allF_cons (hm_w2.blkI 0 rfl).old (allF_cons (hm_w2.blkI 1 rfl).old (allF_cons (SlT.old (hm_w2.fact 1 rfl).1) (allF_cons (SlT.old (hm_w2.fact 2 rfl).1) (allF_cons (SlT.old (hm_w2.fact 3 rfl).1) (allF_cons (SlT.old (hm_w2.fact 4 rfl).1) (allF_cons (SlT.old (hm_w2.fact 5 rfl).1) (allF_cons (SlT.old (hm_w2.fact 7 rfl).1) (allF_cons (SlT.old (hm_w2.fact 8 rfl).1) (allF_cons (Ons.old (OnsOld.ons (hm_w2.fact 6 rfl))) (allF_cons (SlT.old (hm_w2.fact 0 rfl)) allF_nil))))))))))) (allL_cons BlkOld.lasts (allL_cons BlkOld.lasts (allL_cons SlOld.lasts (allL_cons SlOld.lasts (allL_cons SlOld.lasts (allL_cons SlOld.lasts (allL_cons SlOld.lasts (allL_cons SlOld.lasts (allL_cons SlOld.lasts (allL_cons OnsOld.lasts (allL_cons SlOld.lasts allL_nil))))))))))), ?_⟩
 have hp2 : SlT pcEnc 3 203 w2 A3 n3 ps := (hm_w2.fact 0 rfl)
 refine sg_ rfl (nn_ (gw_seq (sr_ (mv_ rfl (wl_ov (ov_len es91 rfl) rfl (mv_ rfl (nn_ (gw_block ?_))))))))
 refine gw_nilOwn 88 3 ?_
 refine gw_loop (γ := Nat × Value × List Value) (fun g => g.1 ≤ n3 ∧ g.2.2 = ((ps.take g.1).map pcL).flatMap lnEnc) (fun g => [(2, .pointer (some ⟨g1, 0, none⟩)), (3, .pointer (some ⟨g2, 0, none⟩)), (4, .slice none 0 0), (5, .int .i64 0), (8, g.2.1), (30, .slice A3 n3 c3), (31, .int .i64 ((n3 : Nat) : Int)), (32, .int .i64 ((g.1 : Nat) : Int))]) (fun g => fun _ => True) (fun g => []) (fun g => [⟨g.2.1, 88, 3, g.1, g.2.2⟩]) (fun g => [BlkOld w2.heap.size none g2 81 [.string qc, .int .i64 fr, .int .i64 tt, .string qa, .string qb, .slice A1 n1 c1, .slice A2 n2 c2], BlkOld w2.heap.size none g1 77 [.slice rA rn rc, .slice eA en ec, .slice fA fn fc, .slice cA cn cc, .slice tA tn tc], SlOld rtEnc 7 288 w2.heap.size none rA rn rl, SlOld exEnc 4 295 w2.heap.size none eA en el, SlOld feEnc 3 352 w2.heap.size none fA fn fl, SlOld cdEnc 6 354 w2.heap.size none cA cn cl, SlOld txEnc 4 298 w2.heap.size none tA tn tl, SlOld sgEnc 1 9 w2.heap.size none A1 n1 ks, SlOld sgEnc 1 9 w2.heap.size none A2 n2 cks, OnsOld w2.heap.size none tl, SlOld pcEnc 3 203 w2.heap.size none A3 n3 ps]) (fun g => n3 - g.1) (0, .slice none 0 0, []) ⟨Nat.zero_le _, by simp⟩ ⟨rfl, rfl, rfl, rfl, rfl, rfl, rfl, rfl, trivial⟩ (fun _ hm => hm.pick [] [0] [0, 1, 2, 3, 4, 5, 6, 7, 8, 9, 10] rfl rfl) ?_
 rintro ⟨i, v, xs⟩ hinv
 replace hinv : i ≤ n3 ∧ xs = ((ps.take i).map pcL).flatMap lnEnc := hinv
 dsimp only
 refine sr_ ?_
 obtain ⟨hi0, rfl⟩ := hinv
 refine wl_ov (ov_lss rfl rfl) rfl (nn_ (gw_seq ?_))
 refine gw_cond rfl (fun hh => ?_) (fun hh => ?_)
 ·have hi : ((i : Nat) : Int) < ((n3 : Nat) : Int) := by simpa using hh
  clear hh
  refine gw_skip (nx_then (gw_seq (gw_block (sr_ ?_))))
  obtain ⟨b3, o3, hA, _, _⟩ := hp2.get (by omega)
  subst hA
  obtain ⟨x, hx⟩ : ∃ x, ps[i]? = some x := ⟨_, List.getElem?_eq_getElem (by omega)⟩
  obtain ⟨kd, dy, ct⟩ := x
  obtain ⟨⟨hk1, hk2⟩, hk3, hk4⟩ := hpo.2 _ (List.mem_of_getElem? hx)
  have hk1 : 1 ≤ kd := hk1
  have hk2 : kd ≤ 4 := hk2
  have hsn := pieces_snoc hx
  obtain hv3 | hv3 | hv3 | hv3 : kd = 1 ∨ kd = 2 ∨ kd = 3 ∨ kd = 4 := (by omega)
  ·subst hv3
   refine wl_ov (ov_index (j := i) es91 rfl rfl (by omega)) rfl ?_
   refine wl_ov (ov_elem (vs := [.int .i64 1, .int .i64 dy, .int .i64 ct]) rz203 rfl (fun _ hm => (hm.fact 10 rfl).1) hx rfl rfl) rfl ?_
   refine wl_alloc zc203 rfl fun g4 => ?_
   refine wl_stores (cs' := [.int .i64 1, .int .i64 dy, .int .i64 ct]) 0 rz203 rfl rfl rfl rfl rfl rfl rfl rfl ?_
   refine nn_ (sr_ ?_)
   refine wl_buildSlice (e := 9) (cs := [.string ⟨#[]⟩, .string ⟨#[104, 111, 117, 114, 115]⟩, .string ⟨#[100, 97, 121]⟩, .string ⟨#[119, 101, 101, 107, 101, 110, 100]⟩, .string ⟨#[119, 101, 101, 107]⟩]) rfl (by kernel_rfl) rfl fun g5 => ?_
   refine fd_ fo203_0 rfl rfl (lk_ sc3 1 rfl rfl rfl ?_)
   refine wl_ov (ov_index (j := 1) es79 rfl rfl (by decide)) rfl ?_
   refine lk_ sc9 0 rfl rfl rfl (sg_ rfl (nn_ (gw_region (mv_ rfl (mv_ rfl (fd_ fo203_2 rfl rfl (lk_ sc3 1 rfl rfl rfl ?_)))))))
   refine wl_ov (ov_build (cs := [.int .i64 1, .string ⟨#[104, 111, 117, 114, 115]⟩, .int .i64 ct]) rfl (by kernel_rfl)) rfl ?_
   refine wl_buildSlice (e := 88) (cs := [.int .i64 1, .string ⟨#[104, 111, 117, 114, 115]⟩, .int .i64 ct]) rfl (by kernel_rfl) rfl fun g6 => ?_
   refine wl_append (news := [.int .i64 1, .string ⟨#[104, 111, 117, 114, 115]⟩, .int .i64 ct]) 0 0 ap83 rfl rfl rfl rfl rfl rfl rfl (by omega) (by unfold maxLen; omega) rfl rfl fun v2 hv2 => ?_
   refine sg_ rfl (wl_nil (nx_blk_nrm (nx_then (gw_region (ad_ rfl rfl (mv_ rfl (wl_nil ?_)))))))
   exact nx_round (i + 1, v2, ((ps.take i).map pcL).flatMap lnEnc ++ ([.int .i64 1, .string ⟨#[104, 111, 117, 114, 115]⟩, .int .i64 ct] : List Value)) ⟨by dsimp only; omega, by rw [hsn]; rfl⟩ (by dsimp only; omega) ⟨rfl, rfl, rfl, rfl, rfl, rfl, rfl, (some_int (by omega)), trivial⟩ (fun _ hm => hm.pick [] [0] [0, 1, 2, 3, 4, 5, 6, 7, 8, 9, 10] rfl rfl)
  ·subst hv3
   refine wl_ov (ov_index (j := i) es91 rfl rfl (by omega)) rfl ?_
   refine wl_ov (ov_elem (vs := [.int .i64 2, .int .i64 dy, .int .i64 ct]) rz203 rfl (fun _ hm => (hm.fact 10 rfl).1) hx rfl rfl) rfl ?_
   refine wl_alloc zc203 rfl fun g7 => ?_
   refine wl_stores (cs' := [.int .i64 2, .int .i64 dy, .int .i64 ct]) 0 rz203 rfl rfl rfl rfl rfl rfl rfl rfl ?_
   refine nn_ (sr_ ?_)
   refine wl_buildSlice (e := 9) (cs := [.string ⟨#[]⟩, .string ⟨#[104, 111, 117, 114, 115]⟩, .string ⟨#[100, 97, 121]⟩, .string ⟨#[119, 101, 101, 107, 101, 110, 100]⟩, .string ⟨#[119, 101, 101, 107]⟩]) rfl (by kernel_rfl) rfl fun g8 => ?_
   refine fd_ fo203_0 rfl rfl (lk_ sc3 1 rfl rfl rfl ?_)
   refine wl_ov (ov_index (j := 2) es79 rfl rfl (by decide)) rfl ?_
   refine lk_ sc9 0 rfl rfl rfl (sg_ rfl (nn_ (gw_region (mv_ rfl (mv_ rfl (fd_ fo203_2 rfl rfl (lk_ sc3 1 rfl rfl rfl ?_)))))))
   refine wl_ov (ov_build (cs := [.int .i64 1, .string ⟨#[100, 97, 121]⟩, .int .i64 ct]) rfl (by kernel_rfl)) rfl ?_
   refine wl_buildSlice (e := 88) (cs := [.int .i64 1, .string ⟨#[100, 97, 121]⟩, .int .i64 ct]) rfl (by kernel_rfl) rfl fun g9 => ?_
   refine wl_append (news := [.int .i64 1, .string ⟨#[100, 97, 121]⟩, .int .i64 ct]) 0 0 ap83 rfl rfl rfl rfl rfl rfl rfl (by omega) (by unfold maxLen; omega) rfl rfl fun v2 hv2 => ?_
   refine sg_ rfl (wl_nil (nx_blk_nrm (nx_then (gw_region (ad_ rfl rfl (mv_ rfl (wl_nil ?_)))))))
   exact nx_round (i + 1, v2, ((ps.take i).map pcL).flatMap lnEnc ++ ([.int .i64 1, .string ⟨#[100, 97, 121]⟩, .int .i64 ct] : List Value)) ⟨by dsimp only; omega, by rw [hsn]; rfl⟩ (by dsimp only; omega) ⟨rfl, rfl, rfl, rfl, rfl, rfl, rfl, (some_int (by omega)), trivial⟩ (fun _ hm => hm.pick [] [0] [0, 1, 2, 3, 4, 5, 6, 7, 8, 9, 10] rfl rfl)
  ·subst hv3
   refine wl_ov (ov_index (j := i) es91 rfl rfl (by omega)) rfl ?_
   refine wl_ov (ov_elem (vs := [.int .i64 3, .int .i64 dy, .int .i64 ct]) rz203 rfl (fun _ hm => (hm.fact 10 rfl).1) hx rfl rfl) rfl ?_
   refine wl_alloc zc203 rfl fun g10 => ?_
   refine wl_stores (cs' := [.int .i64 3, .int .i64 dy, .int .i64 ct]) 0 rz203 rfl rfl rfl rfl rfl rfl rfl rfl ?_
   refine nn_ (sr_ ?_)
   refine wl_buildSlice (e := 9) (cs := [.string ⟨#[]⟩, .string ⟨#[104, 111, 117, 114, 115]⟩, .string ⟨#[100, 97, 121]⟩, .string ⟨#[119, 101, 101, 107, 101, 110, 100]⟩, .string ⟨#[119, 101, 101, 107]⟩]) rfl (by kernel_rfl) rfl fun g11 => ?_
   refine fd_ fo203_0 rfl rfl (lk_ sc3 1 rfl rfl rfl ?_)
   refine wl_ov (ov_index (j := 3) es79 rfl rfl (by decide)) rfl ?_
   refine lk_ sc9 0 rfl rfl rfl (sg_ rfl (nn_ (gw_region (mv_ rfl (mv_ rfl (fd_ fo203_2 rfl rfl (lk_ sc3 1 rfl rfl rfl ?_)))))))
   refine wl_ov (ov_build (cs := [.int .i64 1, .string ⟨#[119, 101, 101, 107, 101, 110, 100]⟩, .int .i64 ct]) rfl (by kernel_rfl)) rfl ?_
   refine wl_buildSlice (e := 88) (cs := [.int .i64 1, .string ⟨#[119, 101, 101, 107, 101, 110, 100]⟩, .int .i64 ct]) rfl (by kernel_rfl) rfl fun g12 => ?_
   refine wl_append (news := [.int .i64 1, .string ⟨#[119, 101, 101, 107, 101, 110, 100]⟩, .int .i64 ct]) 0 0 ap83 rfl rfl rfl rfl rfl rfl rfl (by omega) (by unfold maxLen; omega) rfl rfl fun v2 hv2 => ?_
   refine sg_ rfl (wl_nil (nx_blk_nrm (nx_then (gw_region (ad_ rfl rfl (mv_ rfl (wl_nil ?_)))))))
   exact nx_round (i + 1, v2, ((ps.take i).map pcL).flatMap lnEnc ++ ([.int .i64 1, .string ⟨#[119, 101, 101, 107, 101, 110, 100]⟩, .int .i64 ct] : List Value)) ⟨by dsimp only; omega, by rw [hsn]; rfl⟩ (by dsimp only; omega) ⟨rfl, rfl, rfl, rfl, rfl, rfl, rfl, (some_int (by omega)), trivial⟩ (fun _ hm => hm.pick [] [0] [0, 1, 2, 3, 4, 5, 6, 7, 8, 9, 10] rfl rfl)
  subst hv3
  refine wl_ov (ov_index (j := i) es91 rfl rfl (by omega)) rfl ?_
  refine wl_ov (ov_elem (vs := [.int .i64 4, .int .i64 dy, .int .i64 ct]) rz203 rfl (fun _ hm => (hm.fact 10 rfl).1) hx rfl rfl) rfl ?_
  refine wl_alloc zc203 rfl fun g13 => ?_
  refine wl_stores (cs' := [.int .i64 4, .int .i64 dy, .int .i64 ct]) 0 rz203 rfl rfl rfl rfl rfl rfl rfl rfl ?_
  refine nn_ (sr_ ?_)
  refine wl_buildSlice (e := 9) (cs := [.string ⟨#[]⟩, .string ⟨#[104, 111, 117, 114, 115]⟩, .string ⟨#[100, 97, 121]⟩, .string ⟨#[119, 101, 101, 107, 101, 110, 100]⟩, .string ⟨#[119, 101, 101, 107]⟩]) rfl (by kernel_rfl) rfl fun g14 => ?_
  refine fd_ fo203_0 rfl rfl (lk_ sc3 1 rfl rfl rfl ?_)
  refine wl_ov (ov_index (j := 4) es79 rfl rfl (by decide)) rfl ?_
  refine lk_ sc9 0 rfl rfl rfl (sg_ rfl (nn_ (gw_region (mv_ rfl (mv_ rfl (fd_ fo203_2 rfl rfl (lk_ sc3 1 rfl rfl rfl ?_)))))))
  refine wl_ov (ov_build (cs := [.int .i64 1, .string ⟨#[119, 101, 101, 107]⟩, .int .i64 ct]) rfl (by kernel_rfl)) rfl ?_
  refine wl_buildSlice (e := 88) (cs := [.int .i64 1, .string ⟨#[119, 101, 101, 107]⟩, .int .i64 ct]) rfl (by kernel_rfl) rfl fun g15 => ?_
  refine wl_append (news := [.int .i64 1, .string ⟨#[119, 101, 101, 107]⟩, .int .i64 ct]) 0 0 ap83 rfl rfl rfl rfl rfl rfl rfl (by omega) (by unfold maxLen; omega) rfl rfl fun v2 hv2 => ?_
  refine sg_ rfl (wl_nil (nx_blk_nrm (nx_then (gw_region (ad_ rfl rfl (mv_ rfl (wl_nil ?_)))))))
  exact nx_round (i + 1, v2, ((ps.take i).map pcL).flatMap lnEnc ++ ([.int .i64 1, .string ⟨#[119, 101, 101, 107]⟩, .int .i64 ct] : List Value)) ⟨by dsimp only; omega, by rw [hsn]; rfl⟩ (by dsimp only; omega) ⟨rfl, rfl, rfl, rfl, rfl, rfl, rfl, (some_int (by omega)), trivial⟩ (fun _ hm => hm.pick [] [0] [0, 1, 2, 3, 4, 5, 6, 7, 8, 9, 10] rfl rfl)
 have hi : ¬ (((i : Nat) : Int) < ((n3 : Nat) : Int)) := by simpa using hh
 clear hh
 refine gw_exit ?_
 refine nx_then_exit (nx_then_exit ?_)
 refine nx_blk_here ?_
 refine nx_then (gw_seq ?_)
 have hall : ps.take i = ps := List.take_of_length_le (by omega)
 rw [hall]
 obtain rfl : i = n3 := by omega
 have hl1 : (ps.map pcL).length = i := by rw [List.length_map]; exact hps
 obtain ⟨SV, hSV⟩ : ∃ v, v = pcSum ps := ⟨_, rfl⟩
 rw [← hSV] at hsm
 obtain ⟨AE, hAE⟩ : ∃ v, v = askE (fun k => cl.any (codeP k)) cks := ⟨_, rfl⟩
 obtain ⟨BK, hBK⟩ : ∃ v, v = (bestV cl cks qc fr tt SV).1 := ⟨_, rfl⟩
 obtain ⟨OF, hOF⟩ : ∃ v, v = (bestV cl cks qc fr tt SV).2 := ⟨_, rfl⟩
 have hce : bestCE cl cks qc fr tt SV = AE := by rw [hAE]; exact best_ce hc0 hky htm hsm
 refine gw_look (R := ∃ A cc, v = .slice A i cc) (fun wx hm => own_slice (hm.ownI 0 rfl)) ?_
 rintro ⟨A4, c4, rfl⟩
 refine gd (fun wz => (BlkOld w2.heap.size none g2 81 [.string qc, .int .i64 fr, .int .i64 tt, .string qa, .string qb, .slice A1 n1 c1, .slice A2 n2 c2]) wz ∧ (BlkOld w2.heap.size none g1 77 [.slice rA rn rc, .slice eA en ec, .slice fA fn fc, .slice cA cn cc, .slice tA tn tc]) wz ∧ (SlOld rtEnc 7 288 w2.heap.size none rA rn rl) wz ∧ (SlOld exEnc 4 295 w2.heap.size none eA en el) wz ∧ (SlOld feEnc 3 352 w2.heap.size none fA fn fl) wz ∧ (SlOld cdEnc 6 354 w2.heap.size none cA cn cl) wz ∧ (SlOld txEnc 4 298 w2.heap.size none tA tn tl) wz ∧ (SlOld sgEnc 1 9 w2.heap.size none A1 n1 ks) wz ∧ (SlOld sgEnc 1 9 w2.heap.size none A2 n2 cks) wz ∧ (OnsOld w2.heap.size none tl) wz ∧ (SlOld pcEnc 3 203 w2.heap.size none A3 i ps) wz ∧ True) mixed (fun _ hm => ⟨hm.fa 0, hm.fa 1, hm.fa 2, hm.fa 3, hm.fa 4, hm.fa 5, hm.fa 6, hm.fa 7, hm.fa 8, hm.fa 9, hm.fa 10, trivial⟩) fun z => ?_
 refine wt 0 18 1 rfl z (ov_field fo77_3 rfl rfl) ?_
 refine wt 1 18 3 rfl z (ov_load (v := .slice cA cn cc) sc74 rfl (fun _ hm => (hm.2.1).2) rfl) ?_
 refine wt 2 18 7 rfl z (ov_field fo81_5 rfl rfl) ?_
 refine wt 3 18 15 rfl z (ov_load (v := .slice A2 n2 c2) sc79 rfl (fun _ hm => (hm.1).2) rfl) ?_
 refine wt 4 18 31 rfl z (ov_field fo81_0 rfl rfl) ?_
 refine wt 5 18 63 rfl z (ov_load (v := .string qc) sc9 rfl (fun _ hm => (hm.1).2) rfl) ?_
 refine wt 6 18 127 rfl z (ov_field fo81_1 rfl rfl) ?_
 refine wt 7 18 255 rfl z (ov_loads (vs := [.int .i64 fr, .int .i64 tt]) rz39 rfl (fun _ hm => (hm.1).2) rfl rfl) ?_
 refine wt 8 18 511 rfl z (ov_move rfl) ?_
 refine wa1 9 rfl ?_
 refine wl_callv (v := .int .i64 SV) rfl cb115 rfl rfl (fun wx hm => (by have h := sum_any (ps.map pcL) A4 i c4 wx (SlT.ofOwn ln_len (hm.ownI 0 rfl) hl1) (fun x hx => by obtain ⟨p, hp, rfl⟩ := List.mem_map.1 hx; have := (hpo.2 p hp).2; unfold pcL; dsimp only; omega) (by omega); rw [pcSum_eq, ← hSV] at h; exact h)) ?_
 refine wl_nil ?_
 refine nw 18 1023 (fun _ hm => ⟨hm.fa 0, hm.fa 1, hm.fa 2, hm.fa 3, hm.fa 4, hm.fa 5, hm.fa 6, hm.fa 7, hm.fa 8, hm.fa 9, hm.fa 10, trivial⟩) fun z => ?_
 refine wa1 10 rfl ?_
 refine wl_callv (v := .tuple #[.string BK, .int .i64 OF, .int .i64 AE]) rfl cb211 rfl rfl (fun wx hm => (by have h := tBestCode_any cl cA cn cc cks A2 n2 c2 qc fr tt SV wx (hm.fact 5 rfl).1 hco (by omega) (hm.fact 8 rfl).1 (by omega) hn2 (by omega); rw [hce, ← hBK, ← hOF] at h; exact h)) ?_
 refine wl_nil ?_
 refine nw 18 2047 (fun _ hm => ⟨hm.fa 0, hm.fa 1, hm.fa 2, hm.fa 3, hm.fa 4, hm.fa 5, hm.fa 6, hm.fa 7, hm.fa 8, hm.fa 9, hm.fa 10, trivial⟩) fun z => ?_
 refine wt 11 18 4095 rfl z (ov_move rfl) ?_
 refine wt 12 18 8191 rfl z (ov_extract rfl rfl) ?_
 refine wt 13 18 16383 rfl z (ov_extract rfl rfl) ?_
 refine wt 14 18 32767 rfl z (ov_extract rfl rfl) ?_
 refine wt 15 18 65535 rfl z (ov_assign rfl) ?_
 refine wt 16 18 131071 rfl z (ov_assign rfl) ?_
 refine wt 17 18 262143 rfl z (ov_assign rfl) ?_
 refine wa_done (by kernel_rfl) ?_
 refine nx_then (gw_seq (sr_ (mv_ rfl (wl_ov (ov_neq rfl rfl) rfl (nn_ ?_)))))
 refine gw_cond rfl (fun hh => ?_) (fun hh => ?_)
 ·have h3 : ¬ (AE = 0) := by simpa using hh
  clear hh
  refine sr_ (mv_ rfl (sg_ rfl (sg_ rfl (nn_ ?_))))
  refine gw_ret ?_
  refine nx_then_ret ?_
  have h4 : AE ≠ 0 := by simpa using h3
  refine nx_ret2 rfl rfl rfl fun wx hm => ?_
  exact ⟨none, 0, 0, [], AE, rfl, SlT.nil_ _ _, ⟨Nat.zero_le _, Nat.zero_le _⟩, ⟨0, ps, hdv, by rw [qe_two (by rw [← hAE]; exact h4), hAE], by rw [if_neg h4]⟩, grow_trans hm_w2.g hm.g⟩
 have h3 : AE = 0 := by simpa using hh
 clear hh
 refine gw_skip (nx_then ?_)
 obtain rfl : AE = 0 := by simpa using h3
 have hbv := best_v hce
 have hbb := bestK_bound (cls := qc) (fr := fr) (tt := tt) hc0 hsm.1 cks
 rw [← hbv, ← hOF] at hbb
 have hpair : bestK cl cks qc fr tt SV = (BK, OF) := by rw [← hbv, hBK, hOF]
 obtain ⟨L1, hL1⟩ : ∃ l, l = line1 ps (BK, OF) := ⟨_, rfl⟩
 refine gw_cut (γ := Value × Nat × List Value) (I := (fun g => L1.length = g.2.1 ∧ g.2.1 ≤ 121 ∧ g.2.2 = L1.flatMap lnEnc)) (S' := (fun g => [(2, .pointer (some ⟨g1, 0, none⟩)), (3, .pointer (some ⟨g2, 0, none⟩)), (4, .slice none 0 0), (5, .int .i64 0), (8, g.1)])) (K' := (fun g => fun _ => True)) (L' := (fun g => [])) (O' := (fun g => [⟨g.1, 88, 3, g.2.1, g.2.2⟩])) (X' := (fun g => [BlkOld w2.heap.size none g2 81 [.string qc, .int .i64 fr, .int .i64 tt, .string qa, .string qb, .slice A1 n1 c1, .slice A2 n2 c2], BlkOld w2.heap.size none g1 77 [.slice rA rn rc, .slice eA en ec, .slice fA fn fc, .slice cA cn cc, .slice tA tn tc], SlOld rtEnc 7 288 w2.heap.size none rA rn rl, SlOld exEnc 4 295 w2.heap.size none eA en el, SlOld feEnc 3 352 w2.heap.size none fA fn fl, SlOld cdEnc 6 354 w2.heap.size none cA cn cl, SlOld txEnc 4 298 w2.heap.size none tA tn tl, SlOld sgEnc 1 9 w2.heap.size none A1 n1 ks, SlOld sgEnc 1 9 w2.heap.size none A2 n2 cks, OnsOld w2.heap.size none tl, SlOld pcEnc 3 203 w2.heap.size none A3 i ps])) ?_ ?_
 ·refine sr_ (mv_ rfl (wl_ov (ov_sneq rfl rfl) rfl (nn_ ?_)))
  refine gw_cond rfl (fun hh => ?_) (fun hh => ?_)
  ·have h5 : (BK.toList == (⟨#[]⟩ : ByteArray).toList) = false := by simpa using hh
   clear hh
   refine gw_region ?_
   have h6 : emptyS BK = false := by unfold emptyS; simpa using h5
   have hL2 : L1 = ps.map pcL ++ [⟨2, BK, -OF⟩] := by rw [hL1]; unfold line1 codeL; dsimp only; rw [h6]; rfl
   refine mv_ rfl (mv_ rfl (mv_ rfl ?_))
   refine wl_ov (ov_neg rfl (by omega) (by omega)) rfl ?_
   refine wl_ov (ov_build (cs := [.int .i64 2, .string BK, .int .i64 (-OF)]) rfl (by kernel_rfl)) rfl ?_
   refine wl_buildSlice (e := 88) (cs := [.int .i64 2, .string BK, .int .i64 (-OF)]) rfl (by kernel_rfl) rfl fun g16 => ?_
   refine wl_append (news := [.int .i64 2, .string BK, .int .i64 (-OF)]) 0 0 ap83 rfl rfl rfl rfl rfl rfl rfl (by omega) (by unfold maxLen; omega) rfl rfl fun v2 hv2 => ?_
   refine sg_ rfl (wl_nil ?_)
   exact nx_meet (v2, i + 1, (ps.map pcL).flatMap lnEnc ++ ([.int .i64 2, .string BK, .int .i64 (-OF)] : List Value)) ⟨by rw [hL2]; simp [hps], by dsimp only; omega, by rw [hL2]; simp [lnEnc]⟩ ⟨rfl, rfl, rfl, rfl, rfl, trivial⟩ (fun _ hm => hm.pick [] [0] [0, 1, 2, 3, 4, 5, 6, 7, 8, 9, 10] rfl rfl)
  have h5 : (BK.toList == (⟨#[]⟩ : ByteArray).toList) = true := by simpa using hh
  clear hh
  refine gw_skip ?_
  have h6 : emptyS BK = true := by unfold emptyS; simpa using h5
  have hL2 : L1 = ps.map pcL := by rw [hL1]; unfold line1 codeL; dsimp only; rw [h6]; simp
  exact nx_meet (.slice A4 i c4, i, (ps.map pcL).flatMap lnEnc) ⟨by rw [hL2]; exact hl1, by dsimp only; omega, by rw [hL2]⟩ ⟨rfl, rfl, rfl, rfl, rfl, trivial⟩ (fun _ hm => hm.pick [] [0] [0, 1, 2, 3, 4, 5, 6, 7, 8, 9, 10] rfl rfl)
 rintro ⟨v, k, xs⟩ hinv
 replace hinv : L1.length = k ∧ k ≤ 121 ∧ xs = L1.flatMap lnEnc := hinv
 dsimp only
 refine gw_seq (sr_ ?_)
 obtain ⟨hk0, hk121, rfl⟩ := hinv
 refine fd_ fo81_4 rfl rfl ?_
 refine wl_ov (ov_load (v := .slice A1 n1 c1) sc79 rfl (fun _ hm => (hm.fact 0 rfl).2) rfl) rfl ?_
 refine wl_ov (ov_len es79 rfl) rfl (mv_ rfl (nn_ (gw_block ?_)))
 refine gw_loop (γ := Nat × Value × List Value) (fun g => g.1 ≤ n1 ∧ g.2.2 = (L1 ++ (ks.take g.1).map (askL el D)).flatMap lnEnc) (fun g => [(2, .pointer (some ⟨g1, 0, none⟩)), (3, .pointer (some ⟨g2, 0, none⟩)), (4, .slice none 0 0), (5, .int .i64 0), (8, g.2.1), (77, .slice A1 n1 c1), (78, .int .i64 ((n1 : Nat) : Int)), (79, .int .i64 ((g.1 : Nat) : Int))]) (fun g => fun _ => True) (fun g => []) (fun g => [⟨g.2.1, 88, 3, (k + g.1), g.2.2⟩]) (fun g => [BlkOld w2.heap.size none g2 81 [.string qc, .int .i64 fr, .int .i64 tt, .string qa, .string qb, .slice A1 n1 c1, .slice A2 n2 c2], BlkOld w2.heap.size none g1 77 [.slice rA rn rc, .slice eA en ec, .slice fA fn fc, .slice cA cn cc, .slice tA tn tc], SlOld rtEnc 7 288 w2.heap.size none rA rn rl, SlOld exEnc 4 295 w2.heap.size none eA en el, SlOld feEnc 3 352 w2.heap.size none fA fn fl, SlOld cdEnc 6 354 w2.heap.size none cA cn cl, SlOld txEnc 4 298 w2.heap.size none tA tn tl, SlOld sgEnc 1 9 w2.heap.size none A1 n1 ks, SlOld sgEnc 1 9 w2.heap.size none A2 n2 cks, OnsOld w2.heap.size none tl, SlOld pcEnc 3 203 w2.heap.size none A3 i ps]) (fun g => n1 - g.1) (0, v, L1.flatMap lnEnc) ⟨Nat.zero_le _, by simp⟩ ⟨rfl, rfl, rfl, rfl, rfl, rfl, rfl, rfl, trivial⟩ (fun _ hm => hm.pick [] [0] [0, 1, 2, 3, 4, 5, 6, 7, 8, 9, 10] rfl rfl) ?_
 rintro ⟨j, v, xs⟩ hinv
 replace hinv : j ≤ n1 ∧ xs = (L1 ++ (ks.take j).map (askL el D)).flatMap lnEnc := hinv
 dsimp only
 refine sr_ ?_
 obtain ⟨hj0, rfl⟩ := hinv
 refine wl_ov (ov_lss rfl rfl) rfl (nn_ (gw_seq ?_))
 refine gw_cond rfl (fun hh => ?_) (fun hh => ?_)
 ·have hj : ((j : Nat) : Int) < ((n1 : Nat) : Int) := by simpa using hh
  clear hh
  refine gw_skip (nx_then (gw_seq (gw_block (sr_ ?_))))
  obtain ⟨b1, off1, hA, _, _⟩ := hs.get (by omega)
  subst hA
  obtain ⟨k2, hx⟩ : ∃ x, ks[j]? = some x := ⟨_, List.getElem?_eq_getElem (by omega)⟩
  obtain ⟨q, z, hq, hz, hzv⟩ := ex_at (hak k2 (List.mem_of_getElem? hx))
  obtain ⟨zk, z1, z2, z3⟩ := z
  obtain ⟨_, hz1, hz2, hz3⟩ := (extrasE_ok he0).2 _ (List.mem_of_getElem? hz)
  have hqn : q < en := by have := (List.getElem?_eq_some_iff.1 hz).1; have := he.len; omega
  have hsn := asks_snoc (el := el) (n := D) (L := L1) hx
  obtain ⟨V, hV⟩ : ∃ v, v = exAt el k2 D := ⟨_, rfl⟩
  have hVz : exV ⟨zk, z1, z2, z3⟩ D = V := by rw [hV, hzv]
  obtain ⟨be, oe, hA, _, _⟩ := he.get (by omega)
  subst hA
  refine wl_ov (ov_index (j := j) es79 rfl rfl (by omega)) rfl ?_
  refine wl_ov (ov_elem1 (k := 0) (v := .string k2) sc9 rfl (fun _ hm => (hm.fact 7 rfl).1) hx rfl rfl) rfl ?_
  refine sg_ rfl (nn_ ?_)
  refine gd (fun wz => (BlkOld w2.heap.size none g2 81 [.string qc, .int .i64 fr, .int .i64 tt, .string qa, .string qb, .slice (some ⟨b1, off1, none⟩) n1 c1, .slice A2 n2 c2]) wz ∧ (BlkOld w2.heap.size none g1 77 [.slice rA rn rc, .slice (some ⟨be, oe, none⟩) en ec, .slice fA fn fc, .slice cA cn cc, .slice tA tn tc]) wz ∧ (SlOld rtEnc 7 288 w2.heap.size none rA rn rl) wz ∧ (SlOld exEnc 4 295 w2.heap.size none (some ⟨be, oe, none⟩) en el) wz ∧ (SlOld feEnc 3 352 w2.heap.size none fA fn fl) wz ∧ (SlOld cdEnc 6 354 w2.heap.size none cA cn cl) wz ∧ (SlOld txEnc 4 298 w2.heap.size none tA tn tl) wz ∧ (SlOld sgEnc 1 9 w2.heap.size none (some ⟨b1, off1, none⟩) n1 ks) wz ∧ (SlOld sgEnc 1 9 w2.heap.size none A2 n2 cks) wz ∧ (OnsOld w2.heap.size none tl) wz ∧ (SlOld pcEnc 3 203 w2.heap.size none A3 i ps) wz ∧ True) mixed (fun _ hm => ⟨hm.fa 0, hm.fa 1, hm.fa 2, hm.fa 3, hm.fa 4, hm.fa 5, hm.fa 6, hm.fa 7, hm.fa 8, hm.fa 9, hm.fa 10, trivial⟩) fun z => ?_
  refine wt 0 18 1 rfl z (ov_move rfl) ?_
  refine wt 1 18 3 rfl z (ov_move rfl) ?_
  refine wt 2 18 7 rfl z (ov_field fo77_1 rfl rfl) ?_
  refine wt 3 18 15 rfl z (ov_load (v := .slice (some ⟨be, oe, none⟩) en ec) sc72 rfl (fun _ hm => (hm.2.1).2) rfl) ?_
  refine wt 4 18 31 rfl z (ov_field fo77_1 rfl rfl) ?_
  refine wt 5 18 63 rfl z (ov_load (v := .slice (some ⟨be, oe, none⟩) en ec) sc72 rfl (fun _ hm => (hm.2.1).2) rfl) ?_
  refine wt 6 18 127 rfl z (ov_move rfl) ?_
  refine wt 10 18 1151 rfl z (ov_field fo81_1 rfl rfl) ?_
  refine wt 11 18 3199 rfl z (ov_loads (vs := [.int .i64 fr, .int .i64 tt]) rz39 rfl (fun _ hm => (hm.1).2) rfl rfl) ?_
  refine wa1 7 rfl ?_
  refine wl_callv (v := .int .i64 ((q : Nat) : Int)) rfl cb210 rfl rfl (fun wx hm => (by have h := extraAt_any el _ en ec k2 wx (hm.fact 3 rfl).1 (by omega); rw [hq] at h; exact h)) ?_
  refine wl_nil ?_
  refine nw 18 3327 (fun _ hm => ⟨hm.fa 0, hm.fa 1, hm.fa 2, hm.fa 3, hm.fa 4, hm.fa 5, hm.fa 6, hm.fa 7, hm.fa 8, hm.fa 9, hm.fa 10, trivial⟩) fun z => ?_
  refine wt 8 18 3583 rfl z (ov_index (j := q) es72 rfl rfl (by omega)) ?_
  refine wt 9 18 4095 rfl z (ov_elem (vs := [.string zk, .int .i64 z1, .int .i64 z2, .int .i64 z3]) rz295 rfl (fun _ hm => (hm.2.2.2.1).1) hz rfl rfl) ?_
  refine wa1 12 rfl ?_
  refine wl_callv (v := .int .i64 D) rfl cb188 rfl rfl (fun wx hm => (by rw [hD]; exact days_any _ _ wx (by omega) (by omega) (by omega))) ?_
  refine wl_nil ?_
  refine nw 18 8191 (fun _ hm => ⟨hm.fa 0, hm.fa 1, hm.fa 2, hm.fa 3, hm.fa 4, hm.fa 5, hm.fa 6, hm.fa 7, hm.fa 8, hm.fa 9, hm.fa 10, trivial⟩) fun z => ?_
  refine wa1 13 rfl ?_
  refine wl_callv (v := .int .i64 V) rfl cb212 rfl rfl (fun wx hm => (by have h := extraCost_any zk z1 z2 z3 D wx hz1 hz2 hz3 hD0; rw [hVz] at h; exact h)) ?_
  refine wl_nil ?_
  refine nw 18 16383 (fun _ hm => ⟨hm.fa 0, hm.fa 1, hm.fa 2, hm.fa 3, hm.fa 4, hm.fa 5, hm.fa 6, hm.fa 7, hm.fa 8, hm.fa 9, hm.fa 10, trivial⟩) fun z => ?_
  refine wt 14 18 32767 rfl z (ov_build (cs := [.int .i64 3, .string k2, .int .i64 V]) rfl (by kernel_rfl)) ?_
  refine wa1 15 rfl ?_
  refine wl_buildSlice (e := 88) (cs := [.int .i64 3, .string k2, .int .i64 V]) rfl (by kernel_rfl) rfl fun g17 => ?_
  refine wl_nil ?_
  refine nw 18 65535 (fun _ hm => ⟨hm.fa 0, hm.fa 1, hm.fa 2, hm.fa 3, hm.fa 4, hm.fa 5, hm.fa 6, hm.fa 7, hm.fa 8, hm.fa 9, hm.fa 10, trivial⟩) fun z => ?_
  refine wa1 16 rfl ?_
  refine wl_append (news := [.int .i64 3, .string k2, .int .i64 V]) 0 0 ap83 rfl rfl rfl rfl rfl rfl rfl (by omega) (by unfold maxLen; omega) rfl rfl fun v2 hv2 => ?_
  refine wl_nil ?_
  refine nw 18 131071 (fun _ hm => ⟨hm.fa 0, hm.fa 1, hm.fa 2, hm.fa 3, hm.fa 4, hm.fa 5, hm.fa 6, hm.fa 7, hm.fa 8, hm.fa 9, hm.fa 10, trivial⟩) fun z => ?_
  refine wt 17 18 262143 rfl z (ov_assign rfl) ?_
  refine wa_done (by kernel_rfl) ?_
  refine nx_blk_nrm (nx_then (gw_region (ad_ rfl rfl (mv_ rfl (wl_nil ?_)))))
  exact nx_round (j + 1, v2, (L1 ++ (ks.take j).map (askL el D)).flatMap lnEnc ++ ([.int .i64 3, .string k2, .int .i64 V] : List Value)) ⟨by dsimp only; omega, by rw [hsn, hV]; rfl⟩ (by dsimp only; omega) ⟨rfl, rfl, rfl, rfl, rfl, rfl, rfl, (some_int (by omega)), trivial⟩ (fun _ hm => hm.pick [] [0] [0, 1, 2, 3, 4, 5, 6, 7, 8, 9, 10] rfl rfl)
 have hj : ¬ (((j : Nat) : Int) < ((n1 : Nat) : Int)) := by simpa using hh
 clear hh
 refine gw_exit ?_
 refine nx_then_exit (nx_then_exit ?_)
 refine nx_blk_here ?_
 refine nx_then (sr_ ?_)
 have hallk : ks.take j = ks := List.take_of_length_le (by omega)
 rw [hallk]
 obtain rfl : j = n1 := by omega
 obtain ⟨L2, hL2⟩ : ∃ l, l = L1 ++ ks.map (askL el D) := ⟨_, rfl⟩
 rw [← hL2]
 have hl2 : L2.length = k + j := by rw [hL2, List.length_append, List.length_map]; omega
 obtain ⟨FV, hFV⟩ : ∃ v, v = feeOfV fl qa qb := ⟨_, rfl⟩
 obtain ⟨E2, hE2⟩ : ∃ v, v = feeOfE fl qa qb := ⟨_, rfl⟩
 obtain ⟨L3, hL3⟩ : ∃ l, l = line3 el D ks fl qa qb ps (BK, OF) := ⟨_, rfl⟩
 have hL32 : L3 = L2 ++ feeL fl qa qb := by rw [hL3, hL2, hL1]; rfl
 have hsm3 : LnSm L3 := by rw [hL3, hD]; exact line_sm hpo (by dsimp only; omega) he0 hak htm hf0
 have hln3 : L3.length ≤ 140 := by rw [hL3]; exact line_len hpo hnk
 refine fd_ fo77_2 rfl rfl ?_
 refine wl_ov (ov_load (v := .slice fA fn fc) sc73 rfl (fun _ hm => (hm.fact 1 rfl).2) rfl) rfl ?_
 refine fd_ fo81_2 rfl rfl ?_
 refine wl_ov (ov_load (v := .string qa) sc9 rfl (fun _ hm => (hm.fact 0 rfl).2) rfl) rfl ?_
 refine fd_ fo81_3 rfl rfl ?_
 refine wl_ov (ov_load (v := .string qb) sc9 rfl (fun _ hm => (hm.fact 0 rfl).2) rfl) rfl ?_
 refine wl_callv (v := .tuple #[.int .i64 FV, .int .i64 E2]) rfl cb213 rfl rfl (fun wx hm => (by rw [hFV, hE2]; exact tFeeOf_any fl fA fn fc qa qb wx (hm.fact 4 rfl).1 hfo (by omega) hza hzb)) ?_
 refine mv_ rfl (wl_ov (ov_extract rfl rfl) rfl (wl_ov (ov_extract rfl rfl) rfl (sg_ rfl (sg_ rfl (nn_ (gw_seq (sr_ (mv_ rfl (wl_ov (ov_neq rfl rfl) rfl (nn_ ?_))))))))))
 refine gw_cond rfl (fun hh => ?_) (fun hh => ?_)
 ·have h7 : ¬ (E2 = 0) := by simpa using hh
  clear hh
  refine sr_ (mv_ rfl (sg_ rfl (sg_ rfl (nn_ ?_))))
  refine gw_ret ?_
  refine nx_then_ret ?_
  have h8 : E2 ≠ 0 := by simpa using h7
  refine nx_ret2 rfl rfl rfl fun wx hm => ?_
  exact ⟨none, 0, 0, [], E2, rfl, SlT.nil_ _ _, ⟨Nat.zero_le _, Nat.zero_le _⟩, ⟨0, ps, hdv, by rw [qe_three hAE.symm, hE2], by rw [if_neg h8]⟩, grow_trans hm_w2.g hm.g⟩
 have h7 : E2 = 0 := by simpa using hh
 clear hh
 refine gw_skip (nx_then ?_)
 obtain rfl : E2 = 0 := by simpa using h7
 refine gw_cut (γ := Value × Nat × List Value) (I := (fun g => L3.length = g.2.1 ∧ g.2.2 = L3.flatMap lnEnc)) (S' := (fun g => [(2, .pointer (some ⟨g1, 0, none⟩)), (4, .slice none 0 0), (5, .int .i64 0), (8, g.1)])) (K' := (fun g => fun _ => True)) (L' := (fun g => [])) (O' := (fun g => [⟨g.1, 88, 3, g.2.1, g.2.2⟩])) (X' := (fun g => [BlkOld w2.heap.size none g2 81 [.string qc, .int .i64 fr, .int .i64 tt, .string qa, .string qb, .slice A1 j c1, .slice A2 n2 c2], BlkOld w2.heap.size none g1 77 [.slice rA rn rc, .slice eA en ec, .slice fA fn fc, .slice cA cn cc, .slice tA tn tc], SlOld rtEnc 7 288 w2.heap.size none rA rn rl, SlOld exEnc 4 295 w2.heap.size none eA en el, SlOld feEnc 3 352 w2.heap.size none fA fn fl, SlOld cdEnc 6 354 w2.heap.size none cA cn cl, SlOld txEnc 4 298 w2.heap.size none tA tn tl, SlOld sgEnc 1 9 w2.heap.size none A1 j ks, SlOld sgEnc 1 9 w2.heap.size none A2 n2 cks, OnsOld w2.heap.size none tl, SlOld pcEnc 3 203 w2.heap.size none A3 i ps])) ?_ ?_
 ·refine sr_ (fd_ fo81_2 rfl rfl ?_)
  refine wl_ov (ov_load (v := .string qa) sc9 rfl (fun _ hm => (hm.fact 0 rfl).2) rfl) rfl ?_
  refine fd_ fo81_3 rfl rfl ?_
  refine wl_ov (ov_load (v := .string qb) sc9 rfl (fun _ hm => (hm.fact 0 rfl).2) rfl) rfl ?_
  refine wl_ov (ov_sneq rfl rfl) rfl (nn_ ?_)
  refine gw_cond rfl (fun hh => ?_) (fun hh => ?_)
  ·have h9 : (qa.toList == qb.toList) = false := by simpa using hh
   clear hh
   refine gw_region ?_
   have hL4 : L3 = L2 ++ [⟨4, ⟨#[111, 110, 101, 119, 97, 121]⟩, FV⟩] := by rw [hL32]; unfold feeL; rw [if_neg (by simpa using h9), hFV]
   refine mv_ rfl (mv_ rfl ?_)
   refine wl_ov (ov_build (cs := [.int .i64 4, .string ⟨#[111, 110, 101, 119, 97, 121]⟩, .int .i64 FV]) rfl (by kernel_rfl)) rfl ?_
   refine wl_buildSlice (e := 88) (cs := [.int .i64 4, .string ⟨#[111, 110, 101, 119, 97, 121]⟩, .int .i64 FV]) rfl (by kernel_rfl) rfl fun g18 => ?_
   refine wl_append (news := [.int .i64 4, .string ⟨#[111, 110, 101, 119, 97, 121]⟩, .int .i64 FV]) 0 0 ap83 rfl rfl rfl rfl rfl rfl rfl (by omega) (by unfold maxLen; omega) rfl rfl fun v2 hv2 => ?_
   refine sg_ rfl (wl_nil ?_)
   exact nx_meet (v2, k + j + 1, L2.flatMap lnEnc ++ ([.int .i64 4, .string ⟨#[111, 110, 101, 119, 97, 121]⟩, .int .i64 FV] : List Value)) ⟨by rw [hL4, List.length_append, hl2]; rfl, by rw [hL4]; simp [lnEnc]⟩ ⟨rfl, rfl, rfl, rfl, trivial⟩ (fun _ hm => hm.pick [] [0] [0, 1, 2, 3, 4, 5, 6, 7, 8, 9, 10] rfl rfl)
  have h9 : (qa.toList == qb.toList) = true := by simpa using hh
  clear hh
  refine gw_skip ?_
  have hL4 : L3 = L2 := by rw [hL32]; unfold feeL; rw [if_pos (by simpa using h9), List.append_nil]
  exact nx_meet (v, k + j, L2.flatMap lnEnc) ⟨by rw [hL4]; exact hl2, by rw [hL4]⟩ ⟨rfl, rfl, rfl, rfl, trivial⟩ (fun _ hm => hm.pick [] [0] [0, 1, 2, 3, 4, 5, 6, 7, 8, 9, 10] rfl rfl)
 rintro ⟨v, k3, xs⟩ hinv
 replace hinv : L3.length = k3 ∧ xs = L3.flatMap lnEnc := hinv
 dsimp only
 refine sr_ ?_
 obtain ⟨hl3, rfl⟩ := hinv
 refine wl_look (R := ∃ A cc, v = .slice A k3 cc) (fun wx hm => own_slice (hm.ownI 0 rfl)) ?_
 rintro ⟨A6, c6, rfl⟩
 refine mv_ rfl (fd_ fo77_4 rfl rfl ?_)
 refine wl_ov (ov_load (v := .slice tA tn tc) sc75 rfl (fun _ hm => (hm.fact 1 rfl).2) rfl) rfl ?_
 refine mv_ rfl ?_
 refine wl_callgo (γ := Option Addr × Nat × Nat) (val := (fun g => .slice g.1 g.2.1 g.2.2)) (φ := (fun g => (taxesV L3 [] tl).length = g.2.1 ∧ g.2.1 ≤ 3)) (fun g => ⟨.slice g.1 g.2.1 g.2.2, 88, 3, g.2.1, (taxesV L3 [] tl).flatMap lnEnc⟩) rfl cb108 rfl rfl (fun wx hm => (taxes_own tl tA tn tc L3 A6 k3 c6 wx (hm.fact 6 rfl).1 (OnsOld.ons (hm.fact 9 rfl)) hto htn (SlT.ofOwn ln_len (hm.ownI 0 rfl) hl3) (by omega) (taxesE_mille ht0).2 (onSum_sm hsm3 (by omega))).mono fun _ _ ⟨A7, n7, c7, he, ho, hl, hn, hg⟩ => ⟨(A7, n7, c7), he, ⟨hl, hn⟩, ho, hg⟩) ?_
 rintro ⟨A7, n7, c7⟩ h7x
 dsimp only at h7x ⊢
 obtain ⟨hl7, hn7⟩ := h7x
 refine wl_appendO 1 0 ap83 rfl rfl rfl rfl (flat_one lnEnc ln_one _) (by omega) (by unfold maxLen; omega) rfl rfl fun v9 hv9 => ?_
 refine wl_look (R := ∃ A cc, v9 = .slice A (k3 + n7) cc) (fun wx hm => own_slice (hm.ownI 1 rfl)) ?_
 rintro ⟨A8, c8, rfl⟩
 refine sg_ rfl (sg_ rfl (nn_ ?_))
 refine gw_ret ?_
 refine nx_ret2 rfl rfl rfl fun wx hm => ?_
 exact ⟨A8, k3 + n7, c8, lineQ tl L3, 0, rfl, SlT.ofOwn ln_len (by have h := (hm.ownI 1 rfl); unfold lineQ; rw [List.flatMap_append]; exact h) (by unfold lineQ; rw [List.length_append]; omega), ⟨by omega, own_cap (hm.ownI 1 rfl)⟩, ⟨0, ps, hdv, by rw [qe_three hAE.symm, ← hE2], by rw [if_pos rfl, ← hSV, hpair, ← hD, ← hL3]⟩, grow_trans hm_w2.g hm.g⟩
theorem quote_any (rl : List Rt) (rA : Option Addr) (rn rc : Nat) (el : List Ex) (eA : Option Addr) (en ec : Nat) (fl : List Fe) (fA : Option Addr) (fn fc : Nat) (cl : List Cd) (cA : Option Addr) (cn cc : Nat) (tl : List Tx) (tA : Option Addr) (tn tc : Nat) (qc : ByteArray) (fr tt : Int) (qa qb : ByteArray) (ks : List ByteArray) (A1 : Option Addr) (n1 c1 : Nat) (cks : List ByteArray) (A2 : Option Addr) (n2 c2 : Nat) (w : World) (hr : SlT rtEnc 7 288 w rA rn rl) (he : SlT exEnc 4 295 w eA en el) (hf : SlT feEnc 3 352 w fA fn fl) (hc : SlT cdEnc 6 354 w cA cn cl) (ht : SlT txEnc 4 298 w tA tn tl) (hons : Ons tl w) (hro : ∀ x ∈ rl, RtOk x) (_heo : ∀ x ∈ el, ExOk x) (hfo : ∀ x ∈ fl, FeOk x) (hco : ∀ x ∈ cl, CdOk x) (hto : ∀ x ∈ tl, TxOk x) (hrn : rn ≤ 1000) (hen : en ≤ 1000) (hfn : fn ≤ 1000) (hcn : cn ≤ 1000) (htn : tn ≤ 3) (_htc : tn ≤ tc) (hs : SlT sgEnc 1 9 w A1 n1 ks) (hs2 : SlT sgEnc 1 9 w A2 n2 cks) (hn1 : n1 ≤ c1) (hn2 : n2 ≤ c2) (hz : qc.size ≤ 1000000 ∧ qa.size ≤ 1000000 ∧ qb.size ≤ 1000000) (hn10 : n1 ≤ 1000000) (hn20 : n2 ≤ 1000000) (h0 : tariffE rl el fl cl tl = 0) (hch : CheapR rl) (hask : askE (fun k => el.any (exP k)) ks = 0) :
    Calls Tryz.prog 103 #[.agg #[.slice rA rn rc, .slice eA en ec, .slice fA fn fc, .slice cA cn cc, .slice tA tn tc], .agg #[.string qc, .int .i64 fr, .int .i64 tt, .string qa, .string qb, .slice A1 n1 c1, .slice A2 n2 c2]] w (fun e w' => ∃ (A : Option Addr) (n c : Nat) (ls : List Ln) (E : Int), e = .returned (.tuple #[.slice A n c, .int .i64 E]) ∧ SlT lnEnc 3 88 w' A n ls ∧ n ≤ 200 ∧ QIs rl el fl cl tl qc fr tt qa qb ks cks E ls ∧ w.grownBy w' none) :=
  (quote_anyC rl rA rn rc el eA en ec fl fA fn fc cl cA cn cc tl tA tn tc qc fr tt qa qb ks A1 n1 c1 cks A2 n2 c2 w hr he hf hc ht hons hro _heo hfo hco hto hrn hen hfn hcn htn _htc hs hs2 hn1 hn2 hz hn10 hn20 h0 hch hask).mono fun _ _ ⟨A, n, c, ls, E, he, hs, hn, h⟩ => ⟨A, n, c, ls, E, he, hs, hn.1, h⟩
/-- The error and the lines behind the checks of the tariff. -/
def QRest (rl : List Rt) (el : List Ex) (fl : List Fe) (cl : List Cd) (tl : List Tx) (qc : ByteArray) (fr tt : Int) (qa qb : ByteArray) (ks cks : List ByteArray) (E : Int) (ls : List Ln) : Prop :=
  (askE (fun k => el.any (exP k)) ks ≠ 0 ∧ E = askE (fun k => el.any (exP k)) ks ∧ ls = []) ∨ (askE (fun k => el.any (exP k)) ks = 0 ∧ QIs rl el fl cl tl qc fr tt qa qb ks cks E ls)
theorem tquote_anyC (rl : List Rt) (rA : Option Addr) (rn rc : Nat) (el : List Ex) (eA : Option Addr) (en ec : Nat) (fl : List Fe) (fA : Option Addr) (fn fc : Nat) (cl : List Cd) (cA : Option Addr) (cn cc : Nat) (tl : List Tx) (tA : Option Addr) (tn tc : Nat) (qc : ByteArray) (fr tt : Int) (qa qb : ByteArray) (ks : List ByteArray) (A1 : Option Addr) (n1 c1 : Nat) (cks : List ByteArray) (A2 : Option Addr) (n2 c2 : Nat) (w : World) (hr : SlT rtEnc 7 288 w rA rn rl) (he : SlT exEnc 4 295 w eA en el) (hf : SlT feEnc 3 352 w fA fn fl) (hc : SlT cdEnc 6 354 w cA cn cl) (ht : SlT txEnc 4 298 w tA tn tl) (hons : Ons tl w) (hro : ∀ x ∈ rl, RtOk x) (heo : ∀ x ∈ el, ExOk x) (hfo : ∀ x ∈ fl, FeOk x) (hco : ∀ x ∈ cl, CdOk x) (hto : ∀ x ∈ tl, TxOk x) (hrn : rn ≤ 1000) (hen : en ≤ 1000) (hfn : fn ≤ 1000) (hcn : cn ≤ 1000) (htn : tn ≤ 3) (htc : tn ≤ tc) (hs : SlT sgEnc 1 9 w A1 n1 ks) (hs2 : SlT sgEnc 1 9 w A2 n2 cks) (hn1 : n1 ≤ c1) (hn2 : n2 ≤ c2) (hz : qc.size ≤ 1000000 ∧ qa.size ≤ 1000000 ∧ qb.size ≤ 1000000) (hn10 : n1 ≤ 1000000) (hn20 : n2 ≤ 1000000) (hch : CheapR rl) :
  Calls Tryz.prog 32 #[.agg #[.slice rA rn rc, .slice eA en ec, .slice fA fn fc, .slice cA cn cc, .slice tA tn tc], .agg #[.string qc, .int .i64 fr, .int .i64 tt, .string qa, .string qb, .slice A1 n1 c1, .slice A2 n2 c2]] w (fun e w' => ∃ (A : Option Addr) (n c : Nat) (ls : List Ln) (E : Int), e = .returned (.tuple #[.slice A n c, .int .i64 E]) ∧ SlT lnEnc 3 88 w' A n ls ∧ (n ≤ 200 ∧ n ≤ c) ∧ ((tariffE rl el fl cl tl ≠ 0 ∧ E = tariffE rl el fl cl tl ∧ ls = []) ∨ (tariffE rl el fl cl tl = 0 ∧ QRest rl el fl cl tl qc fr tt qa qb ks cks E ls)) ∧ w.grownBy w' none) := by
 refine gw_enter ⟨25, w, none, [88]⟩ Tryz.func32 rfl Tryz.ntmps32 rfl (mem0 (X := [SlOld rtEnc 7 288 w.heap.size none rA rn rl, SlOld exEnc 4 295 w.heap.size none eA en el, SlOld feEnc 3 352 w.heap.size none fA fn fl, SlOld cdEnc 6 354 w.heap.size none cA cn cl, SlOld txEnc 4 298 w.heap.size none tA tn tl, OnsOld w.heap.size none tl, SlOld sgEnc 1 9 w.heap.size none A1 n1 ks, SlOld sgEnc 1 9 w.heap.size none A2 n2 cks]) (allF_cons hr.old (allF_cons he.old (allF_cons hf.old (allF_cons hc.old (allF_cons ht.old (allF_cons hons.old (allF_cons hs.old (allF_cons hs2.old allF_nil)))))))) (allL_cons SlOld.lasts (allL_cons SlOld.lasts (allL_cons SlOld.lasts (allL_cons SlOld.lasts (allL_cons SlOld.lasts (allL_cons OnsOld.lasts (allL_cons SlOld.lasts (allL_cons SlOld.lasts allL_nil))))))))) ?_
 refine sr_ ?_
 obtain ⟨TE, hTE⟩ : ∃ E, E = tariffE rl el fl cl tl := ⟨_, rfl⟩
 obtain ⟨AE, hAE⟩ : ∃ E, E = askE (fun k => el.any (exP k)) ks := ⟨_, rfl⟩
 refine wl_box rfl rfl rfl fun g1 => ?_
 refine wl_box rfl rfl rfl fun g2 => ?_
 refine sg_ rfl (sg_ rfl (nn_ (gw_seq (sr_ ?_))))
 refine wl_ov (ov_loads rz77 rfl (fun _ hm => hm.blkI 1 rfl) rfl rfl) rfl ?_
 refine wl_callv (v := .int .i64 TE) rfl cb101 rfl rfl (fun wx hm => (by rw [hTE]; exact tcheck_any rl rA rn rc el eA en ec fl fA fn fc cl cA cn cc tl tA tn tc wx (hm.fact 0 rfl).1 (hm.fact 1 rfl).1 (hm.fact 2 rfl).1 (hm.fact 3 rfl).1 (hm.fact 4 rfl).1 (OnsOld.ons (hm.fact 5 rfl)) hro heo hfo hco hto hrn hen hfn hcn htn htc)) ?_
 refine sg_ rfl (nn_ (sr_ (mv_ rfl (wl_ov (ov_neq rfl rfl) rfl (nn_ ?_)))))
 refine gw_cond rfl (fun hh => ?_) (fun hh => ?_)
 ·have h1 : ¬ (TE = 0) := by simpa using hh
  clear hh
  refine sr_ (mv_ rfl (sg_ rfl (sg_ rfl (nn_ ?_))))
  refine gw_ret ?_
  refine nx_then_ret ?_
  have h2 : TE ≠ 0 := by simpa using h1
  refine nx_ret2 rfl rfl rfl fun wx hm => ?_
  exact ⟨none, 0, 0, [], TE, rfl, SlT.nil_ _ _, ⟨Nat.zero_le _, Nat.zero_le _⟩, .inl ⟨by rw [← hTE]; exact h2, hTE, rfl⟩, hm.g⟩
 have h1 : TE = 0 := by simpa using hh
 clear hh
 refine gw_skip (nx_then (gw_seq (sr_ ?_)))
 have h2 : TE = 0 := by simpa using h1
 have h0 : tariffE rl el fl cl tl = 0 := hTE.symm.trans h2
 refine wl_ov (ov_loads rz77 rfl (fun _ hm => hm.blkI 1 rfl) rfl rfl) rfl ?_
 refine fd_ fo81_4 rfl rfl (lk_ sc79 0 rfl rfl rfl ?_)
 refine wl_callv (v := .int .i64 AE) rfl cb102 rfl rfl (fun wx hm => (by rw [hAE]; exact askedExtras_any el eA en ec rA fA cA tA rn rc fn fc cn cc tn tc ks A1 n1 c1 wx (hm.fact 1 rfl).1 hen (hm.fact 6 rfl).1 hn10 hn1)) ?_
 refine sg_ rfl (nn_ (sr_ (mv_ rfl (wl_ov (ov_neq rfl rfl) rfl (nn_ ?_)))))
 refine gw_cond rfl (fun hh => ?_) (fun hh => ?_)
 ·have h3 : ¬ (AE = 0) := by simpa using hh
  clear hh
  refine sr_ (mv_ rfl (sg_ rfl (sg_ rfl (nn_ ?_))))
  refine gw_ret ?_
  refine nx_then_ret ?_
  have h4 : AE ≠ 0 := by simpa using h3
  refine nx_ret2 rfl rfl rfl fun wx hm => ?_
  exact ⟨none, 0, 0, [], AE, rfl, SlT.nil_ _ _, ⟨Nat.zero_le _, Nat.zero_le _⟩, .inr ⟨h0, .inl ⟨by rw [← hAE]; exact h4, hAE, rfl⟩⟩, hm.g⟩
 have h3 : AE = 0 := by simpa using hh
 clear hh
 refine gw_skip (nx_then (sr_ ?_))
 have h4 : AE = 0 := by simpa using h3
 refine wl_ov (ov_loads rz77 rfl (fun _ hm => hm.blkI 1 rfl) rfl rfl) rfl ?_
 refine wl_ov (ov_loads rz81 rfl (fun _ hm => hm.blkI 0 rfl) rfl rfl) rfl ?_
 refine wl_callx (γ := Option Addr × Nat × Nat × List Ln × Int) (val := (fun g => .tuple #[.slice g.1 g.2.1 g.2.2.1, .int .i64 g.2.2.2.2])) (φ := (fun g => (g.2.1 ≤ 200 ∧ g.2.1 ≤ g.2.2.1) ∧ QIs rl el fl cl tl qc fr tt qa qb ks cks g.2.2.2.2 g.2.2.2.1)) (Y := (fun g => fun wy => SlT lnEnc 3 88 wy g.1 g.2.1 g.2.2.2.1)) rfl cb103 rfl rfl (fun wx hm => (quote_anyC rl rA rn rc el eA en ec fl fA fn fc cl cA cn cc tl tA tn tc qc fr tt qa qb ks A1 n1 c1 cks A2 n2 c2 wx (hm.fact 0 rfl).1 (hm.fact 1 rfl).1 (hm.fact 2 rfl).1 (hm.fact 3 rfl).1 (hm.fact 4 rfl).1 (OnsOld.ons (hm.fact 5 rfl)) hro heo hfo hco hto hrn hen hfn hcn htn htc (hm.fact 6 rfl).1 (hm.fact 7 rfl).1 hn1 hn2 hz hn10 hn20 h0 hch (hAE.symm.trans h4)).mono fun _ _ ⟨A, n, c, ls, E, he, hs, hn, hq, hg⟩ => ⟨(A, n, c, ls, E), he, ⟨hn, hq⟩, hg, hs⟩) (fun _ => SlT.lasts2 rfl) ?_
 rintro ⟨A9, n9, c9, ls, E⟩ hq9
 dsimp only at hq9 ⊢
 obtain ⟨hn9, hqi⟩ := hq9
 refine wl_ov (ov_extract rfl rfl) rfl (wl_ov (ov_extract rfl rfl) rfl (sg_ rfl (sg_ rfl (nn_ ?_))))
 refine gw_ret ?_
 refine nx_ret2 rfl rfl rfl fun wx hm => ?_
 exact ⟨A9, n9, c9, ls, E, rfl, (hm.fact 0 rfl), hn9, .inr ⟨h0, .inr ⟨hAE.symm.trans h4, hqi⟩⟩, hm.g⟩
end Go.Proofs.YtdoooppeiphefaaGreatDoor
