/- Several texts as one: Zb Zc Fm Sp Zg Zd Ze He Hf Bq Td Ry Zm -/
import Derived.Test.YtdoooppeiphefaaGreatDoorN1d
import Derived.Test.YtdoooppeiphefaaGreatDoorN1b
import Derived.Test.YtdoooppeiphefaaGreatDoorN1a
import Derived.Deep.RegionHeld3
import Derived.Laws.ResultCell
import Derived.Test.YtdoooppeiphefaaGreatDoorN1c
set_option maxRecDepth 100000
set_option maxHeartbeats 4000000
namespace Go.Proofs.YtdoooppeiphefaaGreatDoor
open Go.RowKit
theorem lotCommon_any (a b c d : Int) (w : World) (ha : -6000000 ≤ a ∧ a ≤ 6000000) (hb : -6000000 ≤ b ∧ b ≤ 6000000) (hc : -4000000000000000000 ≤ c ∧ c ≤ 4000000000000000000) (hd : -4000000000000000000 ≤ d ∧ d ≤ 4000000000000000000) :
  Calls Tryz.prog 171 #[.agg #[.int .i64 a, .int .i64 b], .agg #[.int .i64 c, .int .i64 d]] w (GotE w (cmn a b c d)) := by
 refine gw_enter ⟨17, w, none, []⟩ Tryz.func171 rfl Tryz.ntmps171 rfl (mem0 (X := []) allF_nil allL_nil) ?_
 refine sr_ ?_
 refine wl_box rfl rfl rfl fun g1 => ?_
 refine wl_box rfl rfl rfl fun g2 => ?_
 refine sg_ rfl (nn_ (sr_ (fd_ fo39_1 rfl rfl (lk_ sc3 1 rfl rfl rfl (fd_ fo39_1 rfl rfl (lk_ sc3 0 rfl rfl rfl ?_))))))
 refine wl_ov (ov_min rfl rfl) rfl ?_
 refine fd_ fo39_0 rfl rfl (lk_ sc3 1 rfl rfl rfl (fd_ fo39_0 rfl rfl (lk_ sc3 0 rfl rfl rfl ?_)))
 refine wl_ov (ov_max rfl rfl) rfl ?_
 refine wl_ov (ov_sub rfl rfl (by omega) (by omega)) rfl ?_
 refine wl_ov (ov_max rfl rfl) rfl ?_
 refine sg_ rfl (nn_ ?_)
 refine gw_ret ?_
 refine nx_ret1 rfl rfl fun wx hm => ?_
 exact ⟨ret_int (by unfold cmn; omega), hm.g⟩
theorem add_any (gs : Nat) (f : Int → Int) (j n : Int) (w : World) (hb : Blk w gs 42 (six f)) (hj : 0 ≤ j ∧ j ≤ 5) (hf : ∀ i, 0 ≤ f i ∧ f i ≤ 1000000000000000) (hn : 0 ≤ n ∧ n ≤ 6000000) :
  Calls Tryz.prog 170 #[.pointer (some ⟨gs, 0, none⟩), .int .i64 j, .int .i64 n] w (fun e w' => e = .returned (.tuple #[]) ∧ Blk w' gs 42 (six (fun i => if i = j then f i + n else f i)) ∧ w.grownBy w' (some gs)) := by
 refine gw_enter ⟨35, w, (some gs), []⟩ Tryz.func170 rfl Tryz.ntmps170 rfl (memR (X := []) (blkRow hb rfl) allF_nil allL_nil) ?_
 refine gw_seq ?_
 have hjc : j = 0 ∨ j = 1 ∨ j = 2 ∨ j = 3 ∨ j = 4 ∨ j = 5 := by omega
 have hf0 := hf 0
 have hf1 := hf 1
 have hf2 := hf 2
 have hf3 := hf 3
 have hf4 := hf 4
 have hf5 := hf 5
 rcases hjc with hjc | hjc | hjc | hjc | hjc | hjc
 ·subst hjc
  refine gd (fun wz => True) mixed (fun _ _ => trivial) fun z => ?_
  refine wt 0 23 1 rfl z (ov_move rfl) ?_
  refine wt 1 23 3 rfl z (ov_nilcheck rfl) ?_
  refine wt 2 23 7 rfl z (ov_field fo42_0 rfl rfl) ?_
  refine wt 3 23 15 rfl z (ov_move rfl) ?_
  refine wt 4 23 31 rfl z (ov_nilcheck rfl) ?_
  refine wt 5 23 63 rfl z (ov_field fo42_1 rfl rfl) ?_
  refine wt 6 23 127 rfl z (ov_move rfl) ?_
  refine wt 7 23 255 rfl z (ov_nilcheck rfl) ?_
  refine wt 8 23 511 rfl z (ov_field fo42_2 rfl rfl) ?_
  refine wt 9 23 1023 rfl z (ov_move rfl) ?_
  refine wt 10 23 2047 rfl z (ov_nilcheck rfl) ?_
  refine wt 11 23 4095 rfl z (ov_field fo42_3 rfl rfl) ?_
  refine wt 12 23 8191 rfl z (ov_move rfl) ?_
  refine wt 13 23 16383 rfl z (ov_nilcheck rfl) ?_
  refine wt 14 23 32767 rfl z (ov_field fo42_4 rfl rfl) ?_
  refine wt 15 23 65535 rfl z (ov_move rfl) ?_
  refine wt 16 23 131071 rfl z (ov_nilcheck rfl) ?_
  refine wt 17 23 262143 rfl z (ov_field fo42_5 rfl rfl) ?_
  refine wt 19 23 786431 rfl z (ov_move rfl) ?_
  refine wa1 18 rfl ?_
  refine wl_buildSlice (e := 329) (cs := [.pointer (some ⟨gs, 0, none⟩), .pointer (some ⟨gs, 1, none⟩), .pointer (some ⟨gs, 2, none⟩), .pointer (some ⟨gs, 3, none⟩), .pointer (some ⟨gs, 4, none⟩), .pointer (some ⟨gs, 5, none⟩)]) rfl (by kernel_rfl) rfl fun g1 => ?_
  refine wl_nil ?_
  refine nw 23 1048575 (fun _ _ => trivial) fun z => ?_
  refine wt 20 23 2097151 rfl z (ov_index (j := 0) es330 rfl rfl (by decide)) ?_
  refine wa1 21 rfl ?_
  refine lk_ sc329 0 rfl rfl rfl (wl_nil ?_)
  refine nw 23 4194303 (fun _ _ => trivial) fun z => ?_
  refine wt 22 23 8388607 rfl z (ov_assign rfl) ?_
  refine wa_done (by kernel_rfl) ?_
  refine nx_then (gw_region (mv_ rfl (wl_ov (ov_nilcheck rfl) rfl ?_)))
  refine wl_ov (ov_load (v := .int .i64 (f 0)) sc3 rfl (fun _ hm => (rowBlk hm.k)) rfl) rfl ?_
  refine mv_ rfl (ad_ rfl rfl (wl_ov (ov_nilcheck rfl) rfl ?_))
  refine wl_storeRow (l := [f 0, f 1, f 2, f 3, f 4, f 5]) (j := 0) (r := 0) (el := f 0) (el' := f 0 + n) rfl sc3 rfl rfl rfl it_len1 rfl rfl rfl (by decide) rfl rfl ?_
  refine wl_nil ?_
  refine nx_ret0 rfl fun wx hm => ?_
  exact ⟨rfl, (by have h := rowBlk hm.k; simpa [six, itEnc1] using h), hm.g⟩
 ·subst hjc
  refine gd (fun wz => True) mixed (fun _ _ => trivial) fun z => ?_
  refine wt 0 23 1 rfl z (ov_move rfl) ?_
  refine wt 1 23 3 rfl z (ov_nilcheck rfl) ?_
  refine wt 2 23 7 rfl z (ov_field fo42_0 rfl rfl) ?_
  refine wt 3 23 15 rfl z (ov_move rfl) ?_
  refine wt 4 23 31 rfl z (ov_nilcheck rfl) ?_
  refine wt 5 23 63 rfl z (ov_field fo42_1 rfl rfl) ?_
  refine wt 6 23 127 rfl z (ov_move rfl) ?_
  refine wt 7 23 255 rfl z (ov_nilcheck rfl) ?_
  refine wt 8 23 511 rfl z (ov_field fo42_2 rfl rfl) ?_
  refine wt 9 23 1023 rfl z (ov_move rfl) ?_
  refine wt 10 23 2047 rfl z (ov_nilcheck rfl) ?_
  refine wt 11 23 4095 rfl z (ov_field fo42_3 rfl rfl) ?_
  refine wt 12 23 8191 rfl z (ov_move rfl) ?_
  refine wt 13 23 16383 rfl z (ov_nilcheck rfl) ?_
  refine wt 14 23 32767 rfl z (ov_field fo42_4 rfl rfl) ?_
  refine wt 15 23 65535 rfl z (ov_move rfl) ?_
  refine wt 16 23 131071 rfl z (ov_nilcheck rfl) ?_
  refine wt 17 23 262143 rfl z (ov_field fo42_5 rfl rfl) ?_
  refine wt 19 23 786431 rfl z (ov_move rfl) ?_
  refine wa1 18 rfl ?_
  refine wl_buildSlice (e := 329) (cs := [.pointer (some ⟨gs, 0, none⟩), .pointer (some ⟨gs, 1, none⟩), .pointer (some ⟨gs, 2, none⟩), .pointer (some ⟨gs, 3, none⟩), .pointer (some ⟨gs, 4, none⟩), .pointer (some ⟨gs, 5, none⟩)]) rfl (by kernel_rfl) rfl fun g2 => ?_
  refine wl_nil ?_
  refine nw 23 1048575 (fun _ _ => trivial) fun z => ?_
  refine wt 20 23 2097151 rfl z (ov_index (j := 1) es330 rfl rfl (by decide)) ?_
  refine wa1 21 rfl ?_
  refine lk_ sc329 0 rfl rfl rfl (wl_nil ?_)
  refine nw 23 4194303 (fun _ _ => trivial) fun z => ?_
  refine wt 22 23 8388607 rfl z (ov_assign rfl) ?_
  refine wa_done (by kernel_rfl) ?_
  refine nx_then (gw_region (mv_ rfl (wl_ov (ov_nilcheck rfl) rfl ?_)))
  refine wl_ov (ov_load (v := .int .i64 (f 1)) sc3 rfl (fun _ hm => (rowBlk hm.k)) rfl) rfl ?_
  refine mv_ rfl (ad_ rfl rfl (wl_ov (ov_nilcheck rfl) rfl ?_))
  refine wl_storeRow (l := [f 0, f 1, f 2, f 3, f 4, f 5]) (j := 1) (r := 0) (el := f 1) (el' := f 1 + n) rfl sc3 rfl rfl rfl it_len1 rfl rfl rfl (by decide) rfl rfl ?_
  refine wl_nil ?_
  refine nx_ret0 rfl fun wx hm => ?_
  exact ⟨rfl, (by have h := rowBlk hm.k; simpa [six, itEnc1] using h), hm.g⟩
 ·subst hjc
  refine gd (fun wz => True) mixed (fun _ _ => trivial) fun z => ?_
  refine wt 0 23 1 rfl z (ov_move rfl) ?_
  refine wt 1 23 3 rfl z (ov_nilcheck rfl) ?_
  refine wt 2 23 7 rfl z (ov_field fo42_0 rfl rfl) ?_
  refine wt 3 23 15 rfl z (ov_move rfl) ?_
  refine wt 4 23 31 rfl z (ov_nilcheck rfl) ?_
  refine wt 5 23 63 rfl z (ov_field fo42_1 rfl rfl) ?_
  refine wt 6 23 127 rfl z (ov_move rfl) ?_
  refine wt 7 23 255 rfl z (ov_nilcheck rfl) ?_
  refine wt 8 23 511 rfl z (ov_field fo42_2 rfl rfl) ?_
  refine wt 9 23 1023 rfl z (ov_move rfl) ?_
  refine wt 10 23 2047 rfl z (ov_nilcheck rfl) ?_
  refine wt 11 23 4095 rfl z (ov_field fo42_3 rfl rfl) ?_
  refine wt 12 23 8191 rfl z (ov_move rfl) ?_
  refine wt 13 23 16383 rfl z (ov_nilcheck rfl) ?_
  refine wt 14 23 32767 rfl z (ov_field fo42_4 rfl rfl) ?_
  refine wt 15 23 65535 rfl z (ov_move rfl) ?_
  refine wt 16 23 131071 rfl z (ov_nilcheck rfl) ?_
  refine wt 17 23 262143 rfl z (ov_field fo42_5 rfl rfl) ?_
  refine wt 19 23 786431 rfl z (ov_move rfl) ?_
  refine wa1 18 rfl ?_
  refine wl_buildSlice (e := 329) (cs := [.pointer (some ⟨gs, 0, none⟩), .pointer (some ⟨gs, 1, none⟩), .pointer (some ⟨gs, 2, none⟩), .pointer (some ⟨gs, 3, none⟩), .pointer (some ⟨gs, 4, none⟩), .pointer (some ⟨gs, 5, none⟩)]) rfl (by kernel_rfl) rfl fun g3 => ?_
  refine wl_nil ?_
  refine nw 23 1048575 (fun _ _ => trivial) fun z => ?_
  refine wt 20 23 2097151 rfl z (ov_index (j := 2) es330 rfl rfl (by decide)) ?_
  refine wa1 21 rfl ?_
  refine lk_ sc329 0 rfl rfl rfl (wl_nil ?_)
  refine nw 23 4194303 (fun _ _ => trivial) fun z => ?_
  refine wt 22 23 8388607 rfl z (ov_assign rfl) ?_
  refine wa_done (by kernel_rfl) ?_
  refine nx_then (gw_region (mv_ rfl (wl_ov (ov_nilcheck rfl) rfl ?_)))
  refine wl_ov (ov_load (v := .int .i64 (f 2)) sc3 rfl (fun _ hm => (rowBlk hm.k)) rfl) rfl ?_
  refine mv_ rfl (ad_ rfl rfl (wl_ov (ov_nilcheck rfl) rfl ?_))
  refine wl_storeRow (l := [f 0, f 1, f 2, f 3, f 4, f 5]) (j := 2) (r := 0) (el := f 2) (el' := f 2 + n) rfl sc3 rfl rfl rfl it_len1 rfl rfl rfl (by decide) rfl rfl ?_
  refine wl_nil ?_
  refine nx_ret0 rfl fun wx hm => ?_
  exact ⟨rfl, (by have h := rowBlk hm.k; simpa [six, itEnc1] using h), hm.g⟩
 ·subst hjc
  refine gd (fun wz => True) mixed (fun _ _ => trivial) fun z => ?_
  refine wt 0 23 1 rfl z (ov_move rfl) ?_
  refine wt 1 23 3 rfl z (ov_nilcheck rfl) ?_
  refine wt 2 23 7 rfl z (ov_field fo42_0 rfl rfl) ?_
  refine wt 3 23 15 rfl z (ov_move rfl) ?_
  refine wt 4 23 31 rfl z (ov_nilcheck rfl) ?_
  refine wt 5 23 63 rfl z (ov_field fo42_1 rfl rfl) ?_
  refine wt 6 23 127 rfl z (ov_move rfl) ?_
  refine wt 7 23 255 rfl z (ov_nilcheck rfl) ?_
  refine wt 8 23 511 rfl z (ov_field fo42_2 rfl rfl) ?_
  refine wt 9 23 1023 rfl z (ov_move rfl) ?_
  refine wt 10 23 2047 rfl z (ov_nilcheck rfl) ?_
  refine wt 11 23 4095 rfl z (ov_field fo42_3 rfl rfl) ?_
  refine wt 12 23 8191 rfl z (ov_move rfl) ?_
  refine wt 13 23 16383 rfl z (ov_nilcheck rfl) ?_
  refine wt 14 23 32767 rfl z (ov_field fo42_4 rfl rfl) ?_
  refine wt 15 23 65535 rfl z (ov_move rfl) ?_
  refine wt 16 23 131071 rfl z (ov_nilcheck rfl) ?_
  refine wt 17 23 262143 rfl z (ov_field fo42_5 rfl rfl) ?_
  refine wt 19 23 786431 rfl z (ov_move rfl) ?_
  refine wa1 18 rfl ?_
  refine wl_buildSlice (e := 329) (cs := [.pointer (some ⟨gs, 0, none⟩), .pointer (some ⟨gs, 1, none⟩), .pointer (some ⟨gs, 2, none⟩), .pointer (some ⟨gs, 3, none⟩), .pointer (some ⟨gs, 4, none⟩), .pointer (some ⟨gs, 5, none⟩)]) rfl (by kernel_rfl) rfl fun g4 => ?_
  refine wl_nil ?_
  refine nw 23 1048575 (fun _ _ => trivial) fun z => ?_
  refine wt 20 23 2097151 rfl z (ov_index (j := 3) es330 rfl rfl (by decide)) ?_
  refine wa1 21 rfl ?_
  refine lk_ sc329 0 rfl rfl rfl (wl_nil ?_)
  refine nw 23 4194303 (fun _ _ => trivial) fun z => ?_
  refine wt 22 23 8388607 rfl z (ov_assign rfl) ?_
  refine wa_done (by kernel_rfl) ?_
  refine nx_then (gw_region (mv_ rfl (wl_ov (ov_nilcheck rfl) rfl ?_)))
  refine wl_ov (ov_load (v := .int .i64 (f 3)) sc3 rfl (fun _ hm => (rowBlk hm.k)) rfl) rfl ?_
  refine mv_ rfl (ad_ rfl rfl (wl_ov (ov_nilcheck rfl) rfl ?_))
  refine wl_storeRow (l := [f 0, f 1, f 2, f 3, f 4, f 5]) (j := 3) (r := 0) (el := f 3) (el' := f 3 + n) rfl sc3 rfl rfl rfl it_len1 rfl rfl rfl (by decide) rfl rfl ?_
  refine wl_nil ?_
  refine nx_ret0 rfl fun wx hm => ?_
  exact ⟨rfl, (by have h := rowBlk hm.k; simpa [six, itEnc1] using h), hm.g⟩
 ·subst hjc
  refine gd (fun wz => True) mixed (fun _ _ => trivial) fun z => ?_
  refine wt 0 23 1 rfl z (ov_move rfl) ?_
  refine wt 1 23 3 rfl z (ov_nilcheck rfl) ?_
  refine wt 2 23 7 rfl z (ov_field fo42_0 rfl rfl) ?_
  refine wt 3 23 15 rfl z (ov_move rfl) ?_
  refine wt 4 23 31 rfl z (ov_nilcheck rfl) ?_
  refine wt 5 23 63 rfl z (ov_field fo42_1 rfl rfl) ?_
  refine wt 6 23 127 rfl z (ov_move rfl) ?_
  refine wt 7 23 255 rfl z (ov_nilcheck rfl) ?_
  refine wt 8 23 511 rfl z (ov_field fo42_2 rfl rfl) ?_
  refine wt 9 23 1023 rfl z (ov_move rfl) ?_
  refine wt 10 23 2047 rfl z (ov_nilcheck rfl) ?_
  refine wt 11 23 4095 rfl z (ov_field fo42_3 rfl rfl) ?_
  refine wt 12 23 8191 rfl z (ov_move rfl) ?_
  refine wt 13 23 16383 rfl z (ov_nilcheck rfl) ?_
  refine wt 14 23 32767 rfl z (ov_field fo42_4 rfl rfl) ?_
  refine wt 15 23 65535 rfl z (ov_move rfl) ?_
  refine wt 16 23 131071 rfl z (ov_nilcheck rfl) ?_
  refine wt 17 23 262143 rfl z (ov_field fo42_5 rfl rfl) ?_
  refine wt 19 23 786431 rfl z (ov_move rfl) ?_
  refine wa1 18 rfl ?_
  refine wl_buildSlice (e := 329) (cs := [.pointer (some ⟨gs, 0, none⟩), .pointer (some ⟨gs, 1, none⟩), .pointer (some ⟨gs, 2, none⟩), .pointer (some ⟨gs, 3, none⟩), .pointer (some ⟨gs, 4, none⟩), .pointer (some ⟨gs, 5, none⟩)]) rfl (by kernel_rfl) rfl fun g5 => ?_
  refine wl_nil ?_
  refine nw 23 1048575 (fun _ _ => trivial) fun z => ?_
  refine wt 20 23 2097151 rfl z (ov_index (j := 4) es330 rfl rfl (by decide)) ?_
  refine wa1 21 rfl ?_
  refine lk_ sc329 0 rfl rfl rfl (wl_nil ?_)
  refine nw 23 4194303 (fun _ _ => trivial) fun z => ?_
  refine wt 22 23 8388607 rfl z (ov_assign rfl) ?_
  refine wa_done (by kernel_rfl) ?_
  refine nx_then (gw_region (mv_ rfl (wl_ov (ov_nilcheck rfl) rfl ?_)))
  refine wl_ov (ov_load (v := .int .i64 (f 4)) sc3 rfl (fun _ hm => (rowBlk hm.k)) rfl) rfl ?_
  refine mv_ rfl (ad_ rfl rfl (wl_ov (ov_nilcheck rfl) rfl ?_))
  refine wl_storeRow (l := [f 0, f 1, f 2, f 3, f 4, f 5]) (j := 4) (r := 0) (el := f 4) (el' := f 4 + n) rfl sc3 rfl rfl rfl it_len1 rfl rfl rfl (by decide) rfl rfl ?_
  refine wl_nil ?_
  refine nx_ret0 rfl fun wx hm => ?_
  exact ⟨rfl, (by have h := rowBlk hm.k; simpa [six, itEnc1] using h), hm.g⟩
 subst hjc
 refine gd (fun wz => True) mixed (fun _ _ => trivial) fun z => ?_
 refine wt 0 23 1 rfl z (ov_move rfl) ?_
 refine wt 1 23 3 rfl z (ov_nilcheck rfl) ?_
 refine wt 2 23 7 rfl z (ov_field fo42_0 rfl rfl) ?_
 refine wt 3 23 15 rfl z (ov_move rfl) ?_
 refine wt 4 23 31 rfl z (ov_nilcheck rfl) ?_
 refine wt 5 23 63 rfl z (ov_field fo42_1 rfl rfl) ?_
 refine wt 6 23 127 rfl z (ov_move rfl) ?_
 refine wt 7 23 255 rfl z (ov_nilcheck rfl) ?_
 refine wt 8 23 511 rfl z (ov_field fo42_2 rfl rfl) ?_
 refine wt 9 23 1023 rfl z (ov_move rfl) ?_
 refine wt 10 23 2047 rfl z (ov_nilcheck rfl) ?_
 refine wt 11 23 4095 rfl z (ov_field fo42_3 rfl rfl) ?_
 refine wt 12 23 8191 rfl z (ov_move rfl) ?_
 refine wt 13 23 16383 rfl z (ov_nilcheck rfl) ?_
 refine wt 14 23 32767 rfl z (ov_field fo42_4 rfl rfl) ?_
 refine wt 15 23 65535 rfl z (ov_move rfl) ?_
 refine wt 16 23 131071 rfl z (ov_nilcheck rfl) ?_
 refine wt 17 23 262143 rfl z (ov_field fo42_5 rfl rfl) ?_
 refine wt 19 23 786431 rfl z (ov_move rfl) ?_
 refine wa1 18 rfl ?_
 refine wl_buildSlice (e := 329) (cs := [.pointer (some ⟨gs, 0, none⟩), .pointer (some ⟨gs, 1, none⟩), .pointer (some ⟨gs, 2, none⟩), .pointer (some ⟨gs, 3, none⟩), .pointer (some ⟨gs, 4, none⟩), .pointer (some ⟨gs, 5, none⟩)]) rfl (by kernel_rfl) rfl fun g6 => ?_
 refine wl_nil ?_
 refine nw 23 1048575 (fun _ _ => trivial) fun z => ?_
 refine wt 20 23 2097151 rfl z (ov_index (j := 5) es330 rfl rfl (by decide)) ?_
 refine wa1 21 rfl ?_
 refine lk_ sc329 0 rfl rfl rfl (wl_nil ?_)
 refine nw 23 4194303 (fun _ _ => trivial) fun z => ?_
 refine wt 22 23 8388607 rfl z (ov_assign rfl) ?_
 refine wa_done (by kernel_rfl) ?_
 refine nx_then (gw_region (mv_ rfl (wl_ov (ov_nilcheck rfl) rfl ?_)))
 refine wl_ov (ov_load (v := .int .i64 (f 5)) sc3 rfl (fun _ hm => (rowBlk hm.k)) rfl) rfl ?_
 refine mv_ rfl (ad_ rfl rfl (wl_ov (ov_nilcheck rfl) rfl ?_))
 refine wl_storeRow (l := [f 0, f 1, f 2, f 3, f 4, f 5]) (j := 5) (r := 0) (el := f 5) (el' := f 5 + n) rfl sc3 rfl rfl rfl it_len1 rfl rfl rfl (by decide) rfl rfl ?_
 refine wl_nil ?_
 refine nx_ret0 rfl fun wx hm => ?_
 exact ⟨rfl, (by have h := rowBlk hm.k; simpa [six, itEnc1] using h), hm.g⟩
theorem spent_any (vl : List Vh) (sA cA vA pA : Option Addr) (sn sc cn cc vn vc pn pc : Nat) (el : List Ev) (eA : Option Addr) (en ec : Nat) (a b : Int) (w : World) (hv : SlT vhEnc 2 69 w vA vn vl) (hl : SlT evEnc 5 105 w eA en el) (heok : ∀ x ∈ el, EvOk x) (hveh : ∀ x ∈ el, 0 ≤ ixP (vhP x.veh) vl 0) (hrise : Rise vl) (ha0 : 0 ≤ a) (hab : a ≤ b) (hb0 : b ≤ 5761440) (hen : en ≤ 1000) (hvn : vn ≤ 1000) :
  Calls Tryz.prog 70 #[.agg #[.slice sA sn sc, .slice cA cn cc, .slice vA vn vc, .slice pA pn pc], .slice eA en ec, .agg #[.int .i64 a, .int .i64 b]] w (fun e w' => ∃ (m : Nat) (p : PMap) (H : ByteArray → Int → Int), e = .returned (.map (some m)) ∧ MapF encP 0 m p w' ∧ Fam 42 w.heap.size p H w' ∧ (∀ (k : Nat) (x : Vh), vl[k]? = some x → ∃ g, p x.key = some (some g)) ∧ (∀ k, p k ≠ none → ∃ x ∈ vl, x.key = k) ∧ (∀ (k : Nat) (x : Vh), vl[k]? = some x → ∀ j, H x.key j = spT a b el x.key j) ∧ w.grownBy w' none) := by
 refine gw_enter ⟨95, w, none, [42]⟩ Tryz.func70 rfl Tryz.ntmps70 rfl (mem0 (X := [SlOld vhEnc 2 69 w.heap.size none vA vn vl, SlOld evEnc 5 105 w.heap.size none eA en el]) (allF_cons hv.old (allF_cons hl.old allF_nil)) (allL_cons SlOld.lasts (allL_cons SlOld.lasts allL_nil))) ?_
 refine sr_ ?_
 have hlen := hv.len
 have hell := hl.len
 refine wl_box rfl rfl rfl fun g1 => ?_
 refine wl_box rfl rfl rfl fun g2 => ?_
 refine sg_ rfl (nn_ (sr_ ?_))
 refine wl_makeMapF (enc := encP) rfl fun g3 => ?_
 refine sg_ rfl (nn_ (sr_ ?_))
 refine wl_makeMapN (enc := encS) 0 rfl rfl fun g4 hne_g4 => ?_
 refine sg_ rfl (nn_ (gw_seq (sr_ (fd_ fo31_2 rfl rfl (lk_ sc28 1 rfl rfl rfl (wl_ov (ov_len es28 rfl) rfl (mv_ rfl (nn_ (gw_block ?_)))))))))
 refine gw_famNil (T := 42) (G := fun _ _ => 0) rfl ?_
 refine gw_loop (γ := Nat × PMap) (fun gg => gg.1 ≤ vn ∧ FamOk gg.2 g3 g4 ∧ (∀ (k : Nat) (x : Vh), vl[k]? = some x → k < gg.1 → ∃ g, gg.2 x.key = some (some g)) ∧ (∀ k, gg.2 k ≠ none → ∃ x ∈ vl, x.key = k)) (fun gg => [(1, .slice eA en ec), (3, .pointer (some ⟨g1, 0, none⟩)), (5, .pointer (some ⟨g2, 0, none⟩)), (6, .map none), (7, .map (some g3)), (8, .map (some g4)), (22, .slice vA vn vc), (23, .int .i64 ((vn : Nat) : Int)), (24, .int .i64 ((gg.1 : Nat) : Int))]) (fun gg => fun _ => True) (fun gg => [(g2, 39, [.int .i64 a, .int .i64 b]), (g1, 31, [.slice sA sn sc, .slice cA cn cc, .slice vA vn vc, .slice pA pn pc])]) (fun gg => []) (fun gg => [Fam 42 w.heap.size gg.2 (fun _ _ => 0), MapF encS w.heap.size g4 (fNil), MapF encP w.heap.size g3 (gg.2), SlOld vhEnc 2 69 w.heap.size none vA vn vl, SlOld evEnc 5 105 w.heap.size none eA en el]) (fun gg => vn - gg.1) (0, fNil) ⟨Nat.zero_le _, famOk_nil, (fun _ _ _ h => absurd h (Nat.not_lt_zero _)), (fun _ h => absurd rfl h)⟩ ⟨rfl, rfl, rfl, rfl, rfl, rfl, rfl, rfl, rfl, trivial⟩ (fun _ hm => hm.pick [0, 1] [] [0, 1, 2, 3, 4] rfl rfl) ?_
 rintro ⟨i, p⟩ hinv
 replace hinv : i ≤ vn ∧ FamOk p g3 g4 ∧ (∀ (k : Nat) (x : Vh), vl[k]? = some x → k < i → ∃ g, p x.key = some (some g)) ∧ (∀ k, p k ≠ none → ∃ x ∈ vl, x.key = k) := hinv
 dsimp only
 refine sr_ ?_
 obtain ⟨hi0, hok, hdom, hdin⟩ := hinv
 refine wl_ov (ov_lss rfl rfl) rfl (nn_ (gw_seq ?_))
 refine gw_cond rfl (fun hh => ?_) (fun hh => ?_)
 ·have hi : ((i : Nat) : Int) < ((vn : Nat) : Int) := by simpa using hh
  clear hh
  refine gw_skip (nx_then (gw_seq (gw_block (sr_ ?_))))
  obtain ⟨b0, off, hA, _, _⟩ := hv.get (by omega)
  subst hA
  obtain ⟨x, hx⟩ : ∃ x, vl[i]? = some x := ⟨_, List.getElem?_eq_getElem (by omega)⟩
  obtain ⟨vk, vc2⟩ := x
  refine wl_ov (ov_index (j := i) es28 rfl rfl (by omega)) rfl ?_
  refine wl_ov (ov_elem (vs := [.string vk, .string vc2]) rz69 rfl (fun _ hm => (hm.fact 3 rfl).1) hx rfl rfl) rfl ?_
  refine wl_alloc zc69 rfl fun g5 => ?_
  refine wl_stores (cs' := [.string vk, .string vc2]) 0 rz69 rfl rfl rfl rfl rfl rfl rfl rfl ?_
  refine nn_ (gw_region (mv_ rfl (fd_ fo69_0 rfl rfl (lk_ sc9 0 rfl rfl rfl ?_))))
  refine wl_ov (ov_build (cs := [.int .i64 0, .int .i64 0, .int .i64 0, .int .i64 0, .int .i64 0, .int .i64 0]) rfl (by kernel_rfl)) rfl ?_
  refine wl_boxN 0 2 1 rfl rfl rfl rfl rfl rfl fun g6 hfr_g6 hf1_g6 hf2_g6 => ?_
  refine wl_mapPut (enc := encP) (v := (some g6)) (k := 9) (e := 137) (X' := [Fam 42 w.heap.size p (fun _ _ => 0), MapF encS w.heap.size g4 (fNil), SlOld vhEnc 2 69 w.heap.size none (some ⟨b0, off, none⟩) vn vl, SlOld evEnc 5 105 w.heap.size none eA en el]) 2 (by kernel_rfl) (by kernel_rfl) rfl rfl rfl rfl (far_cons (i := 0) (Fam.far hok.ne1) rfl (far_cons (i := 1) (MapF.far hne_g4.symm) rfl (far_cons (i := 3) SlOld.far rfl (far_cons (i := 4) SlOld.far rfl far_nil)))) ?_
  refine wl_nil (nx_blk_nrm (nx_then (gw_region (ad_ rfl rfl (mv_ rfl (wl_nil ?_))))))
  refine nx_fam (k := vk) (g := g6) (p := p) (G := fun _ _ => 0) 0 1 rfl rfl rfl ?_
  exact nx_round (i + 1, fPut (p) vk (some g6)) ⟨by dsimp only; omega, hok.put hfr_g6 hf1_g6 hf2_g6, dom_put hdom hx, dom_in hdin hx⟩ (by dsimp only; omega) ⟨rfl, rfl, rfl, rfl, rfl, rfl, rfl, rfl, (some_int (by omega)), trivial⟩ (fun _ hm => hm.pick [2, 3] [] [0, 3, 1, 4, 5] rfl rfl)
 have hi : ¬ (((i : Nat) : Int) < ((vn : Nat) : Int)) := by simpa using hh
 clear hh
 refine gw_exit ?_
 refine nx_then_exit (nx_then_exit ?_)
 refine nx_blk_here ?_
 refine nx_then (gw_seq (sr_ ?_))
 have hdom : (∀ (k : Nat) (x : Vh), vl[k]? = some x → k < vl.length → ∃ g, p x.key = some (some g)) := fun k x hx hk => hdom k x hx (by omega)
 refine mv_ rfl (wl_ov (ov_len es32 rfl) rfl (mv_ rfl (nn_ (gw_block ?_))))
 refine gw_loop (γ := Nat × AMap × (ByteArray → Int → Int)) (fun gg => gg.1 ≤ en ∧ SpInv a b el (el.drop gg.1) (fun v => (gg.2.1 v).getD sa0) gg.2.2 ∧ (∀ u t, 0 ≤ gg.2.2 u t ∧ gg.2.2 u t ≤ ((gg.1 : Nat) : Int) * 6000000) ∧ CurS gg.2.1) (fun gg => [(3, .pointer (some ⟨g1, 0, none⟩)), (5, .pointer (some ⟨g2, 0, none⟩)), (6, .map none), (7, .map (some g3)), (8, .map (some g4)), (34, .slice eA en ec), (35, .int .i64 ((en : Nat) : Int)), (36, .int .i64 ((gg.1 : Nat) : Int))]) (fun gg => fun _ => True) (fun gg => [(g2, 39, [.int .i64 a, .int .i64 b]), (g1, 31, [.slice sA sn sc, .slice cA cn cc, .slice vA vn vc, .slice pA pn pc])]) (fun gg => []) (fun gg => [Fam 42 w.heap.size p gg.2.2, MapF encS w.heap.size g4 (gg.2.1), MapF encP w.heap.size g3 (p), SlOld vhEnc 2 69 w.heap.size none vA vn vl, SlOld evEnc 5 105 w.heap.size none eA en el]) (fun gg => en - gg.1) (0, fNil, (fun _ _ => 0)) ⟨Nat.zero_le _, sp_start, (fun _ _ => ⟨Int.le_refl _, by dsimp only; omega⟩), curS_nil⟩ ⟨rfl, rfl, rfl, rfl, rfl, rfl, rfl, rfl, trivial⟩ (fun _ hm => hm.pick [0, 1] [] [0, 1, 2, 3, 4] rfl rfl) ?_
 rintro ⟨i, F, G⟩ hinv
 replace hinv : i ≤ en ∧ SpInv a b el (el.drop i) (fun v => (F v).getD sa0) G ∧ (∀ u t, 0 ≤ G u t ∧ G u t ≤ ((i : Nat) : Int) * 6000000) ∧ CurS F := hinv
 dsimp only
 refine sr_ ?_
 obtain ⟨hi0, hsp, hGb, hcur⟩ := hinv
 refine wl_ov (ov_lss rfl rfl) rfl (nn_ (gw_seq ?_))
 refine gw_cond rfl (fun hh => ?_) (fun hh => ?_)
 ·have hi : ((i : Nat) : Int) < ((en : Nat) : Int) := by simpa using hh
  clear hh
  refine gw_skip (nx_then (gw_seq (gw_block (sr_ ?_))))
  obtain ⟨be, oe, hA, _, _⟩ := hl.get (by omega)
  subst hA
  obtain ⟨x, hx⟩ : ∃ x, el[i]? = some x := ⟨_, List.getElem?_eq_getElem (by omega)⟩
  obtain ⟨e0, e1, e2, e3, e4⟩ := x
  have hex := heok _ (List.mem_of_getElem? hx)
  obtain ⟨gv, hgv⟩ := dom_veh hdom (hveh _ (List.mem_of_getElem? hx))
  have hgv : p e1 = some (some gv) := hgv
  have he0 : -4000000000000000000 ≤ e0 ∧ e0 ≤ 4000000000000000000 := hex.1
  have hrest : el.drop i = (⟨e0, e1, e2, e3, e4⟩ : Ev) :: el.drop (i + 1) := by
   obtain ⟨h1, h2⟩ := List.getElem?_eq_some_iff.1 hx
   rw [← h2]; exact List.drop_eq_getElem_cons h1
  have hcr := hcur e1
  obtain ⟨S0, hS0⟩ : ∃ z, z = ((F) e1).getD sa0 := ⟨_, rfl⟩
  obtain ⟨s0, s1, s2⟩ := S0
  obtain ⟨T0, hT0⟩ : ∃ z, z = stepS ⟨s0, s1, s2⟩ (⟨e0, e1, e2, e3, e4⟩ : Ev) := ⟨_, rfl⟩
  obtain ⟨t0, t1, t2⟩ := T0
  rw [← hS0] at hcr
  dsimp only at hcr
  rw [hrest] at hsp
  have hFS : (F (⟨e0, e1, e2, e3, e4⟩ : Ev).veh).getD sa0 = ⟨s0, s1, s2⟩ := hS0.symm
  refine wl_ov (ov_index (j := i) es32 rfl rfl (by omega)) rfl ?_
  refine wl_ov (ov_elem (vs := [.int .i64 e0, .string e1, .string e2, .int .i64 e3, .string e4]) rz105 rfl (fun _ hm => (hm.fact 4 rfl).1) hx rfl rfl) rfl ?_
  refine wl_alloc zc105 rfl fun g7 => ?_
  refine wl_stores (cs' := [.int .i64 e0, .string e1, .string e2, .int .i64 e3, .string e4]) 0 rz105 rfl rfl rfl rfl rfl rfl rfl rfl ?_
  refine nn_ (sr_ (mv_ rfl (fd_ fo105_1 rfl rfl (lk_ sc9 0 rfl rfl rfl ?_))))
  refine wl_ov (ov_lookF (enc := encS) (k := 9) (e := 142) sa0 (by kernel_rfl) (by kernel_rfl) (by kernel_rfl) rfl rfl (fun _ hm => (hm.fact 1 rfl))) rfl ?_
  refine wl_set 43 (v' := .agg #[.int .i64 s0, .string s1, .int .i64 s2]) rfl (congrArg encS hS0.symm) ?_
  refine wl_alloc zc142 rfl fun g8 => ?_
  refine wl_stores (cs' := [.int .i64 s0, .string s1, .int .i64 s2]) 0 rz142 rfl rfl rfl rfl rfl rfl rfl rfl ?_
  refine nn_ (sr_ ?_)
  refine wl_ov (ov_loads rz142 rfl (fun _ hm => hm.blkI 0 rfl) rfl rfl) rfl ?_
  refine wl_ov (ov_loads rz105 rfl (fun _ hm => hm.blkI 1 rfl) rfl rfl) rfl ?_
  refine wl_callv (v := .tuple #[.agg #[.int .i64 t0, .string t1, .int .i64 t2], .bool (goodB ⟨s0, s1, s2⟩ (⟨e0, e1, e2, e3, e4⟩ : Ev))]) rfl cb72 rfl rfl (fun wx hm => (by have h := follow_any s0 s1 s2 e0 e1 e2 e3 e4 wx; rw [← hT0] at h; exact h)) ?_
  refine mv_ rfl (wl_ov (ov_extract rfl rfl) rfl (wl_ov (ov_extract rfl rfl) rfl ?_))
  refine wl_alloc zc142 rfl fun g9 => ?_
  refine wl_stores (cs' := [.int .i64 t0, .string t1, .int .i64 t2]) 0 rz142 rfl rfl rfl rfl rfl rfl rfl rfl ?_
  refine sg_ rfl (nn_ (sr_ (mv_ rfl (nn_ ?_))))
  refine gw_cond rfl (fun hh => ?_) (fun hh => ?_)
  ·have hg : (goodB ⟨s0, s1, s2⟩ (⟨e0, e1, e2, e3, e4⟩ : Ev)) = true := by simpa using hh
   clear hh
   refine gw_seq ?_
   have hcb := cmn_bd (c := s2) (d := e0) hab
   have hsp2 := sp_good hsp (show goodB ((F (⟨e0, e1, e2, e3, e4⟩ : Ev).veh).getD sa0) (⟨e0, e1, e2, e3, e4⟩ : Ev) = true by rw [hFS]; exact hg)
   rw [hFS] at hsp2
   dsimp only at hsp2
   have hT : nextS (⟨e0, e1, e2, e3, e4⟩ : Ev) = ⟨t0, t1, t2⟩ := by
    have h := hT0
    unfold stepS at h
    rw [if_pos hg] at h; exact h.symm
   have hcu2 := hcur.put (k := e1) hex
   rw [hT] at hsp2 hcu2
   have hgb2 := gPut_bd (v := e1) (j := s0) hGb hcb.1 (show cmn a b s2 e0 ≤ 6000000 by omega)
   refine gd (fun wz => Blk wz g9 142 [.int .i64 t0, .string t1, .int .i64 t2] ∧ Blk wz g8 142 [.int .i64 s0, .string s1, .int .i64 s2] ∧ Blk wz g7 105 [.int .i64 e0, .string e1, .string e2, .int .i64 e3, .string e4] ∧ Blk wz g2 39 [.int .i64 a, .int .i64 b] ∧ Blk wz g1 31 [.slice sA sn sc, .slice cA cn cc, .slice vA vn vc, .slice pA pn pc] ∧ (MapF encS w.heap.size g4 (F)) wz ∧ (MapF encP w.heap.size g3 (p)) wz ∧ (SlOld vhEnc 2 69 w.heap.size none vA vn vl) wz ∧ (SlOld evEnc 5 105 w.heap.size none (some ⟨be, oe, none⟩) en el) wz ∧ True) mixed (fun _ hm => ⟨hm.bl 0, hm.bl 1, hm.bl 2, hm.bl 3, hm.bl 4, hm.fa 1, hm.fa 2, hm.fa 3, hm.fa 4, trivial⟩) fun z => ?_
   refine wt 0 14 1 rfl z (ov_move rfl) ?_
   refine wt 1 14 3 rfl z (ov_field fo105_1 rfl rfl) ?_
   refine wt 2 14 7 rfl z (ov_load sc9 rfl (fun _ hm => hm.2.2.1) rfl) ?_
   refine wt 3 14 15 rfl z (ov_lookF (enc := encP) (k := 9) (e := 137) none (by kernel_rfl) (by kernel_rfl) (by kernel_rfl) rfl rfl (fun _ hm => (hm.2.2.2.2.2.2.1))) ?_
   refine wa_set 54 (v' := .pointer (some ⟨gv, 0, none⟩)) rfl ((show encP ((p e1).getD none) = .pointer (some ⟨gv, 0, none⟩) by rw [hgv]; rfl)) ?_
   refine wt 4 14 31 rfl z (ov_field fo142_0 rfl rfl) ?_
   refine wt 5 14 63 rfl z (ov_load sc3 rfl (fun _ hm => hm.2.1) rfl) ?_
   refine wt 6 14 127 rfl z (ov_loads rz39 rfl (fun _ hm => hm.2.2.2.1) rfl rfl) ?_
   refine wt 7 14 255 rfl z (ov_field fo142_2 rfl rfl) ?_
   refine wt 8 14 511 rfl z (ov_load sc3 rfl (fun _ hm => hm.2.1) rfl) ?_
   refine wt 9 14 1023 rfl z (ov_field fo105_0 rfl rfl) ?_
   refine wt 10 14 2047 rfl z (ov_load sc3 rfl (fun _ hm => hm.2.2.1) rfl) ?_
   refine wt 11 14 4095 rfl z (ov_build (cs := [.int .i64 s2, .int .i64 e0]) rfl (by kernel_rfl)) ?_
   refine wa1 12 rfl ?_
   refine wl_callv rfl cb171 rfl rfl (fun wx hm => (lotCommon_any a b s2 e0 wx (by omega) (by omega) (by omega) (by omega))) ?_
   refine wl_nil ?_
   refine nw 14 8191 (fun _ hm => ⟨hm.bl 0, hm.bl 1, hm.bl 2, hm.bl 3, hm.bl 4, hm.fa 1, hm.fa 2, hm.fa 3, hm.fa 4, trivial⟩) fun z => ?_
   refine wa1 13 rfl ?_
   refine wl_famAdd (T := 42) (p := p) (G := G) (k := e1) (g := gv) (j := s0) (n := (cmn a b s2 e0)) (X' := [MapF encS w.heap.size g4 (F), MapF encP w.heap.size g3 (p), SlOld vhEnc 2 69 w.heap.size none vA vn vl, SlOld evEnc 5 105 w.heap.size none (some ⟨be, oe, none⟩) en el]) 0 rfl hgv hok.inj rfl rfl rfl rfl cb170 rfl rfl (fun wx hm hb => add_any gv (G e1) s0 (cmn a b s2 e0) wx hb (by omega) (fun t => by have h := hGb e1 t; omega) (by omega)) (far_cons (i := 1) (MapF.far (show g4 ≠ gv from fun e => hok.ne2 e1 (hgv.trans (by rw [e])))) rfl (far_cons (i := 2) (MapF.far (show g3 ≠ gv from fun e => hok.ne1 e1 (hgv.trans (by rw [e])))) rfl (far_cons (i := 3) SlOld.far rfl (far_cons (i := 4) SlOld.far rfl far_nil)))) ?_
   refine wl_nil ?_
   refine nw 14 16383 (fun _ hm => ⟨hm.bl 0, hm.bl 1, hm.bl 2, hm.bl 3, hm.bl 4, hm.fa 1, hm.fa 2, hm.fa 3, hm.fa 4, trivial⟩) fun z => ?_
   refine wa_done (by kernel_rfl) ?_
   refine nx_then (gw_region (mv_ rfl (fd_ fo105_1 rfl rfl (lk_ sc9 2 rfl rfl rfl ?_))))
   refine wl_ov (ov_loads rz142 rfl (fun _ hm => hm.blkI 0 rfl) rfl rfl) rfl ?_
   refine wl_mapPut (enc := encS) (v := (⟨t0, t1, t2⟩ : Sa)) (k := 9) (e := 142) (X' := [Fam 42 w.heap.size p (gPut G e1 s0 (cmn a b s2 e0)), MapF encP w.heap.size g3 (p), SlOld vhEnc 2 69 w.heap.size none vA vn vl, SlOld evEnc 5 105 w.heap.size none (some ⟨be, oe, none⟩) en el]) 1 (by kernel_rfl) (by kernel_rfl) rfl rfl rfl rfl (far_cons (i := 0) (Fam.far hok.ne2) rfl (far_cons (i := 2) (MapF.far hne_g4) rfl (far_cons (i := 3) SlOld.far rfl (far_cons (i := 4) SlOld.far rfl far_nil)))) ?_
   refine wl_nil (nx_blk_nrm (nx_then (gw_region (ad_ rfl rfl (mv_ rfl (wl_nil ?_))))))
   exact nx_round (i + 1, fPut (F) e1 (⟨t0, t1, t2⟩ : Sa), gPut G e1 s0 (cmn a b s2 e0)) ⟨by dsimp only; omega, hsp2, (fun u t => by have h := hgb2 u t; dsimp only; omega), hcu2⟩ (by dsimp only; omega) ⟨rfl, rfl, rfl, rfl, rfl, rfl, rfl, (some_int (by omega)), trivial⟩ (fun _ hm => hm.pick [3, 4] [] [1, 0, 2, 3, 4] rfl rfl)
  have hg : (goodB ⟨s0, s1, s2⟩ (⟨e0, e1, e2, e3, e4⟩ : Ev)) = false := by simpa using hh
  clear hh
  refine gw_skip (nx_blk_nrm (nx_then (gw_region ?_)))
  have hsp2 := sp_bad hsp (show ¬ goodB ((F (⟨e0, e1, e2, e3, e4⟩ : Ev).veh).getD sa0) (⟨e0, e1, e2, e3, e4⟩ : Ev) = true by rw [hFS, hg]; decide)
  refine ad_ rfl rfl (mv_ rfl (wl_nil ?_))
  exact nx_round (i + 1, F, G) ⟨by dsimp only; omega, hsp2, (fun u t => by have h := hGb u t; dsimp only; omega), hcur⟩ (by dsimp only; omega) ⟨rfl, rfl, rfl, rfl, rfl, rfl, rfl, (some_int (by omega)), trivial⟩ (fun _ hm => hm.pick [3, 4] [] [0, 1, 2, 3, 4] rfl rfl)
 have hi : ¬ (((i : Nat) : Int) < ((en : Nat) : Int)) := by simpa using hh
 clear hh
 refine gw_exit ?_
 refine nx_then_exit (nx_then_exit ?_)
 refine nx_blk_here ?_
 refine nx_then (gw_seq (sr_ ?_))
 have hse := sp_turn (vl := vl) (show SpInv a b el [] (fun v => (F v).getD sa0) G by rw [List.drop_eq_nil_of_le (by omega)] at hsp; exact hsp)
 refine fd_ fo31_2 rfl rfl (lk_ sc28 1 rfl rfl rfl (wl_ov (ov_len es28 rfl) rfl (mv_ rfl (nn_ (gw_block ?_)))))
 refine gw_loop (γ := Nat × (ByteArray → Int → Int)) (fun gg => gg.1 ≤ vn ∧ SpEnd a b el vl gg.1 (fun v => (F v).getD sa0) gg.2 ∧ (∀ u t, 0 ≤ gg.2 u t ∧ gg.2 u t ≤ ((1000 + gg.1 : Nat) : Int) * 6000000)) (fun gg => [(5, .pointer (some ⟨g2, 0, none⟩)), (6, .map none), (7, .map (some g3)), (8, .map (some g4)), (71, .slice vA vn vc), (72, .int .i64 ((vn : Nat) : Int)), (73, .int .i64 ((gg.1 : Nat) : Int))]) (fun gg => fun _ => True) (fun gg => [(g2, 39, [.int .i64 a, .int .i64 b]), (g1, 31, [.slice sA sn sc, .slice cA cn cc, .slice vA vn vc, .slice pA pn pc])]) (fun gg => []) (fun gg => [Fam 42 w.heap.size p gg.2, MapF encS w.heap.size g4 (F), MapF encP w.heap.size g3 (p), SlOld vhEnc 2 69 w.heap.size none vA vn vl, SlOld evEnc 5 105 w.heap.size none eA en el]) (fun gg => vn - gg.1) (0, G) ⟨Nat.zero_le _, hse, (fun u t => by have h := hGb u t; dsimp only; omega)⟩ ⟨rfl, rfl, rfl, rfl, rfl, rfl, rfl, trivial⟩ (fun _ hm => hm.pick [0, 1] [] [0, 1, 2, 3, 4] rfl rfl) ?_
 rintro ⟨q, H⟩ hinv
 replace hinv : q ≤ vn ∧ SpEnd a b el vl q (fun v => (F v).getD sa0) H ∧ (∀ u t, 0 ≤ H u t ∧ H u t ≤ ((1000 + q : Nat) : Int) * 6000000) := hinv
 dsimp only
 refine sr_ ?_
 obtain ⟨hq0, hse, hGb⟩ := hinv
 refine wl_ov (ov_lss rfl rfl) rfl (nn_ (gw_seq ?_))
 refine gw_cond rfl (fun hh => ?_) (fun hh => ?_)
 ·have hq : ((q : Nat) : Int) < ((vn : Nat) : Int) := by simpa using hh
  clear hh
  refine gw_skip (nx_then (gw_seq (gw_block (sr_ ?_))))
  obtain ⟨b3, o3, hA, _, _⟩ := hv.get (by omega)
  subst hA
  obtain ⟨x, hx⟩ : ∃ x, vl[q]? = some x := ⟨_, List.getElem?_eq_getElem (by omega)⟩
  obtain ⟨vk, vc2⟩ := x
  obtain ⟨gv, hgv⟩ := hdom q _ hx (by omega)
  have hgv : p vk = some (some gv) := hgv
  have hcr := hcur vk
  obtain ⟨S0, hS0⟩ : ∃ z, z = (F vk).getD sa0 := ⟨_, rfl⟩
  obtain ⟨s0, s1, s2⟩ := S0
  rw [← hS0] at hcr
  dsimp only at hcr
  have hcb := cmn_bd (c := s2) (d := 5761440) hab
  have hse2 := sp_next hse hrise hx
  dsimp only at hse2
  rw [← hS0] at hse2
  dsimp only at hse2
  have hgb2 := gPut_bd (v := vk) (j := s0) hGb hcb.1 (show cmn a b s2 5761440 ≤ 6000000 by omega)
  refine wl_ov (ov_index (j := q) es28 rfl rfl (by omega)) rfl ?_
  refine wl_ov (ov_elem (vs := [.string vk, .string vc2]) rz69 rfl (fun _ hm => (hm.fact 3 rfl).1) hx rfl rfl) rfl ?_
  refine wl_alloc zc69 rfl fun g10 => ?_
  refine wl_stores (cs' := [.string vk, .string vc2]) 0 rz69 rfl rfl rfl rfl rfl rfl rfl rfl ?_
  refine nn_ (sr_ (mv_ rfl (fd_ fo69_0 rfl rfl (lk_ sc9 0 rfl rfl rfl ?_))))
  refine wl_ov (ov_lookF (enc := encS) (k := 9) (e := 142) sa0 (by kernel_rfl) (by kernel_rfl) (by kernel_rfl) rfl rfl (fun _ hm => (hm.fact 1 rfl))) rfl ?_
  refine wl_set 80 (v' := .agg #[.int .i64 s0, .string s1, .int .i64 s2]) rfl (congrArg encS hS0.symm) ?_
  refine wl_alloc zc142 rfl fun g11 => ?_
  refine wl_stores (cs' := [.int .i64 s0, .string s1, .int .i64 s2]) 0 rz142 rfl rfl rfl rfl rfl rfl rfl rfl ?_
  refine nn_ ?_
  refine gd (fun wz => Blk wz g11 142 [.int .i64 s0, .string s1, .int .i64 s2] ∧ Blk wz g10 69 [.string vk, .string vc2] ∧ Blk wz g2 39 [.int .i64 a, .int .i64 b] ∧ Blk wz g1 31 [.slice sA sn sc, .slice cA cn cc, .slice (some ⟨b3, o3, none⟩) vn vc, .slice pA pn pc] ∧ (MapF encS w.heap.size g4 (F)) wz ∧ (MapF encP w.heap.size g3 (p)) wz ∧ (SlOld vhEnc 2 69 w.heap.size none (some ⟨b3, o3, none⟩) vn vl) wz ∧ (SlOld evEnc 5 105 w.heap.size none eA en el) wz ∧ True) mixed (fun _ hm => ⟨hm.bl 0, hm.bl 1, hm.bl 2, hm.bl 3, hm.fa 1, hm.fa 2, hm.fa 3, hm.fa 4, trivial⟩) fun z => ?_
  refine wt 0 12 1 rfl z (ov_move rfl) ?_
  refine wt 1 12 3 rfl z (ov_field fo69_0 rfl rfl) ?_
  refine wt 2 12 7 rfl z (ov_load sc9 rfl (fun _ hm => hm.2.1) rfl) ?_
  refine wt 3 12 15 rfl z (ov_lookF (enc := encP) (k := 9) (e := 137) none (by kernel_rfl) (by kernel_rfl) (by kernel_rfl) rfl rfl (fun _ hm => (hm.2.2.2.2.2.1))) ?_
  refine wa_set 84 (v' := .pointer (some ⟨gv, 0, none⟩)) rfl ((show encP ((p vk).getD none) = .pointer (some ⟨gv, 0, none⟩) by rw [hgv]; rfl)) ?_
  refine wt 4 12 31 rfl z (ov_field fo142_0 rfl rfl) ?_
  refine wt 5 12 63 rfl z (ov_load sc3 rfl (fun _ hm => hm.1) rfl) ?_
  refine wt 6 12 127 rfl z (ov_loads rz39 rfl (fun _ hm => hm.2.2.1) rfl rfl) ?_
  refine wt 7 12 255 rfl z (ov_field fo142_2 rfl rfl) ?_
  refine wt 8 12 511 rfl z (ov_load sc3 rfl (fun _ hm => hm.1) rfl) ?_
  refine wt 9 12 1023 rfl z (ov_build (cs := [.int .i64 s2, .int .i64 5761440]) rfl (by kernel_rfl)) ?_
  refine wa1 10 rfl ?_
  refine wl_callv rfl cb171 rfl rfl (fun wx hm => (lotCommon_any a b s2 5761440 wx (by omega) (by omega) (by omega) (by omega))) ?_
  refine wl_nil ?_
  refine nw 12 2047 (fun _ hm => ⟨hm.bl 0, hm.bl 1, hm.bl 2, hm.bl 3, hm.fa 1, hm.fa 2, hm.fa 3, hm.fa 4, trivial⟩) fun z => ?_
  refine wa1 11 rfl ?_
  refine wl_famAdd (T := 42) (p := p) (G := H) (k := vk) (g := gv) (j := s0) (n := (cmn a b s2 5761440)) (X' := [MapF encS w.heap.size g4 (F), MapF encP w.heap.size g3 (p), SlOld vhEnc 2 69 w.heap.size none (some ⟨b3, o3, none⟩) vn vl, SlOld evEnc 5 105 w.heap.size none eA en el]) 0 rfl hgv hok.inj rfl rfl rfl rfl cb170 rfl rfl (fun wx hm hb => add_any gv (H vk) s0 (cmn a b s2 5761440) wx hb (by omega) (fun t => by have h := hGb vk t; omega) (by omega)) (far_cons (i := 1) (MapF.far (show g4 ≠ gv from fun e => hok.ne2 vk (hgv.trans (by rw [e])))) rfl (far_cons (i := 2) (MapF.far (show g3 ≠ gv from fun e => hok.ne1 vk (hgv.trans (by rw [e])))) rfl (far_cons (i := 3) SlOld.far rfl (far_cons (i := 4) SlOld.far rfl far_nil)))) ?_
  refine wl_nil ?_
  refine nw 12 4095 (fun _ hm => ⟨hm.bl 0, hm.bl 1, hm.bl 2, hm.bl 3, hm.fa 1, hm.fa 2, hm.fa 3, hm.fa 4, trivial⟩) fun z => ?_
  refine wa_done (by kernel_rfl) ?_
  refine nx_blk_nrm (nx_then (gw_region (ad_ rfl rfl (mv_ rfl (wl_nil ?_)))))
  exact nx_round (q + 1, gPut H vk s0 (cmn a b s2 5761440)) ⟨by dsimp only; omega, hse2, (fun u t => by have h := hgb2 u t; dsimp only; omega)⟩ (by dsimp only; omega) ⟨rfl, rfl, rfl, rfl, rfl, rfl, (some_int (by omega)), trivial⟩ (fun _ hm => hm.pick [2, 3] [] [0, 1, 2, 3, 4] rfl rfl)
 have hq : ¬ (((q : Nat) : Int) < ((vn : Nat) : Int)) := by simpa using hh
 clear hh
 refine gw_exit ?_
 refine nx_then_exit (nx_then_exit ?_)
 refine nx_blk_here ?_
 refine nx_then (sr_ ?_)
 obtain rfl : q = vl.length := by omega
 refine mv_ rfl (sg_ rfl (nn_ ?_))
 refine gw_ret ?_
 refine nx_ret1 rfl rfl fun wx hm => ?_
 exact ⟨g3, p, H, rfl, ((hm.fact 2 rfl)).lower (Nat.zero_le _), (hm.fact 0 rfl), (fun k x hx => hdom k x hx (List.getElem?_eq_some_iff.1 hx).1), hdin, (fun k x hx j => sp_done hse hx j), hm.g⟩
end Go.Proofs.YtdoooppeiphefaaGreatDoor
namespace Go.Proofs.YtdoooppeiphefaaGreatDoor
open Go.RowKit
theorem spT_bd {a b : Int} {el : List Ev} {v : ByteArray} {j : Int} (h : a ≤ b) (hb : b - a ≤ 6000000) (hl : el.length ≤ 1000) : 0 ≤ spT a b el v j ∧ spT a b el v j ≤ 6006000000 := by
  have h1 := stT_bd (j := j) h hb (stages el v)
  have h2 : (stages el v).length ≤ el.length + 1 := Nat.succ_le_succ stgs_len
  unfold spT
  omega
end Go.Proofs.YtdoooppeiphefaaGreatDoor
namespace Go.Proofs.YtdoooppeiphefaaGreatDoor
open Go.RowKit
def tpE (sl : List St) (cl : List Cs) (vl : List Vh) (pl : List Pl) (el : List Ev) (vk : ByteArray) : Int := firstE [evsE sl cl vl pl el, whenE (decide (ixP (vhP vk) vl 0 < 0)) 8]
theorem trips_any (sl : List St) (cl : List Cs) (vl : List Vh) (pl : List Pl) (sA cA vA pA : Option Addr) (sn sc cn cc vn vc pn pc : Nat) (el : List Ev) (eA : Option Addr) (en ec : Nat) (vk : ByteArray) (w : World) (hs : SlT stEnc 15 156 w sA sn sl) (hc : SlT csEnc 2 158 w cA cn cl) (hv : SlT vhEnc 2 69 w vA vn vl) (hp : SlT plEnc 3 164 w pA pn pl) (hsok : ∀ x ∈ sl, StOk x) (hcok : ∀ x ∈ cl, CsOk x) (hvok : ∀ x ∈ vl, VhOk x) (hpok : ∀ x ∈ pl, PlOk x) (hsn : sn ≤ 1000) (hcn : cn ≤ 1000) (hvn : vn ≤ 1000) (hpn : pn ≤ 1000) (hl : SlT evEnc 5 105 w eA en el) (heok : ∀ x ∈ el, EvOk x) (hen : en ≤ 100000) (hen2 : en ≤ 1000) :
  Calls Tryz.prog 15 #[.agg #[.slice sA sn sc, .slice cA cn cc, .slice vA vn vc, .slice pA pn pc], .slice eA en ec, .string vk] w (fun e w' => ∃ (A : Option Addr) (k c : Nat), e = .returned (.tuple #[.slice A k c, .int .i64 (tpE sl cl vl pl el vk)]) ∧ (tpE sl cl vl pl el vk = 0 → SlT trEnc 4 61 w' A k (tripsR el vk)) ∧ (tpE sl cl vl pl el vk ≠ 0 → A = none ∧ k = 0 ∧ c = 0) ∧ w.grownBy w' none) := by
 refine gw_enter ⟨79, w, none, []⟩ Tryz.func15 rfl Tryz.ntmps15 rfl (mem0 (X := [SlOld stEnc 15 156 w.heap.size none sA sn sl, SlOld csEnc 2 158 w.heap.size none cA cn cl, SlOld vhEnc 2 69 w.heap.size none vA vn vl, SlOld plEnc 3 164 w.heap.size none pA pn pl, SlOld evEnc 5 105 w.heap.size none eA en el]) (allF_cons hs.old (allF_cons hc.old (allF_cons hv.old (allF_cons hp.old (allF_cons hl.old allF_nil))))) (allL_cons SlOld.lasts (allL_cons SlOld.lasts (allL_cons SlOld.lasts (allL_cons SlOld.lasts (allL_cons SlOld.lasts allL_nil)))))) ?_
 refine sr_ ?_
 have hell := hl.len
 obtain ⟨FE, hFE⟩ : ∃ z, z = evsE sl cl vl pl el := ⟨_, rfl⟩
 obtain ⟨TE, hTE⟩ : ∃ z, z = tpE sl cl vl pl el vk := ⟨_, rfl⟩
 rw [← hTE]
 have hT0 : TE = firstE [FE, whenE (decide (ixP (vhP vk) vl 0 < 0)) 8] := by rw [hTE, hFE]; rfl
 obtain ⟨R, hR⟩ : ∃ z, z = tripsR el vk := ⟨_, rfl⟩
 rw [← hR]
 have hR0 : trP vk el sa0 [] = R := by rw [hR]; exact trips_eq el
 refine wl_box rfl rfl rfl fun g1 => ?_
 refine sg_ rfl (sg_ rfl (nn_ (gw_seq (sr_ ?_))))
 refine wl_ov (ov_loads rz31 rfl (fun _ hm => hm.blkI 0 rfl) rfl rfl) rfl ?_
 refine mv_ rfl ?_
 refine wl_callv (v := .int .i64 FE) rfl cb42 rfl rfl (fun wx hm => (by rw [hFE]; exact check2_any sl cl vl pl sA cA vA pA sn sc cn cc vn vc pn pc el eA en ec wx (hm.fact 0 rfl).1 (hm.fact 1 rfl).1 (hm.fact 2 rfl).1 (hm.fact 3 rfl).1 hsok hcok hvok hpok hsn hcn hvn hpn (hm.fact 4 rfl).1 heok (by omega))) ?_
 refine sg_ rfl (nn_ (sr_ (mv_ rfl (wl_ov (ov_neq rfl rfl) rfl (nn_ ?_)))))
 refine gw_cond rfl (fun hh => ?_) (fun hh => ?_)
 ·have h1 : ¬ (FE = 0) := by simpa using hh
  clear hh
  refine sr_ ?_
  have h2 : FE ≠ 0 := by simpa using h1
  have h3 : TE = FE := by rw [hT0]; exact fe_hd h2
  refine mv_ rfl (sg_ rfl (sg_ rfl (nn_ ?_)))
  refine gw_ret ?_
  refine nx_then_ret ?_
  refine nx_ret2 rfl rfl rfl fun wx hm => ?_
  exact ⟨none, 0, 0, by rw [h3], fun h => absurd h (by rw [h3]; exact h2), fun _ => ⟨rfl, rfl, rfl⟩, hm.g⟩
 have h1 : FE = 0 := by simpa using hh
 clear hh
 refine gw_skip (nx_then (gw_seq (sr_ ?_)))
 have h2 : FE = 0 := by simpa using h1
 have hrise : Rise vl := fleet_rise (evs_ok (hFE.symm.trans h2)).1
 have hT1 : TE = whenE (decide (ixP (vhP vk) vl 0 < 0)) 8 := by rw [hT0, h2]; exact fe_right
 refine wl_ov (ov_loads rz31 rfl (fun _ hm => hm.blkI 0 rfl) rfl rfl) rfl ?_
 refine mv_ rfl ?_
 refine wl_callv rfl cb68 rfl rfl (fun wx hm => (vehicleAt_any vl sA cA vA pA sn sc cn cc vn vc pn pc vk wx (hm.fact 2 rfl).1 (by omega) hrise)) ?_
 refine wl_ov (ov_lss rfl rfl) rfl (nn_ ?_)
 refine gw_cond rfl (fun hh => ?_) (fun hh => ?_)
 ·have h3 : ixP (vhP vk) vl 0 < 0 := by simpa using hh
  clear hh
  refine sr_ ?_
  have h4 : TE = 8 := by rw [hT1, decide_eq_true (show ixP (vhP vk) vl 0 < 0 by omega)]; rfl
  refine sg_ rfl (sg_ rfl (nn_ ?_))
  refine gw_ret ?_
  refine nx_then_ret ?_
  refine nx_ret2 rfl rfl rfl fun wx hm => ?_
  exact ⟨none, 0, 0, by rw [h4], fun h => absurd h (by rw [h4]; decide), fun _ => ⟨rfl, rfl, rfl⟩, hm.g⟩
 have h3 : ¬ (ixP (vhP vk) vl 0 < 0) := by simpa using hh
 clear hh
 refine gw_skip (nx_then (sr_ ?_))
 have h4 : TE = 0 := by rw [hT1, decide_eq_false (show ¬ ixP (vhP vk) vl 0 < 0 by omega)]; rfl
 refine wl_nilOwn 61 4 ?_
 refine sg_ rfl (nn_ (sr_ ?_))
 refine wl_alloc zc142 rfl fun g2 => ?_
 refine nn_ (gw_seq (sr_ (mv_ rfl (wl_ov (ov_len es32 rfl) rfl (mv_ rfl (nn_ (gw_block ?_)))))))
 refine gw_loop (γ := Nat × Int × ByteArray × Int × Nat × Option Addr × Nat × List Tr) (fun gg => gg.1 ≤ en ∧ gg.2.2.2.2.1 ≤ gg.1 ∧ gg.2.2.2.2.2.2.2.length = gg.2.2.2.2.1 ∧ trP vk (el.drop gg.1) ⟨gg.2.1, gg.2.2.1, gg.2.2.2.1⟩ gg.2.2.2.2.2.2.2 = R ∧ (gg.2.1 = 2 → 1 ≤ gg.2.2.2.2.1)) (fun gg => [(2, .string vk), (6, .slice none 0 0), (7, .int .i64 0), (9, .slice gg.2.2.2.2.2.1 gg.2.2.2.2.1 gg.2.2.2.2.2.2.1), (10, .pointer (some ⟨g2, 0, none⟩)), (26, .slice eA en ec), (27, .int .i64 ((en : Nat) : Int)), (28, .int .i64 ((gg.1 : Nat) : Int))]) (fun gg => fun _ => True) (fun gg => [(g2, 142, [.int .i64 gg.2.1, .string gg.2.2.1, .int .i64 gg.2.2.2.1]), (g1, 31, [.slice sA sn sc, .slice cA cn cc, .slice vA vn vc, .slice pA pn pc])]) (fun gg => [⟨.slice gg.2.2.2.2.2.1 gg.2.2.2.2.1 gg.2.2.2.2.2.2.1, 61, 4, gg.2.2.2.2.1, gg.2.2.2.2.2.2.2.flatMap trEnc⟩]) (fun gg => [SlOld stEnc 15 156 w.heap.size none sA sn sl, SlOld csEnc 2 158 w.heap.size none cA cn cl, SlOld vhEnc 2 69 w.heap.size none vA vn vl, SlOld plEnc 3 164 w.heap.size none pA pn pl, SlOld evEnc 5 105 w.heap.size none eA en el]) (fun gg => en - gg.1) (0, 0, ⟨#[]⟩, 0, 0, none, 0, []) ⟨Nat.zero_le _, Nat.le_refl _, rfl, hR0, (fun h => by cases h)⟩ ⟨rfl, rfl, rfl, rfl, rfl, rfl, rfl, rfl, trivial⟩ (fun _ hm => hm.pick [0, 1] [0] [0, 1, 2, 3, 4] rfl rfl) ?_
 rintro ⟨i, q0, q1, q2, k, oA, oc, ol⟩ hinv
 replace hinv : i ≤ en ∧ k ≤ i ∧ ol.length = k ∧ trP vk (el.drop i) ⟨q0, q1, q2⟩ ol = R ∧ (q0 = 2 → 1 ≤ k) := hinv
 dsimp only
 refine sr_ ?_
 obtain ⟨hi0, hki, hol, hRR, hq2⟩ := hinv
 refine wl_ov (ov_lss rfl rfl) rfl (nn_ (gw_seq ?_))
 refine gw_cond rfl (fun hh => ?_) (fun hh => ?_)
 ·have hi : ((i : Nat) : Int) < ((en : Nat) : Int) := by simpa using hh
  clear hh
  refine gw_skip (nx_then (gw_seq (gw_block (sr_ ?_))))
  obtain ⟨be, oe, hA, _, _⟩ := hl.get (by omega)
  subst hA
  obtain ⟨x, hx⟩ : ∃ x, el[i]? = some x := ⟨_, List.getElem?_eq_getElem (by omega)⟩
  obtain ⟨e0, e1, e2, e3, e4⟩ := x
  rw [trP_at hx] at hRR
  refine wl_ov (ov_index (j := i) es32 rfl rfl (by omega)) rfl ?_
  refine wl_ov (ov_elem (vs := [.int .i64 e0, .string e1, .string e2, .int .i64 e3, .string e4]) rz105 rfl (fun _ hm => (hm.fact 4 rfl).1) hx rfl rfl) rfl ?_
  refine wl_alloc zc105 rfl fun g3 => ?_
  refine wl_stores (cs' := [.int .i64 e0, .string e1, .string e2, .int .i64 e3, .string e4]) 0 rz105 rfl rfl rfl rfl rfl rfl rfl rfl ?_
  refine nn_ (gw_seq (sr_ (fd_ fo105_1 rfl rfl (lk_ sc9 0 rfl rfl rfl (mv_ rfl (wl_ov (ov_sneq rfl rfl) rfl (nn_ ?_)))))))
  refine gw_cond rfl (fun hh => ?_) (fun hh => ?_)
  ·have hv : (e1.toList == vk.toList) = false := by simpa using hh
   clear hh
   refine gw_exit ?_
   refine nx_then_exit ?_
   refine nx_blk_here ?_
   refine nx_then (gw_region ?_)
   rw [trP_skip hv] at hRR
   refine ad_ rfl rfl (mv_ rfl (wl_nil ?_))
   exact nx_round (i + 1, q0, q1, q2, k, oA, oc, ol) ⟨by dsimp only; omega, by dsimp only; omega, hol, hRR, hq2⟩ (by dsimp only; omega) ⟨rfl, rfl, rfl, rfl, rfl, rfl, rfl, (some_int (by omega)), trivial⟩ (fun _ hm => hm.pick [1, 2] [0] [0, 1, 2, 3, 4] rfl rfl)
  have hv : (e1.toList == vk.toList) = true := by simpa using hh
  clear hh
  refine gw_skip (nx_then (sr_ ?_))
  obtain ⟨T0, hT0⟩ : ∃ z, z = stepS ⟨q0, q1, q2⟩ (⟨e0, e1, e2, e3, e4⟩ : Ev) := ⟨_, rfl⟩
  obtain ⟨t0, t1, t2⟩ := T0
  refine wl_ov (ov_loads rz142 rfl (fun _ hm => hm.blkI 1 rfl) rfl rfl) rfl ?_
  refine wl_ov (ov_loads rz105 rfl (fun _ hm => hm.blkI 0 rfl) rfl rfl) rfl ?_
  refine wl_callv (v := .tuple #[.agg #[.int .i64 t0, .string t1, .int .i64 t2], .bool (goodB ⟨q0, q1, q2⟩ (⟨e0, e1, e2, e3, e4⟩ : Ev))]) rfl cb72 rfl rfl (fun wx hm => (by have h := follow_any q0 q1 q2 e0 e1 e2 e3 e4 wx; rw [← hT0] at h; exact h)) ?_
  refine mv_ rfl (wl_ov (ov_extract rfl rfl) rfl (wl_ov (ov_extract rfl rfl) rfl ?_))
  refine wl_alloc zc142 rfl fun g4 => ?_
  refine wl_stores (cs' := [.int .i64 t0, .string t1, .int .i64 t2]) 0 rz142 rfl rfl rfl rfl rfl rfl rfl rfl ?_
  refine sg_ rfl (nn_ (gw_seq (gw_block (sr_ (mv_ rfl (wl_ov (ov_un_not rfl) rfl (sg_ rfl (nn_ ?_))))))))
  refine gw_cond rfl (fun hh => ?_) (fun hh => ?_)
  ·have hg : (goodB ⟨q0, q1, q2⟩ (⟨e0, e1, e2, e3, e4⟩ : Ev)) = false := by simpa using hh
   clear hh
   refine gw_skip (nx_blk_nrm (nx_then (gw_region ?_)))
   rw [trP_bad hv hg, ← hT0] at hRR
   have hqq : t0 = 2 → 1 ≤ k := fun e => hq2 (by have h := hT0; unfold stepS at h; rw [if_neg (by rw [hg]; decide)] at h; injection h with h _ _; omega)
   refine wl_ov (ov_loads rz142 rfl (fun _ hm => hm.blkI 0 rfl) rfl rfl) rfl ?_
   refine wl_stores (cs' := [.int .i64 t0, .string t1, .int .i64 t2]) 2 rz142 rfl rfl rfl rfl rfl rfl rfl rfl ?_
   refine wl_nil (nx_blk_nrm (nx_then (gw_region (ad_ rfl rfl (mv_ rfl (wl_nil ?_))))))
   exact nx_round (i + 1, t0, t1, t2, k, oA, oc, ol) ⟨by dsimp only; omega, by dsimp only; omega, hol, hRR, hqq⟩ (by dsimp only; omega) ⟨rfl, rfl, rfl, rfl, rfl, rfl, rfl, (some_int (by omega)), trivial⟩ (fun _ hm => hm.pick [2, 3] [0] [0, 1, 2, 3, 4] rfl rfl)
  have hg : (goodB ⟨q0, q1, q2⟩ (⟨e0, e1, e2, e3, e4⟩ : Ev)) = true := by simpa using hh
  clear hh
  refine sr_ (fd_ fo105_3 rfl rfl (lk_ sc3 1 rfl rfl rfl (wl_ov (ov_eql rfl rfl) rfl (sg_ rfl (nn_ ?_)))))
  refine gw_cond rfl (fun hh => ?_) (fun hh => ?_)
  ·have hk2 : e3 = 2 := by simpa using hh
   clear hh
   refine gw_region ?_
   rw [trP_two hv hg (show e3 = 2 by omega), ← hT0] at hRR
   dsimp only at hRR
   refine mv_ rfl (fd_ fo105_0 rfl rfl (lk_ sc3 1 rfl rfl rfl (fd_ fo105_2 rfl rfl (lk_ sc9 1 rfl rfl rfl ?_))))
   refine wl_ov (ov_build (cs := [.int .i64 e0, .int .i64 (-1), .string e2, .string ⟨#[]⟩]) rfl (by kernel_rfl)) rfl ?_
   refine wl_buildSlice (e := 61) (cs := [.int .i64 e0, .int .i64 (-1), .string e2, .string ⟨#[]⟩]) rfl (by kernel_rfl) rfl fun g5 => ?_
   refine wl_append (news := [.int .i64 e0, .int .i64 (-1), .string e2, .string ⟨#[]⟩]) 0 0 ap49 rfl rfl rfl rfl rfl rfl rfl (by omega) (by unfold maxLen; omega) rfl rfl fun v2 hv2 => ?_
   refine wl_look (R := ∃ A cc, v2 = .slice A (k + 1) cc) (fun wx hm => own_slice (hm.ownI 0 rfl)) ?_
   rintro ⟨A3, c3, rfl⟩
   have hxs : ol.flatMap trEnc ++ ([.int .i64 e0, .int .i64 (-1), .string e2, .string ⟨#[]⟩] : List Value) = (ol ++ [(⟨e0, -1, e2, ⟨#[]⟩⟩ : Tr)]).flatMap trEnc := by simp [trEnc]
   rw [hxs]
   refine sg_ rfl (wl_nil (nx_blk_nrm (nx_then (gw_region ?_))))
   refine wl_ov (ov_loads rz142 rfl (fun _ hm => hm.blkI 1 rfl) rfl rfl) rfl ?_
   refine wl_stores (cs' := [.int .i64 t0, .string t1, .int .i64 t2]) 3 rz142 rfl rfl rfl rfl rfl rfl rfl rfl ?_
   refine wl_nil (nx_blk_nrm (nx_then (gw_region (ad_ rfl rfl (mv_ rfl (wl_nil ?_))))))
   exact nx_round (i + 1, t0, t1, t2, k + 1, A3, c3, ol ++ [(⟨e0, -1, e2, ⟨#[]⟩⟩ : Tr)]) ⟨by dsimp only; omega, by dsimp only; omega, by simp [hol], hRR, (fun _ => by dsimp only; omega)⟩ (by dsimp only; omega) ⟨rfl, rfl, rfl, rfl, rfl, rfl, rfl, (some_int (by omega)), trivial⟩ (fun _ hm => hm.pick [3, 4] [0] [0, 1, 2, 3, 4] rfl rfl)
  have hk2 : ¬ (e3 = 2) := by simpa using hh
  clear hh
  refine sr_ (fd_ fo105_3 rfl rfl (lk_ sc3 1 rfl rfl rfl (wl_ov (ov_eql rfl rfl) rfl (sg_ rfl (nn_ ?_)))))
  refine gw_cond rfl (fun hh => ?_) (fun hh => ?_)
  ·have hk3 : e3 = 3 := by simpa using hh
   clear hh
   refine sr_ ?_
   have hk1 : 1 ≤ k := hq2 (good_three hg (show e3 = 3 by omega)).1
   obtain ⟨rr, hlast⟩ : ∃ z, ol[k - 1]? = some z := ⟨_, List.getElem?_eq_getElem (by omega)⟩
   obtain ⟨r0, r1, r2, r3⟩ := rr
   rw [trP_three hv hg (show e3 = 3 by omega) (by rw [hol]; exact hlast), ← hT0, hol] at hRR
   dsimp only at hRR
   have hk2 : k - 1 < k := by omega
   refine wl_look (R := ∃ g, oA = some ⟨g, 0, none⟩) (fun wx hm => own_addr (hm.ownI 0 rfl) (by omega)) ?_
   rintro ⟨bo, rfl⟩
   refine mv_ rfl (mv_ rfl (wl_ov (ov_len es49 rfl) rfl ?_))
   refine wl_ov (ov_sub rfl rfl (by omega) (by omega)) rfl ?_
   refine wl_set 64 (v' := .int .i64 (((k - 1) : Nat) : Int)) rfl (congrArg (Value.int .i64) (by omega)) ?_
   refine wl_ov (ov_index (j := (k - 1)) es49 rfl rfl (by omega)) rfl ?_
   refine sg_ rfl (nn_ ?_)
   refine gd (fun wz => Blk wz g4 142 [.int .i64 t0, .string t1, .int .i64 t2] ∧ Blk wz g3 105 [.int .i64 e0, .string e1, .string e2, .int .i64 e3, .string e4] ∧ Blk wz g2 142 [.int .i64 q0, .string q1, .int .i64 q2] ∧ Blk wz g1 31 [.slice sA sn sc, .slice cA cn cc, .slice vA vn vc, .slice pA pn pc] ∧ (SlOld stEnc 15 156 w.heap.size none sA sn sl) wz ∧ (SlOld csEnc 2 158 w.heap.size none cA cn cl) wz ∧ (SlOld vhEnc 2 69 w.heap.size none vA vn vl) wz ∧ (SlOld plEnc 3 164 w.heap.size none pA pn pl) wz ∧ (SlOld evEnc 5 105 w.heap.size none (some ⟨be, oe, none⟩) en el) wz ∧ True) mixed (fun _ hm => ⟨hm.bl 0, hm.bl 1, hm.bl 2, hm.bl 3, hm.fa 0, hm.fa 1, hm.fa 2, hm.fa 3, hm.fa 4, trivial⟩) fun z => ?_
   refine wt 0 12 1 rfl z (ov_move rfl) ?_
   refine wt 1 12 3 rfl z (ov_move rfl) ?_
   refine wt 2 12 7 rfl z (ov_field fo105_0 rfl rfl) ?_
   refine wt 3 12 15 rfl z (ov_load sc3 rfl (fun _ hm => hm.2.1) rfl) ?_
   refine wt 4 12 31 rfl z (ov_field fo105_2 rfl rfl) ?_
   refine wt 5 12 63 rfl z (ov_load sc9 rfl (fun _ hm => hm.2.1) rfl) ?_
   refine wt 6 12 127 rfl z (ov_nilcheck rfl) ?_
   refine wt 7 12 255 rfl z (ov_field fo61_1 rfl rfl) ?_
   refine wa1 8 rfl ?_
   refine wl_storeE (l := ol) (j := (k - 1)) (r := 1) (el := ⟨r0, r1, r2, r3⟩) (el' := ⟨r0, e0, r2, r3⟩) 0 sc3 rfl rfl rfl rfl tr_len rfl hlast hol (by decide) rfl rfl ?_
   refine wl_nil ?_
   refine nw 12 511 (fun _ hm => ⟨hm.bl 0, hm.bl 1, hm.bl 2, hm.bl 3, hm.fa 0, hm.fa 1, hm.fa 2, hm.fa 3, hm.fa 4, trivial⟩) fun z => ?_
   refine wt 9 12 1023 rfl z (ov_nilcheck rfl) ?_
   refine wt 10 12 2047 rfl z (ov_field fo61_3 rfl rfl) ?_
   refine wa1 11 rfl ?_
   refine wl_storeE (l := (ol.set (k - 1) ⟨r0, e0, r2, r3⟩)) (j := (k - 1)) (r := 3) (el := ⟨r0, e0, r2, r3⟩) (el' := ⟨r0, e0, r2, e2⟩) 0 sc9 rfl rfl rfl rfl tr_len rfl (by rw [List.getElem?_set_self (by omega)]) (by rw [List.length_set]; exact hol) (by decide) rfl rfl ?_
   refine wl_nil ?_
   refine nw 12 4095 (fun _ hm => ⟨hm.bl 0, hm.bl 1, hm.bl 2, hm.bl 3, hm.fa 0, hm.fa 1, hm.fa 2, hm.fa 3, hm.fa 4, trivial⟩) fun z => ?_
   refine wa_done (by kernel_rfl) ?_
   refine nx_blk_nrm (nx_then (gw_region ?_))
   refine wl_ov (ov_loads rz142 rfl (fun _ hm => hm.blkI 0 rfl) rfl rfl) rfl ?_
   refine wl_stores (cs' := [.int .i64 t0, .string t1, .int .i64 t2]) 2 rz142 rfl rfl rfl rfl rfl rfl rfl rfl ?_
   refine wl_nil (nx_blk_nrm (nx_then (gw_region (ad_ rfl rfl (mv_ rfl (wl_nil ?_))))))
   have hss : ((ol.set (k - 1) ⟨r0, e0, r2, r3⟩).set (k - 1) ⟨r0, e0, r2, e2⟩).flatMap trEnc = (ol.set (k - 1) ⟨r0, e0, r2, e2⟩).flatMap trEnc := by rw [List.set_set]
   rw [hss]
   exact nx_round (i + 1, t0, t1, t2, k, some ⟨bo, 0, none⟩, oc, ol.set (k - 1) ⟨r0, e0, r2, e2⟩) ⟨by dsimp only; omega, by dsimp only; omega, by simp [hol], hRR, fun _ => hk1⟩ (by dsimp only; omega) ⟨rfl, rfl, rfl, rfl, rfl, rfl, rfl, (some_int (by omega)), trivial⟩ (fun _ hm => hm.pick [2, 3] [0] [0, 1, 2, 3, 4] rfl rfl)
  have hk3 : ¬ (e3 = 3) := by simpa using hh
  clear hh
  refine gw_skip (nx_blk_nrm (nx_then (gw_region ?_)))
  rw [trP_more hv hg (show e3 ≠ 2 by omega) (show e3 ≠ 3 by omega), ← hT0] at hRR
  have hqq : t0 = 2 → 1 ≤ k := fun e => by
   have h := (good_more hg (show e3 ≠ 2 by omega) (show e3 ≠ 3 by omega)).2
   rw [← step_good hg, ← hT0] at h
   exact absurd e h
  refine wl_ov (ov_loads rz142 rfl (fun _ hm => hm.blkI 0 rfl) rfl rfl) rfl ?_
  refine wl_stores (cs' := [.int .i64 t0, .string t1, .int .i64 t2]) 2 rz142 rfl rfl rfl rfl rfl rfl rfl rfl ?_
  refine wl_nil (nx_blk_nrm (nx_then (gw_region (ad_ rfl rfl (mv_ rfl (wl_nil ?_))))))
  exact nx_round (i + 1, t0, t1, t2, k, oA, oc, ol) ⟨by dsimp only; omega, by dsimp only; omega, hol, hRR, hqq⟩ (by dsimp only; omega) ⟨rfl, rfl, rfl, rfl, rfl, rfl, rfl, (some_int (by omega)), trivial⟩ (fun _ hm => hm.pick [2, 3] [0] [0, 1, 2, 3, 4] rfl rfl)
 have hi : ¬ (((i : Nat) : Int) < ((en : Nat) : Int)) := by simpa using hh
 clear hh
 refine gw_exit ?_
 refine nx_then_exit (nx_then_exit ?_)
 refine nx_blk_here ?_
 refine nx_then (sr_ ?_)
 have hall : ol = R := by rw [List.drop_eq_nil_of_le (by omega)] at hRR; exact hRR
 refine mv_ rfl (sg_ rfl (sg_ rfl (nn_ ?_)))
 refine gw_ret ?_
 refine nx_ret2 rfl rfl rfl fun wx hm => ?_
 exact ⟨oA, k, oc, by rw [h4], fun _ => by rw [← hall]; exact SlT.ofOwn tr_len (hm.ownI 0 rfl) hol, fun h => absurd h4 h, hm.g⟩
end Go.Proofs.YtdoooppeiphefaaGreatDoor
namespace Go.Proofs.YtdoooppeiphefaaGreatDoor
open Go.RowKit
def siE (sl : List St) (cl : List Cs) (vl : List Vh) (pl : List Pl) (el : List Ev) (vk : ByteArray) (a b : Int) : Int := firstE [evsE sl cl vl pl el, whenE (decide (ixP (vhP vk) vl 0 < 0)) 8, windowE a b]
theorem veh_at {vl : List Vh} {k : ByteArray} (h : 0 ≤ ixP (vhP k) vl 0) : ∃ (i : Nat) (y : Vh), vl[i]? = some y ∧ y.key = k := by
  obtain ⟨y, hy, hp⟩ := ixP_get h
  exact ⟨_, y, hy, bytes_eqb.1 hp⟩
theorem spentIn_any (sl : List St) (cl : List Cs) (vl : List Vh) (pl : List Pl) (sA cA vA pA : Option Addr) (sn sc cn cc vn vc pn pc : Nat) (el : List Ev) (eA : Option Addr) (en ec : Nat) (vk : ByteArray) (a b : Int) (w : World) (hs : SlT stEnc 15 156 w sA sn sl) (hc : SlT csEnc 2 158 w cA cn cl) (hv : SlT vhEnc 2 69 w vA vn vl) (hp : SlT plEnc 3 164 w pA pn pl) (hsok : ∀ x ∈ sl, StOk x) (hcok : ∀ x ∈ cl, CsOk x) (hvok : ∀ x ∈ vl, VhOk x) (hpok : ∀ x ∈ pl, PlOk x) (hsn : sn ≤ 1000) (hcn : cn ≤ 1000) (hvn : vn ≤ 1000) (hpn : pn ≤ 1000) (hl : SlT evEnc 5 105 w eA en el) (heok : ∀ x ∈ el, EvOk x) (hen : en ≤ 100000) (hen2 : en ≤ 1000) :
  Calls Tryz.prog 13 #[.agg #[.slice sA sn sc, .slice cA cn cc, .slice vA vn vc, .slice pA pn pc], .slice eA en ec, .string vk, .agg #[.int .i64 a, .int .i64 b]] w (fun e w' => (siE sl cl vl pl el vk a b = 0 → e = .returned (.tuple #[.agg #[.int .i64 (spT a b el vk 0), .int .i64 (spT a b el vk 1), .int .i64 (spT a b el vk 2), .int .i64 (spT a b el vk 3), .int .i64 (spT a b el vk 4), .int .i64 (spT a b el vk 5)], .int .i64 0])) ∧ (siE sl cl vl pl el vk a b ≠ 0 → e = .returned (.tuple #[.agg #[.int .i64 0, .int .i64 0, .int .i64 0, .int .i64 0, .int .i64 0, .int .i64 0], .int .i64 (siE sl cl vl pl el vk a b)])) ∧ w.grownBy w' none) := by
 refine gw_enter ⟨40, w, none, []⟩ Tryz.func13 rfl Tryz.ntmps13 rfl (mem0 (X := [SlOld stEnc 15 156 w.heap.size none sA sn sl, SlOld csEnc 2 158 w.heap.size none cA cn cl, SlOld vhEnc 2 69 w.heap.size none vA vn vl, SlOld plEnc 3 164 w.heap.size none pA pn pl, SlOld evEnc 5 105 w.heap.size none eA en el]) (allF_cons hs.old (allF_cons hc.old (allF_cons hv.old (allF_cons hp.old (allF_cons hl.old allF_nil))))) (allL_cons SlOld.lasts (allL_cons SlOld.lasts (allL_cons SlOld.lasts (allL_cons SlOld.lasts (allL_cons SlOld.lasts allL_nil)))))) ?_
 refine sr_ ?_
 obtain ⟨FE, hFE⟩ : ∃ z, z = evsE sl cl vl pl el := ⟨_, rfl⟩
 obtain ⟨TE, hTE⟩ : ∃ z, z = siE sl cl vl pl el vk a b := ⟨_, rfl⟩
 rw [← hTE]
 have hT0 : TE = firstE [FE, whenE (decide (ixP (vhP vk) vl 0 < 0)) 8, windowE a b] := by rw [hTE, hFE]; rfl
 refine wl_box rfl rfl rfl fun g1 => ?_
 refine wl_box rfl rfl rfl fun g2 => ?_
 refine wl_alloc zc42 rfl fun g3 => ?_
 refine sg_ rfl (nn_ (gw_seq (sr_ ?_)))
 refine wl_ov (ov_loads rz31 rfl (fun _ hm => hm.blkI 2 rfl) rfl rfl) rfl ?_
 refine mv_ rfl ?_
 refine wl_callv (v := .int .i64 FE) rfl cb42 rfl rfl (fun wx hm => (by rw [hFE]; exact check2_any sl cl vl pl sA cA vA pA sn sc cn cc vn vc pn pc el eA en ec wx (hm.fact 0 rfl).1 (hm.fact 1 rfl).1 (hm.fact 2 rfl).1 (hm.fact 3 rfl).1 hsok hcok hvok hpok hsn hcn hvn hpn (hm.fact 4 rfl).1 heok (by omega))) ?_
 refine sg_ rfl (nn_ (sr_ (mv_ rfl (wl_ov (ov_neq rfl rfl) rfl (nn_ ?_)))))
 refine gw_cond rfl (fun hh => ?_) (fun hh => ?_)
 ·have h1 : ¬ (FE = 0) := by simpa using hh
  clear hh
  refine sr_ ?_
  have h2 : FE ≠ 0 := by simpa using h1
  have h3 : TE = FE := by rw [hT0]; exact fe_hd h2
  refine wl_ov (ov_build (cs := [.int .i64 0, .int .i64 0, .int .i64 0, .int .i64 0, .int .i64 0, .int .i64 0]) rfl (by kernel_rfl)) rfl ?_
  refine mv_ rfl ?_
  refine wl_stores (cs' := [.int .i64 0, .int .i64 0, .int .i64 0, .int .i64 0, .int .i64 0, .int .i64 0]) 0 rz42 rfl rfl rfl rfl rfl rfl rfl rfl ?_
  refine sg_ rfl (nn_ ?_)
  refine gw_ret ?_
  refine nx_then_ret ?_
  refine nx_retct 0 rfl rz42 rfl rfl rfl rfl fun wx hm => ?_
  exact ⟨fun h => absurd h (by rw [h3]; exact h2), fun _ => by rw [h3], hm.g⟩
 have h1 : FE = 0 := by simpa using hh
 clear hh
 refine gw_skip (nx_then (gw_seq (gw_seq ?_)))
 have h2 : FE = 0 := by simpa using h1
 obtain ⟨hf0, hl0⟩ := evs_ok (hFE.symm.trans h2)
 obtain ⟨_, hfine, _⟩ := log_ok hl0
 have hrise : Rise vl := fleet_rise hf0
 have hT1 : TE = firstE [whenE (decide (ixP (vhP vk) vl 0 < 0)) 8, windowE a b] := by rw [hT0, h2]; exact fe_tl
 refine gd (fun wz => Blk wz g3 42 [.int .i64 0, .int .i64 0, .int .i64 0, .int .i64 0, .int .i64 0, .int .i64 0] ∧ Blk wz g2 39 [.int .i64 a, .int .i64 b] ∧ Blk wz g1 31 [.slice sA sn sc, .slice cA cn cc, .slice vA vn vc, .slice pA pn pc] ∧ (SlOld stEnc 15 156 w.heap.size none sA sn sl) wz ∧ (SlOld csEnc 2 158 w.heap.size none cA cn cl) wz ∧ (SlOld vhEnc 2 69 w.heap.size none vA vn vl) wz ∧ (SlOld plEnc 3 164 w.heap.size none pA pn pl) wz ∧ (SlOld evEnc 5 105 w.heap.size none eA en el) wz ∧ True) mixed (fun _ hm => ⟨hm.bl 0, hm.bl 1, hm.bl 2, hm.fa 0, hm.fa 1, hm.fa 2, hm.fa 3, hm.fa 4, trivial⟩) fun z => ?_
 refine wt 0 10 1 rfl z (ov_loads rz31 rfl (fun _ hm => hm.2.2.1) rfl rfl) ?_
 refine wt 1 10 3 rfl z (ov_move rfl) ?_
 refine wt 5 10 35 rfl z (ov_loads rz39 rfl (fun _ hm => hm.2.1) rfl rfl) ?_
 refine wa1 2 rfl ?_
 refine wl_callv rfl cb68 rfl rfl (fun wx hm => (vehicleAt_any vl sA cA vA pA sn sc cn cc vn vc pn pc vk wx (hm.fact 2 rfl).1 (by omega) hrise)) ?_
 refine wl_nil ?_
 refine nw 10 39 (fun _ hm => ⟨hm.bl 0, hm.bl 1, hm.bl 2, hm.fa 0, hm.fa 1, hm.fa 2, hm.fa 3, hm.fa 4, trivial⟩) fun z => ?_
 refine wt 3 10 47 rfl z (ov_lss rfl rfl) ?_
 refine wa1 4 rfl ?_
 refine wl_callw rfl cb67 rfl rfl (fun wx hm => (when_any _ _ wx)) ?_
 refine wl_nil ?_
 refine nw 10 63 (fun _ hm => ⟨hm.bl 0, hm.bl 1, hm.bl 2, hm.fa 0, hm.fa 1, hm.fa 2, hm.fa 3, hm.fa 4, trivial⟩) fun z => ?_
 refine wa1 6 rfl ?_
 refine wl_callv rfl cb69 rfl rfl (fun wx hm => (window_any _ _ wx)) ?_
 refine wl_nil ?_
 refine nw 10 127 (fun _ hm => ⟨hm.bl 0, hm.bl 1, hm.bl 2, hm.fa 0, hm.fa 1, hm.fa 2, hm.fa 3, hm.fa 4, trivial⟩) fun z => ?_
 refine wa1 7 rfl ?_
 refine wl_buildSlice (e := 33) (cs := [.int .i64 (whenE (decide (ixP (vhP vk) vl 0 < 0)) 8), .int .i64 (windowE a b)]) rfl (by kernel_rfl) rfl fun g4 => ?_
 refine wl_nil ?_
 refine nw 10 255 (fun _ hm => ⟨hm.bl 1, hm.bl 2, hm.bl 3, hm.fa 0, hm.fa 1, hm.fa 2, hm.fa 3, hm.fa 4, trivial⟩) fun z => ?_
 refine wa1 8 rfl ?_
 refine wl_callw rfl cb66 rfl rfl (fun wx hm => (first_any [whenE (decide (ixP (vhP vk) vl 0 < 0)) 8, windowE a b] _ _ _ wx (hm.blkI 0 rfl) (by simp))) ?_
 refine wl_nil ?_
 refine nw 10 511 (fun _ hm => ⟨hm.bl 1, hm.bl 2, hm.bl 3, hm.fa 0, hm.fa 1, hm.fa 2, hm.fa 3, hm.fa 4, trivial⟩) fun z => ?_
 refine wt 9 10 1023 rfl z (ov_assign rfl) ?_
 refine wa_done (by kernel_rfl) ?_
 refine nx_then (sr_ (mv_ rfl (wl_ov (ov_neq rfl rfl) rfl (nn_ ?_))))
 refine gw_cond rfl (fun hh => ?_) (fun hh => ?_)
 ·have h3 : ¬ (firstE [whenE (decide (ixP (vhP vk) vl 0 < 0)) 8, windowE a b] = 0) := by simpa using hh
  clear hh
  refine sr_ ?_
  have h4 : TE ≠ 0 := by rw [hT1]; simpa using h3
  refine wl_ov (ov_build (cs := [.int .i64 0, .int .i64 0, .int .i64 0, .int .i64 0, .int .i64 0, .int .i64 0]) rfl (by kernel_rfl)) rfl ?_
  refine mv_ rfl ?_
  refine wl_stores (cs' := [.int .i64 0, .int .i64 0, .int .i64 0, .int .i64 0, .int .i64 0, .int .i64 0]) 1 rz42 rfl rfl rfl rfl rfl rfl rfl rfl ?_
  refine sg_ rfl (nn_ ?_)
  refine gw_ret ?_
  refine nx_then_ret ?_
  refine nx_retct 1 rfl rz42 rfl rfl rfl rfl fun wx hm => ?_
  exact ⟨fun h => absurd h h4, fun _ => by rw [hT1], hm.g⟩
 have h3 : firstE [whenE (decide (ixP (vhP vk) vl 0 < 0)) 8, windowE a b] = 0 := by simpa using hh
 clear hh
 refine gw_skip (nx_then (sr_ ?_))
 have h4 : TE = 0 := by rw [hT1]; simpa using h3
 have hfa := fe_all (hT1.symm.trans h4)
 have hck := hfa (whenE (decide (ixP (vhP vk) vl 0 < 0)) 8) (by simp)
 have hix : 0 ≤ ixP (vhP vk) vl 0 := by
  by_cases h : ixP (vhP vk) vl 0 < 0
  ·rw [decide_eq_true h] at hck; cases hck
  omega
 obtain ⟨ha0, hab, hb0⟩ := windowE_ok (hfa (windowE a b) (by simp))
 obtain ⟨iv, yv, hyv, hyk⟩ := veh_at hix
 refine wl_ov (ov_loads rz31 rfl (fun _ hm => hm.blkI 3 rfl) rfl rfl) rfl ?_
 refine mv_ rfl ?_
 refine wl_ov (ov_loads rz39 rfl (fun _ hm => hm.blkI 2 rfl) rfl rfl) rfl ?_
 refine wl_callG (γ := Nat × PMap × (ByteArray → Int → Int) × Nat) (val := fun g => .map (some g.1)) (φ := fun g => g.2.1 vk = some (some g.2.2.2) ∧ ∀ j, g.2.2.1 vk j = spT a b el vk j) (K' := fun _ => (fun _ => True)) (L' := fun g => (g.2.2.2, 42, six (g.2.2.1 vk)) :: [(g4, 33, [.int .i64 (whenE (decide (ixP (vhP vk) vl 0 < 0)) 8), .int .i64 (windowE a b)]), (g3, 42, [.int .i64 0, .int .i64 0, .int .i64 0, .int .i64 0, .int .i64 0, .int .i64 0]), (g2, 39, [.int .i64 a, .int .i64 b]), (g1, 31, [.slice sA sn sc, .slice cA cn cc, .slice vA vn vc, .slice pA pn pc])]) (O' := fun _ => []) (X' := fun g => (MapF encP 0 g.1 g.2.1) :: [SlOld stEnc 15 156 w.heap.size none sA sn sl, SlOld csEnc 2 158 w.heap.size none cA cn cl, SlOld vhEnc 2 69 w.heap.size none vA vn vl, SlOld plEnc 3 164 w.heap.size none pA pn pl, SlOld evEnc 5 105 w.heap.size none eA en el]) rfl cb70 rfl rfl (fun wx hm => (spent_any vl sA cA vA pA sn sc cn cc vn vc pn pc el eA en ec a b wx (hm.fact 2 rfl).1 (hm.fact 4 rfl).1 heok (fun x hx => (hfine x hx).veh) hrise ha0 hab hb0 hen2 (by omega)).mono fun e w' ⟨m, p, H, he, hM, hF, hd, _, hs, hg⟩ => by
  obtain ⟨gv, hgv⟩ := hd iv yv hyv
  rw [hyk] at hgv
  have h1 := hF _ _ hgv
  exact ⟨(m, p, H, gv), he, ⟨hgv, fun j => by have h := hs iv yv hyv j; rw [hyk] at h; exact h⟩, ((hm.gain hg h1.1 h1.2).also MapF.lasts2 hM)⟩) ?_
 rintro ⟨m1, p, H, gv⟩ ⟨hgv, hHs⟩
 dsimp only at hgv hHs ⊢
 refine mv_ rfl ?_
 refine wl_ov (ov_lookF (enc := encP) (k := 9) (e := 137) none (by kernel_rfl) (by kernel_rfl) (by kernel_rfl) rfl rfl (fun _ hm => (hm.fact 0 rfl))) rfl ?_
 refine wl_set 37 (v' := .pointer (some ⟨gv, 0, none⟩)) rfl ((show encP ((p vk).getD none) = .pointer (some ⟨gv, 0, none⟩) by rw [hgv]; rfl)) ?_
 refine wl_ov (ov_nilcheck rfl) rfl ?_
 refine wl_ov (ov_loads rz42 rfl (fun _ hm => hm.blkI 0 rfl) rfl rfl) rfl ?_
 refine wl_stores (cs' := [.int .i64 (H vk 0), .int .i64 (H vk 1), .int .i64 (H vk 2), .int .i64 (H vk 3), .int .i64 (H vk 4), .int .i64 (H vk 5)]) 2 rz42 rfl rfl rfl rfl rfl rfl rfl rfl ?_
 refine sg_ rfl (nn_ ?_)
 refine gw_ret ?_
 refine nx_retct 2 rfl rz42 rfl rfl rfl rfl fun wx hm => ?_
 exact ⟨fun _ => by rw [hHs 0, hHs 1, hHs 2, hHs 3, hHs 4, hHs 5], fun h => absurd h4 h, hm.g⟩
end Go.Proofs.YtdoooppeiphefaaGreatDoor
namespace Go.Proofs.YtdoooppeiphefaaGreatDoor
open Go.RowKit
theorem legs_at {fr : Int} {l : List Lg} {k : Nat} {g : Lg} (h : l[k]? = some g) :
    legsE fr l (l.length - k) = if legE fr (prevOf l k) (decide (k + 1 = l.length)) g = 0 then legsE fr l (l.length - (k + 1)) else legE fr (prevOf l k) (decide (k + 1 = l.length)) g := by
  have hk := (List.getElem?_eq_some_iff.1 h).1
  obtain ⟨m, hm⟩ : ∃ m, l.length - k = m + 1 := ⟨l.length - k - 1, by omega⟩
  have hm2 : l.length - (k + 1) = m := by omega
  have hm3 : l.length - (m + 1) = k := by omega
  rw [hm, hm2]
  simp only [legsE, hm3, h]
  have : decide (m = 0) = decide (k + 1 = l.length) := by
    by_cases h : k + 1 = l.length <;> simp [h] <;> omega
  rw [this]
def HrOk (key driver : ByteArray) (l : List Lg) : Prop := key.size ≤ 1000000 ∧ driver.size ≤ 1000000 ∧ ∀ g ∈ l, LgOk g
theorem hireE_stop {key driver : ByteArray} {fr to_ : Int} {l : List Lg} {e : Int} (h : e = firstE [whenE (!keyB key || !keyB driver) 5, timeE fr to_]) (hne : e ≠ 0) : hireE ⟨key, driver, fr, to_, l⟩ = e := by
  unfold hireE
  simp only [firstE] at h ⊢
  split
  · rename_i h1
    rw [if_pos h1] at h
    split
    · rename_i h2
      rw [if_pos h2] at h
      exact absurd h hne
    · rename_i h2
      rw [if_neg h2] at h
      exact h.symm
  · rename_i h1
    rw [if_neg h1] at h
    exact h.symm
theorem firstE_pad (X : Int) : firstE [0, 0, X] = X := by
  show firstE [X] = X
  by_cases h : X = 0
  · rw [h]; rfl
  · simp [firstE, h]
theorem hireE_pass {key driver : ByteArray} {fr to_ : Int} {l : List Lg} (h : 0 = firstE [whenE (!keyB key || !keyB driver) 5, timeE fr to_]) : hireE ⟨key, driver, fr, to_, l⟩ = if l.length = 0 then 3 else if 20 < l.length then 2 else legsE fr l l.length := by
  have := firstE_two h.symm
  unfold hireE
  simp only [this.1, this.2]
  exact firstE_pad _
set_option maxRecDepth 100000 in
set_option maxHeartbeats 4000000 in
theorem hcheck_any (key driver : ByteArray) (fr to_ : Int) (l : List Lg) (A : Option Addr) (n c : Nat) (w : World) (hl : SlT lgEnc 9 278 w A n l) (hok : HrOk key driver l) (hn : n ≤ 1000000) :
    Calls Tryz.prog 273 #[.agg #[.string key, .string driver, .int .i64 fr, .int .i64 to_, .slice A n c]] w (GotE w (hireE ⟨key, driver, fr, to_, l⟩)) := by
  obtain ⟨E1, hE1⟩ : ∃ E, E = firstE [whenE (!keyB key || !keyB driver) 5, timeE fr to_] := ⟨_, rfl⟩
  have Hstop := Lib.hid (fun (h : E1 ≠ 0) => hireE_stop (l := l) hE1 h)
  have Hpass := Lib.hid (fun (h : E1 = 0) => hireE_pass (l := l) (h.symm.trans hE1))
  have Hl := Lib.hid hl.len
  have cK : ∀ w, Calls Tryz.prog 112 #[.string key] w fun e w' => e = .returned (.bool (keyB key)) ∧ w' = w := fun w => flipw (isKey_any _ _ (by have := hok.1; omega))
  have cD : ∀ w, Calls Tryz.prog 112 #[.string driver] w fun e w' => e = .returned (.bool (keyB driver)) ∧ w' = w := fun w => flipw (isKey_any _ _ (by have := hok.2.1; omega))
  have Hok := Lib.hid hok.2.2
  generalize keyB key = K at cK hE1
  generalize keyB driver = D at cD hE1
  obtain ⟨R, hR⟩ : ∃ R, R = hireE ⟨key, driver, fr, to_, l⟩ := ⟨_, rfl⟩
  rw [← hR] at Hstop Hpass ⊢
  have CK := Lib.hid cK
  have CD := Lib.hid cD
  have HE1 := Lib.hid hE1
  clear cK cD hE1 hR hok
  obtain ⟨T, hT⟩ : ∃ T, T = timeE fr to_ := ⟨_, rfl⟩
  have cT : ∀ w, Calls Tryz.prog 114 #[.agg #[.int .i64 fr, .int .i64 to_]] w (GotE w T) := fun w => by rw [hT]; exact time_any _ _ _
  have CT := Lib.hid cT
  rw [← hT] at HE1
  clear cT hT
  go_enter Tryz.func273, Tryz.ntmps273
  go_wp2_with fail
  have hB : Blk (w.alloc (.cells #[.string key, .string driver, .int .i64 fr, .int .i64 to_, .slice A n c] 182)) w.heap.size 182 [.string key, .string driver, .int .i64 fr, .int .i64 to_, .slice A n c] := Blk.at_ w rfl _ _
  have k0 := hB.cell_of (i := 0) (v := .string key) rfl
  have k1 := hB.cell_of (i := 1) (v := .string driver) rfl
  have k2 := hB.cell_of (i := 2) (v := .int .i64 fr) rfl
  have k3 := hB.cell_of (i := 3) (v := .int .i64 to_) rfl
  go_upto_region 1 with fail
  go_cut [3] (fun v wx => v = .int .i64 E1 ∧ (w.alloc (.cells #[.string key, .string driver, .int .i64 fr, .int .i64 to_, .slice A n c] 182)).grownBy wx none)
  case first =>
    cases K
    · first | go_region_with (first
        | (go_at_call 114; refine (CT.out _).mono ?_; rintro e w4 ⟨rfl, hg4⟩)
        | (go_at_call 112; with_reducible refine (CK.out _).mono ?_; rintro e w3 ⟨rfl, rfl⟩)
        | (go_at_call 112; with_reducible refine (CD.out _).mono ?_; rintro e w3 ⟨rfl, rfl⟩)
        | (go_at_call 67; refine (when_any _ _ _).mono ?_; rintro e w5 ⟨rfl, rfl⟩)
        | (go_at_call 66; refine (first_any [whenE true 5, T] _ _ _ _ (Blk.at_ _ rfl _ _) (by simp)).mono ?_; rintro e w6 ⟨rfl, rfl⟩)) | fail
      all_goals
        go_wp2_with fail
        go_meet
        exact ⟨ret_val (by rw [HE1.out]; rfl), grow_alloc (grow_trans (grow_drew (World.grownBy.refl _ _)) hg4) _⟩
    · go_region_held3 (fun wx => wx.cell? ⟨w.heap.size, 0, none⟩ = some (.string key) ∧ wx.cell? ⟨w.heap.size, 1, none⟩ = some (.string driver) ∧ wx.cell? ⟨w.heap.size, 2, none⟩ = some (.int .i64 fr) ∧ wx.cell? ⟨w.heap.size, 3, none⟩ = some (.int .i64 to_))
        (first
          | exact ⟨k0, k1, k2, k3⟩
          | exact q4
          | exact q5 _)
        (first
          | (go_at_call 114; refine (CT.out _).mono ?_; rintro e w4 ⟨rfl, hg4⟩; have hb2 := (hB.drewN 1).grown hg4 (by simp); have q5 := fun o => And.intro ((hb2.alloc o).cell_of (i := 0) (v := .string key) rfl) (And.intro ((hb2.alloc o).cell_of (i := 1) (v := .string driver) rfl) (And.intro ((hb2.alloc o).cell_of (i := 2) (v := .int .i64 fr) rfl) ((hb2.alloc o).cell_of (i := 3) (v := .int .i64 to_) rfl))); have q4 := And.intro (hb2.cell_of (i := 0) (v := .string key) rfl) (And.intro (hb2.cell_of (i := 1) (v := .string driver) rfl) (And.intro (hb2.cell_of (i := 2) (v := .int .i64 fr) rfl) (hb2.cell_of (i := 3) (v := .int .i64 to_) rfl))))
          | (go_at_call 112; with_reducible refine (CK.out _).mono ?_; rintro e w3 ⟨rfl, rfl⟩)
          | (go_at_call 112; with_reducible refine (CD.out _).mono ?_; rintro e w3 ⟨rfl, rfl⟩)
          | (go_at_call 67; refine (when_any _ _ _).mono ?_; rintro e w5 ⟨rfl, rfl⟩)
          | (go_at_call 66; refine (first_any [whenE (!D) 5, T] _ _ _ _ (Blk.at_ _ rfl _ _) (by simp)).mono ?_; rintro e w6 ⟨rfl, rfl⟩))
      all_goals
        go_wp2_with fail
        go_meet
        exact ⟨ret_val (by rw [HE1.out]; rfl), grow_alloc (grow_trans (grow_drew (World.grownBy.refl _ _)) hg4) _⟩
  case rest =>
    obtain ⟨rfl, hg1⟩ := hcut
    obtain ⟨w1, hw1⟩ : ∃ w1 : World, w1 = wc := ⟨_, rfl⟩
    rw [← hw1] at hg1 ⊢
    clear hw1 k0 k1 k2 k3
    have hb := hB.grown hg1 (by simp)
    have hgw : w.grownBy w1 none := grow_trans (grow_alloc (World.grownBy.refl _ _) _) hg1
    clear hg1 hB
    by_cases h0 : E1 = 0
    · have HP := Lib.hid (Hpass.out h0)
      subst h0
      have k4 := hb.cell_of (i := 4) (v := .slice A n c) rfl
      by_cases hn0 : n = 0
      · have hq : ((n : Int) == 0) = true := by simpa using hn0
        have HF := Lib.hid (show R = 3 by rw [HP.out, if_pos (by rw [Hl.out]; exact hn0)])
        clear hn0
        go_wp2_with fail
        go_ret
        exact ⟨ret_int HF.out.symm, hgw⟩
      · have hq : ((n : Int) == 0) = false := by simpa using hn0
        by_cases h20 : 20 < n
        · have hq2 : decide ((20 : Int) < (n : Int)) = true := by simp; omega
          have hq3 : decide (20 < n) = true := by simpa using h20
          have HF := Lib.hid (show R = 2 by rw [HP.out, if_neg (by rw [Hl.out]; exact hn0), if_pos (by rw [Hl.out]; exact h20)])
          clear hn0
          go_wp2_with fail
          go_ret
          exact ⟨ret_int HF.out.symm, hgw⟩
        · have hq2 : decide ((20 : Int) < (n : Int)) = false := by simp; omega
          have hq3 : decide (20 < n) = false := by simpa using h20
          have HF := Lib.hid (show R = legsE fr l (l.length - 0) by rw [HP.out, if_neg (by rw [Hl.out]; exact hn0), if_neg (by rw [Hl.out]; exact h20)]; rfl)
          clear hn0 HP
          have hn20 : n ≤ 20 := by omega
          go_wp2_with fail
          go_loopw [38] (fun i wr => ∃ k : Nat, k ≤ n ∧ i = .int .i64 k ∧ R = legsE fr l (l.length - k) ∧ w1.grownBy wr none) (fun i _ => n - (intOf i).toNat)
          case atStart => exact ⟨0, Nat.zero_le _, rfl, HF.out, World.grownBy.refl _ _⟩
          case round =>
            obtain ⟨k, hk, rfl, hE, hgr⟩ := hrel
            have HE := Lib.hid hE; clear hE
            by_cases hlt : k < n
            · have hlr := hl.grow0 (grow_trans hgw hgr)
              obtain ⟨g, hg⟩ : ∃ g, l[k]? = some g := ⟨_, List.getElem?_eq_getElem (by have := Hl.out; omega)⟩
              have hat := legs_at (fr := fr) hg
              obtain ⟨E, hEE⟩ : ∃ E, E = legE fr (prevOf l k) (decide (k + 1 = n)) g := ⟨_, rfl⟩
              rw [Hl.out, ← hEE] at hat
              rw [Hl.out] at HE
              have Hat := Lib.hid hat; clear hat
              have HEE := Lib.hid hEE; clear hEE
              have hbr := hb.grown hgr (by simp)
              have c0 := hbr.cell_of (i := 0) (v := .string key) rfl
              have c1 := hbr.cell_of (i := 1) (v := .string driver) rfl
              have c2 := hbr.cell_of (i := 2) (v := .int .i64 fr) rfl
              have c3 := hbr.cell_of (i := 3) (v := .int .i64 to_) rfl
              have c4 := hbr.cell_of (i := 4) (v := .slice A n c) rfl
              have Hg := Lib.hid hg
              clear hg
              go_wp2_with fail
              refine (checkLeg_any key driver fr to_ l A n c k g wr hlr Hg.out Hok.out hn).mono ?_
              rintro e w2 ⟨rfl, hg2⟩
              rw [← HEE.out]
              by_cases hE0 : E = 0
              · have HN := Lib.hid (show R = legsE fr l (n - (k + 1)) by rw [HE.out, Hat.out, if_pos hE0])
                subst hE0
                go_wp2_with fail
                go_roundw
                case rel => exact ⟨k + 1, by omega, by go_num, by rw [HN.out, Hl.out], grow_trans hgr hg2⟩
                case measure => simp [intOf]; omega
              · have hne : (E != 0) = true := by simpa using hE0
                have HN := Lib.hid (show R = E by rw [HE.out, Hat.out, if_neg hE0])
                clear hE0
                go_wp2_with fail
                go_ret
                exact ⟨ret_int HN.out.symm, grow_trans hgw (grow_trans hgr hg2)⟩
            · have HN := Lib.hid (show R = 0 by rw [HE.out, Hl.out, show n - k = 0 by omega]; rfl)
              go_wp2_with fail
              go_ret
              exact ⟨ret_int HN.out.symm, grow_trans hgw hgr⟩
    · have hne : (E1 != 0) = true := by simpa using h0
      have HR := Lib.hid (Hstop.out h0)
      clear h0
      go_wp2_with fail
      go_ret
      exact ⟨ret_int HR.out.symm, hgw⟩
end Go.Proofs.YtdoooppeiphefaaGreatDoor
namespace Go.Proofs.YtdoooppeiphefaaGreatDoor
open Go.RowKit
/-- What hire.made gives: the hire if it is right, else nothing. -/
def madeV (key driver : ByteArray) (fr to_ : Int) (A : Option Addr) (n c : Nat) (e : Int) : Value :=
  if e = 0 then .agg #[.string key, .string driver, .int .i64 fr, .int .i64 to_, .slice A n c] else .agg #[.string ⟨#[]⟩, .string ⟨#[]⟩, .int .i64 0, .int .i64 0, .slice none 0 0]
def GotVE (w : World) (v : Value) (e : Int) (d : Ending) (w' : World) : Prop := d = .returned (.tuple #[v, .int .i64 e]) ∧ w.grownBy w' none
theorem info_hr : (Tryz.prog.info? 182).map (·.size) = some 5 := by kernel_rfl
/-- Two results: a struct in a known block, and a number. -/
theorem ret_blk_tmp {P : Program} {fn : Func} {R : Ending → World → Prop} {a : Act} {w : World} {p u : Tmp} {ty : TypeId} (h : fn.results = #[.cell p ty, .tmp u]) (g : Nat) (t : TypeId) (cs : List Value) (d : TypeDesc) (hb : Blk w g t cs)
    (hp : a.tmps.getD p undef = .pointer (some ⟨g, 0, none⟩)) (v : Value) (hv : a.tmps.getD u undef = v) (hu : P.underlying ty = some d) (hd : d.isRow = true) (n : Nat) (hi : (P.info? ty).map (·.size) = some n) (hn : cs.length = n) (hdf : a.defers = [])
    (hR : R (.returned (.tuple #[.agg cs.toArray, v])) w) : bodyPost P fn R .ret a w := by
  refine bodyPost_ret (?_ : (results fn a.tmps).run P w = .ok (.tuple #[.agg cs.toArray, v]) w) hdf hR
  have hl := run_loadVar_row (P := P) w g t ty cs.toArray (0, 0) d hb hu (by cases d <;> simp_all [TypeDesc.isRow]) (by simpa [hn] using hi)
  rw [results_cell_tmp h]
  simp only [hp, hv]
  simp only [asAddr, Sem.run_pure, Result.andThen_ok]
  rw [hl]
  rfl
set_option maxRecDepth 100000 in
set_option maxHeartbeats 1000000 in
theorem made_any (key driver : ByteArray) (fr to_ : Int) (l : List Lg) (A : Option Addr) (n c : Nat) (w : World) (hl : SlT lgEnc 9 278 w A n l) (hok : HrOk key driver l) (hn : n ≤ 1000000) :
    Calls Tryz.prog 193 #[.agg #[.string key, .string driver, .int .i64 fr, .int .i64 to_, .slice A n c]] w (GotVE w (madeV key driver fr to_ A n c (hireE ⟨key, driver, fr, to_, l⟩)) (hireE ⟨key, driver, fr, to_, l⟩)) := by
  obtain ⟨E, hE⟩ : ∃ E, E = hireE ⟨key, driver, fr, to_, l⟩ := ⟨_, rfl⟩
  rw [← hE]
  have HE := Lib.hid hE
  clear hE
  go_enter Tryz.func193, Tryz.ntmps193
  go_wp2_with fail
  refine (hcheck_any key driver fr to_ l A n c _ ((hl.alloc _).alloc _) hok hn).mono ?_
  rintro e w1 ⟨rfl, hg1⟩
  rw [← HE.out]
  have hb1 : Blk w1 (w.heap.size + 1) 182 [.string ⟨#[]⟩, .string ⟨#[]⟩, .int .i64 0, .int .i64 0, .slice none 0 0] := (Blk.at_ (w.alloc _) (by simp) _ _).grown hg1 (by simp)
  have hb0 : Blk w1 w.heap.size 182 [.string key, .string driver, .int .i64 fr, .int .i64 to_, .slice A n c] := ((Blk.at_ w rfl _ _).alloc _).grown hg1 (by simp)
  have hgw : w.grownBy w1 none := grow_trans (grow_alloc (grow_alloc (World.grownBy.refl _ _) _) _) hg1
  have hz : ∀ k, some (w.heap.size + 1) = some k → w.heap.size ≤ k := fun k h => by cases h; omega
  clear hg1
  by_cases h0 : E = 0
  · have HV := Lib.hid (show madeV key driver fr to_ A n c E = .agg #[.string key, .string driver, .int .i64 fr, .int .i64 to_, .slice A n c] by rw [h0]; rfl)
    subst h0
    go_wp2_with (first
      | (with_reducible refine wpList_load_all rfl 182 (.tmp 1) rfl w.heap.size _ _ _ hb0 rfl Tryz.underlying182 rfl 5 info_hr rfl ?_)
      | (with_reducible refine wpList_store_all rfl 182 (.tmp 2) (.tmp 11) rfl (w.heap.size + 1) _ _ [.string key, .string driver, .int .i64 fr, .int .i64 to_, .slice A n c] hb1 rfl rfl 5 info_hr rfl rfl (by simp [Value.oneCell']) ?_
         intro w2 hb2 hg2))
    refine ret_blk_tmp (p := 2) (u := 3) (ty := 182) rfl (w.heap.size + 1) _ _ _ hb2 rfl (.int .i64 0) rfl Tryz.underlying182 rfl 5 info_hr rfl rfl ?_
    exact ⟨by rw [HV.out], grow_own hgw hg2 hz⟩
  · have hne : (E != 0) = true := by simpa using h0
    have HV := Lib.hid (show madeV key driver fr to_ A n c E = .agg #[.string ⟨#[]⟩, .string ⟨#[]⟩, .int .i64 0, .int .i64 0, .slice none 0 0] by unfold madeV; rw [if_neg h0])
    clear h0
    go_wp2_with (first
      | (with_reducible refine wpList_store_all rfl 182 (.tmp 2) (.tmp 9) rfl (w.heap.size + 1) _ _ [.string ⟨#[]⟩, .string ⟨#[]⟩, .int .i64 0, .int .i64 0, .slice none 0 0] hb1 rfl rfl 5 info_hr rfl rfl (by simp [Value.oneCell']) ?_
         intro w2 hb2 hg2))
    refine ret_blk_tmp (p := 2) (u := 3) (ty := 182) rfl (w.heap.size + 1) _ _ _ hb2 rfl (.int .i64 E) rfl Tryz.underlying182 rfl 5 info_hr rfl rfl ?_
    exact ⟨by rw [HV.out], grow_own hgw hg2 hz⟩
def startLeg (veh : ByteArray) (r : Rd) : Lg := ⟨veh, r, ⟨-1, ⟨#[]⟩, 0, 0⟩⟩
set_option maxRecDepth 100000 in
set_option maxHeartbeats 1000000 in
theorem start_any (key driver : ByteArray) (fr to_ : Int) (veh : ByteArray) (r : Rd) (w : World) (hk : key.size ≤ 1000000) (hd : driver.size ≤ 1000000) (hv : veh.size ≤ 1000000) (hr : RdOk r) :
    Calls Tryz.prog 94 #[.string key, .string driver, .agg #[.int .i64 fr, .int .i64 to_], .string veh, .agg (rdCells r).toArray] w (fun e w' => ∃ A,
      e = .returned (.tuple #[madeV key driver fr to_ A 1 1 (hireE ⟨key, driver, fr, to_, [startLeg veh r]⟩), .int .i64 (hireE ⟨key, driver, fr, to_, [startLeg veh r]⟩)]) ∧ SlT lgEnc 9 278 w' A 1 [startLeg veh r] ∧ w.grownBy w' none) := by
  obtain ⟨a1, s1, m1, f1⟩ := r
  have hok : HrOk key driver [startLeg veh ⟨a1, s1, m1, f1⟩] := ⟨hk, hd, fun g hg => by
    simp only [List.mem_singleton] at hg
    subst hg
    exact ⟨hv, hr, (by decide : (⟨#[]⟩ : ByteArray).size ≤ 1000000)⟩⟩
  show Calls Tryz.prog 94 #[.string key, .string driver, .agg #[.int .i64 fr, .int .i64 to_], .string veh, .agg #[.int .i64 a1, .string s1, .int .i64 m1, .int .i64 f1]] w _
  have Hok := Lib.hid hok
  clear hok
  obtain ⟨E, hE⟩ : ∃ E, E = hireE ⟨key, driver, fr, to_, [startLeg veh ⟨a1, s1, m1, f1⟩]⟩ := ⟨_, rfl⟩
  rw [← hE]
  have HE := Lib.hid hE
  clear hE
  go_enter Tryz.func94, Tryz.ntmps94
  go_wp2_with fail
  refine (made_any key driver fr to_ [startLeg veh ⟨a1, s1, m1, f1⟩] (some ⟨w.heap.size + 3, 0, none⟩) 1 1 _ (SlT.ofBlk (l := [startLeg veh ⟨a1, s1, m1, f1⟩]) lg_len (Blk.at_ _ (by simp) _ _)) Hok.out (by omega)).mono ?_
  rintro e w1 ⟨rfl, hg1⟩
  rw [← HE.out]
  clear HE Hok
  have hb1 : Blk w1 (w.heap.size + 2) 182 [.string ⟨#[]⟩, .string ⟨#[]⟩, .int .i64 0, .int .i64 0, .slice none 0 0] := ((Blk.at_ ((w.alloc _).alloc _) (by simp) _ _).alloc _).grown hg1 (by simp)
  have hl1 : SlT lgEnc 9 278 w1 (some ⟨w.heap.size + 3, 0, none⟩) 1 [startLeg veh ⟨a1, s1, m1, f1⟩] := (SlT.ofBlk (l := [startLeg veh ⟨a1, s1, m1, f1⟩]) lg_len (Blk.at_ (((w.alloc _).alloc _).alloc _) (by simp) _ _)).grow0 hg1
  have hgw : w.grownBy w1 none := grow_trans (grow_alloc (grow_alloc (grow_alloc (grow_alloc (World.grownBy.refl _ _) _) _) _) _) hg1
  have hz : ∀ k, some (w.heap.size + 2) = some k → w.heap.size ≤ k := fun k h => by cases h; omega
  clear hg1
  by_cases h0 : E = 0
  · have hV : madeV key driver fr to_ (some ⟨w.heap.size + 3, 0, none⟩) 1 1 E = .agg #[.string key, .string driver, .int .i64 fr, .int .i64 to_, .slice (some ⟨w.heap.size + 3, 0, none⟩) 1 1] := by rw [h0]; rfl
    rw [hV]
    have HV := Lib.hid hV
    clear h0 hV
    go_wp2_with (first
      | (with_reducible refine wpList_store_all rfl 182 (.tmp 10) (.tmp 22) rfl (w.heap.size + 2) _ _ [.string key, .string driver, .int .i64 fr, .int .i64 to_, .slice (some ⟨w.heap.size + 3, 0, none⟩) 1 1] hb1 rfl rfl 5 info_hr rfl rfl (by simp [Value.oneCell']) ?_
         intro w2 hb2 hg2))
    refine ret_blk_tmp (p := 10) (u := 11) (ty := 182) rfl (w.heap.size + 2) _ _ _ hb2 rfl (.int .i64 E) rfl Tryz.underlying182 rfl 5 info_hr rfl rfl ?_
    exact ⟨some ⟨w.heap.size + 3, 0, none⟩, by rw [HV.out], hl1.grown hg2 hb1 (by decide), grow_own hgw hg2 hz⟩
  · have hV : madeV key driver fr to_ (some ⟨w.heap.size + 3, 0, none⟩) 1 1 E = .agg #[.string ⟨#[]⟩, .string ⟨#[]⟩, .int .i64 0, .int .i64 0, .slice none 0 0] := by unfold madeV; rw [if_neg h0]
    rw [hV]
    have HV := Lib.hid hV
    clear h0 hV
    go_wp2_with (first
      | (with_reducible refine wpList_store_all rfl 182 (.tmp 10) (.tmp 22) rfl (w.heap.size + 2) _ _ [.string ⟨#[]⟩, .string ⟨#[]⟩, .int .i64 0, .int .i64 0, .slice none 0 0] hb1 rfl rfl 5 info_hr rfl rfl (by simp [Value.oneCell']) ?_
         intro w2 hb2 hg2))
    refine ret_blk_tmp (p := 10) (u := 11) (ty := 182) rfl (w.heap.size + 2) _ _ _ hb2 rfl (.int .i64 E) rfl Tryz.underlying182 rfl 5 info_hr rfl rfl ?_
    exact ⟨some ⟨w.heap.size + 3, 0, none⟩, by rw [HV.out], hl1.grown hg2 hb1 (by decide), grow_own hgw hg2 hz⟩
end Go.Proofs.YtdoooppeiphefaaGreatDoor
namespace Go.Proofs.YtdoooppeiphefaaGreatDoor
open Go.RowKit
set_option maxHeartbeats 400000 in
theorem formed_nil (w : World) : Calls Tryz.prog 148 #[.slice none 0 0] w (GotE w 0) := by
  go_enter Tryz.func148, Tryz.ntmps148
  go_wp2_with fail
  go_loopw [10] (fun i wr => i = .int .i64 0 ∧ wr = w) (fun _ _ => 0)
  case atStart => exact ⟨rfl, rfl⟩
  case round =>
    obtain ⟨rfl, rfl⟩ := hrel
    go_wp2_with fail
    go_ret
    exact ⟨rfl, World.grownBy.refl _ _⟩
set_option maxHeartbeats 400000 in
theorem checkOdds_nil (w : World) : Calls Tryz.prog 191 #[.slice none 0 0] w (GotE w 0) := by
  go_enter Tryz.func191, Tryz.ntmps191
  go_wp2_with fail
  refine (formed_nil _).mono ?_
  rintro e w1 ⟨rfl, hg1⟩
  go_wp2_with fail
  refine (when_any _ _ _).mono ?_
  rintro e w2 ⟨rfl, rfl⟩
  go_wp2_with fail
  refine (first_any [0, whenE false 2] _ _ _ _ (Blk.at_ _ rfl _ _) (by simp)).mono ?_
  rintro e w6 ⟨rfl, rfl⟩
  go_wp2_with fail
  go_ret
  exact ⟨rfl, grow_alloc hg1 _⟩
set_option maxHeartbeats 400000 in
theorem spread_nil (w : World) : Calls Tryz.prog 192 #[.slice none 0 0] w (fun e w' => ∃ g c, e = .returned (.tuple #[.slice (some ⟨g, 0, none⟩) 1 c, .int .i64 1]) ∧ g < w'.heap.size ∧ w'.cell? ⟨g, 0, none⟩ = some (.int .i64 1) ∧ w.grownBy w' none) := by
  go_enter Tryz.func192, Tryz.ntmps192
  go_wp2_with fail
  go_loopw [4, 5, 14] (fun s n i wr => s = .slice (some ⟨w.heap.size, 0, none⟩) 1 1 ∧ n = .int .i64 1 ∧ i = .int .i64 0 ∧ wr = w.alloc (.cells #[.int .i64 1] 3)) (fun _ _ _ _ => 0)
  case atStart => exact ⟨rfl, rfl, rfl, rfl⟩
  case round =>
    obtain ⟨rfl, rfl, rfl, rfl⟩ := hrel
    go_wp2_with fail
    go_ret2
    exact ⟨_, _, rfl, by simp, (Blk.at_ w rfl 3 [.int .i64 1]).cell_of rfl, grow_alloc (World.grownBy.refl _ _) _⟩
theorem info_fr : (Tryz.prog.info? 46).map (·.size) = some 2 := by kernel_rfl
set_option maxRecDepth 100000 in
set_option maxHeartbeats 400000 in
theorem lowest_one (w : World) : Calls Tryz.prog 71 #[.int .i64 1, .int .i64 1] w (fun e w' => e = .returned (.agg #[.int .i64 1, .int .i64 1]) ∧ w.grownBy w' none) := by
  go_enter Tryz.func71, Tryz.ntmps71
  go_wp2_with fail
  go_loopw [5, 6] (fun a b wr => a = .int .i64 1 ∧ (b = .int .i64 0 ∨ b = .int .i64 1) ∧ w.grownBy wr none ∧ Blk wr w.heap.size 46 [.int .i64 0, .int .i64 0]) (fun _ b _ => (intOf b).toNat)
  case atStart => exact ⟨rfl, .inr rfl, grow_alloc (World.grownBy.refl _ _) _, Blk.at_ w rfl _ _⟩
  case round =>
    obtain ⟨rfl, hk, hgr, hb⟩ := hrel
    rcases hk with rfl | rfl
    · go_wp2_with fail
      refine wp_region_still_tail 7 (by kernel_rfl) (by kernel_rfl) ?_
      change wpStill _ _ (World.drew _) _ _ _
      simp only [List.take_succ_cons, List.take_zero, List.drop_succ_cons, List.drop_zero]
      repeat still_step
      refine wpStill_nil ?_
      change wpList _ _ _ _ _ (World.drew _)
      go_wp2_with (with_reducible refine wpList_store_all rfl 46 (.tmp 4) (.tmp 24) rfl w.heap.size _ _ [.int .i64 1, .int .i64 1] hb.drew rfl rfl 2 info_fr rfl rfl (by simp [Value.oneCell']) ?_
                   intro w2 hb2 hg2)
      refine ret_blk (p := 4) (ty := 46) rfl w.heap.size _ _ _ hb2 rfl Tryz.underlying46 rfl 2 info_fr rfl rfl ?_
      exact ⟨rfl, grow_own (grow_drew hgr) hg2 (fun k h => by cases h; exact Nat.le_refl _)⟩
    · go_wp2_with fail
      go_quiet (fail)
      go_wp2_with fail
      go_roundw
      case rel => exact ⟨rfl, .inl rfl, grow_drewN hgr _, hb.drewN _⟩
      case measure => simp [intOf]
set_option maxRecDepth 100000 in
set_option maxHeartbeats 1000000 in
theorem bspread_nil (w : World) : Calls Tryz.prog 93 #[.slice none 0 0] w (fun e w' => ∃ A c, e = .returned (.tuple #[.slice A 1 c, .int .i64 0]) ∧ w.grownBy w' none) := by
  go_enter Tryz.func93, Tryz.ntmps93
  go_wp2_with fail
  refine (checkOdds_nil _).mono ?_
  rintro e w1 ⟨rfl, hg1⟩
  go_wp2_with fail
  refine (spread_nil _).mono ?_
  rintro e w2 ⟨g, c, rfl, hlt, hc, hg2⟩
  have hgw : w.grownBy w2 none := grow_trans hg1 hg2
  clear hg1 hg2
  go_wp2_with fail
  go_loopw [7, 22] (fun s i wr => w2.grownBy wr none ∧ ((i = .int .i64 0 ∧ s = .slice none 0 0) ∨ (i = .int .i64 1 ∧ ∃ A c, s = .slice A 1 c))) (fun _ i _ => 1 - (intOf i).toNat)
  case atStart => exact ⟨World.grownBy.refl _ _, .inl ⟨rfl, rfl⟩⟩
  case round =>
    obtain ⟨hgr, hs⟩ := hrel
    rcases hs with ⟨rfl, rfl⟩ | ⟨rfl, A, c', rfl⟩
    · have hc1 : wr.cell? ⟨g, 0, none⟩ = some (.int .i64 1) := (World.cell?_of_block (hgr.block g hlt (by simp))).trans hc
      go_wp2_with fail
      refine (lowest_one _).mono ?_
      rintro e w3 ⟨rfl, hg3⟩
      go_wp2_with fail
      go_roundw
      case rel => exact ⟨grow_drew (grow_alloc (grow_alloc (grow_trans hgr hg3) _) _), .inr ⟨rfl, _, _, rfl⟩⟩
      case measure => simp [intOf]
    · go_wp2_with fail
      go_ret2
      exact ⟨_, _, rfl, grow_trans hgw hgr⟩
end Go.Proofs.YtdoooppeiphefaaGreatDoor
namespace Go.Proofs.YtdoooppeiphefaaGreatDoor
open Go.RowKit
theorem timeE_okT {a b : Int} (h : timeE a b = 0) : 0 ≤ a ∧ a < b ∧ b ≤ 5761439 := by
  unfold timeE at h
  split at h
  · cases h
  · omega
theorem tdays_any (fr tt : Int) (w : World) :
  Calls Tryz.prog 91 #[.agg #[.int .i64 fr, .int .i64 tt]] w (fun e w' => e = .returned (.tuple #[.int .i64 (if timeE fr tt = 0 then daysV fr tt else 0), .int .i64 (timeE fr tt)]) ∧ w.grownBy w' none) := by
 refine gw_enter ⟨12, w, none, []⟩ Tryz.func91 rfl Tryz.ntmps91 rfl (mem0 (X := []) allF_nil allL_nil) ?_
 refine sr_ ?_
 refine wl_box rfl rfl rfl fun g1 => ?_
 refine sg_ rfl (sg_ rfl (nn_ (gw_seq (sr_ ?_))))
 refine wl_ov (ov_loads rz39 rfl (fun _ hm => hm.blkI 0 rfl) rfl rfl) rfl ?_
 refine wl_callv rfl cb114 rfl rfl (fun wx hm => (time_any _ _ wx)) ?_
 refine sg_ rfl (nn_ (sr_ (mv_ rfl (wl_ov (ov_neq rfl rfl) rfl (nn_ ?_)))))
 refine gw_cond rfl (fun hh => ?_) (fun hh => ?_)
 ·have h1 : ¬ (timeE fr tt = 0) := by simpa using hh
  clear hh
  refine sr_ (mv_ rfl (sg_ rfl (sg_ rfl (nn_ ?_))))
  refine gw_ret ?_
  refine nx_then_ret ?_
  refine nx_ret2 rfl rfl rfl fun wx hm => ?_
  exact ⟨by rw [if_neg h1], hm.g⟩
 have h1 : timeE fr tt = 0 := by simpa using hh
 clear hh
 refine gw_skip (nx_then (sr_ ?_))
 obtain ⟨h2, h3, h4⟩ := timeE_okT h1
 refine wl_ov (ov_loads rz39 rfl (fun _ hm => hm.blkI 0 rfl) rfl rfl) rfl ?_
 refine wl_callv rfl cb188 rfl rfl (fun wx hm => (days_any _ _ wx (by omega) (by omega) (by omega))) ?_
 refine sg_ rfl (sg_ rfl (nn_ ?_))
 refine gw_ret ?_
 refine nx_ret2 rfl rfl rfl fun wx hm => ?_
 exact ⟨by rw [if_pos h1, h1], hm.g⟩
end Go.Proofs.YtdoooppeiphefaaGreatDoor
namespace Go.Proofs.YtdoooppeiphefaaGreatDoor
open Go.RowKit
theorem ready_open : isOpenV ⟨⟨#[115]⟩, [0, 9, 0, 0, 0, 0, 0, 0, 0, 0, 0, 0, 0, 0]⟩ 8 = true ∧ isOpenE ⟨⟨#[115]⟩, [0, 9, 0, 0, 0, 0, 0, 0, 0, 0, 0, 0, 0, 0]⟩ 8 = 0 := ⟨by kernel_rfl, by kernel_rfl⟩
theorem ready_days : (if timeE 0 1441 = 0 then daysV 0 1441 else 0) = 2 ∧ timeE 0 1441 = 0 := ⟨by decide +kernel, by decide +kernel⟩
theorem ready_hire : hireE ⟨⟨#[104]⟩, ⟨#[100]⟩, 5, 9, [startLeg ⟨#[118]⟩ ⟨5, ⟨#[115]⟩, 0, 0⟩]⟩ = 0 := by kernel_rfl
set_option maxRecDepth 100000 in
set_option maxHeartbeats 1000000 in
theorem ready_any (w : World) : Calls Tryz.prog 28 #[] w (fun e w' => e = .returned (.bool true) ∧ w.grownBy w' none) := by
  have cD : ∀ w, Calls Tryz.prog 91 #[.agg #[.int .i64 0, .int .i64 1441]] w (fun e w' => e = .returned (.tuple #[.int .i64 2, .int .i64 0]) ∧ w.grownBy w' none) := fun w => by
    have h := tdays_any 0 1441 w
    rw [ready_days.1, ready_days.2] at h
    exact h
  have cO : ∀ w, Calls Tryz.prog 92 #[.agg #[.string ⟨#[115]⟩, .int .i64 0, .int .i64 9, .int .i64 0, .int .i64 0, .int .i64 0, .int .i64 0, .int .i64 0, .int .i64 0, .int .i64 0, .int .i64 0, .int .i64 0, .int .i64 0, .int .i64 0, .int .i64 0], .int .i64 8] w (RetBE w true 0) := fun w => by
    have hs : ∀ h ∈ [0, 9, 0, 0, 0, 0, 0, 0, 0, 0, 0, 0, 0, (0 : Int)], 0 ≤ h ∧ h ≤ 9 := by decide
    have h := lotOpen_any ⟨#[115]⟩ [0, 9, 0, 0, 0, 0, 0, 0, 0, 0, 0, 0, 0, 0] 8 w ⟨rfl, (by decide : (⟨#[115]⟩ : ByteArray).size ≤ 1000000), fun h hh => by have := hs h hh; omega⟩ (fun h hh => by have := hs h hh; omega)
    rw [ready_open.1, ready_open.2] at h
    exact h
  have cH : ∀ w, Calls Tryz.prog 94 #[.string ⟨#[104]⟩, .string ⟨#[100]⟩, .agg #[.int .i64 5, .int .i64 9], .string ⟨#[118]⟩, .agg #[.int .i64 5, .string ⟨#[115]⟩, .int .i64 0, .int .i64 0]] w (fun e w' => ∃ A, e = .returned (.tuple #[.agg #[.string ⟨#[104]⟩, .string ⟨#[100]⟩, .int .i64 5, .int .i64 9, .slice A 1 1], .int .i64 0]) ∧ w.grownBy w' none) := fun w => by
    have h := start_any ⟨#[104]⟩ ⟨#[100]⟩ 5 9 ⟨#[118]⟩ ⟨5, ⟨#[115]⟩, 0, 0⟩ w (by decide) (by decide) (by decide) (by decide : (⟨#[115]⟩ : ByteArray).size ≤ 1000000)
    rw [ready_hire] at h
    exact h.mono fun e w' ⟨A, h1, _, h3⟩ => ⟨A, h1, h3⟩
  have CD := Lib.hid cD
  have CO := Lib.hid cO
  have CH := Lib.hid cH
  clear cD cO cH
  go_enter Tryz.func28, Tryz.ntmps28
  go_wp2_with fail
  refine (CD.out _).mono ?_
  rintro e w1 ⟨rfl, hg1⟩
  go_wp2_with fail
  refine (CO.out _).mono ?_
  rintro e w2 ⟨rfl, hg2⟩
  go_wp2_with fail
  refine (bspread_nil _).mono ?_
  rintro e w3 ⟨A3, c3, rfl, hg3⟩
  go_wp2_with fail
  refine (CH.out _).mono ?_
  rintro e w4 ⟨A4, rfl, hg4⟩
  go_wp2_with fail
  go_ret
  exact ⟨rfl, grow_alloc (grow_trans (grow_trans (grow_trans hg1 hg2) hg3) hg4) _⟩
end Go.Proofs.YtdoooppeiphefaaGreatDoor
namespace Go.Proofs.YtdoooppeiphefaaGreatDoor
open Go.RowKit
theorem veh_in {vl : List Vh} {j : Nat} {y : Vh} (h : vl[j]? = some y) : ¬ ixP (vhP y.key) vl 0 < 0 := by
  rcases ixP_spec (p := vhP y.key) vl 0 with ⟨_, h2⟩ | ⟨j, y, h2, _⟩
  · have := h2 y (List.mem_of_getElem? h)
    unfold vhP at this
    simp at this
  · omega
theorem tripsR_len {el : List Ev} {v : ByteArray} : (tripsR el v).length ≤ el.length + 1 := by
  have h1 := trR_len (stages el v) ⟨#[]⟩
  have h2 : (stages el v).length ≤ el.length + 1 := Nat.succ_le_succ stgs_len
  unfold tripsR
  omega
theorem timesAdd_walk (a0 : Option Addr) (len0 cap0 : Nat) (z0 : List Int) (w : World) (hR : RowIn w a0 len0 cap0 z0) :
  Calls Tryz.prog 4 #[.slice a0 len0 cap0] w fun e w' => e = .returned (.bool true) ∧ Below w.heap.size w w' := by
 refine gw_enter ⟨133, w, none, []⟩ Tryz.func4 rfl Tryz.ntmps4 rfl (mem0 (X := []) allF_nil allL_nil) ?_
 refine sr_ (sg_ rfl (nn_ (sr_ (mv_ rfl ?_))))
 refine wl_ov (ov_build (cs := [.slice a0 len0 cap0, .int .i64 0]) rfl (by kernel_rfl)) rfl ?_
 refine wl_box rfl rfl rfl fun sb => ?_
 refine sg_ rfl (nn_ (sr_ (mv_ rfl ?_)))
 refine wl_law [156, 158, 69, 164, 105] hR 0 rfl fun w1 B hg1 hsb => ?_
 refine wl_calls (γ := Option Addr × Option Addr × Option Addr × Option Addr × Nat × Nat × Nat × Nat × Nat × Nat × Nat × List St × List Cs × List Vh × List Pl) (val := (fun g => .agg #[.slice g.1 g.2.2.2.2.1 g.2.2.2.2.2.1, .slice g.2.1 4 g.2.2.2.2.2.2.1, .slice g.2.2.1 g.2.2.2.2.2.2.2.1 g.2.2.2.2.2.2.2.2.1, .slice g.2.2.2.1 g.2.2.2.2.2.2.2.2.2.1 g.2.2.2.2.2.2.2.2.2.2.1])) (φ := (fun g => RfOk g.2.2.2.2.2.2.2.2.2.2.2.1 g.2.2.2.2.2.2.2.2.2.2.2.2.1 g.2.2.2.2.2.2.2.2.2.2.2.2.2.1 g.2.2.2.2.2.2.2.2.2.2.2.2.2.2 g.2.2.2.2.1 g.2.2.2.2.2.2.2.1 g.2.2.2.2.2.2.2.2.2.1 ∧ fleetE g.2.2.2.2.2.2.2.2.2.2.2.1 g.2.2.2.2.2.2.2.2.2.2.2.2.1 g.2.2.2.2.2.2.2.2.2.2.2.2.2.1 g.2.2.2.2.2.2.2.2.2.2.2.2.2.2 = 0)) (Y := (fun g => fun wy => SlT stEnc 15 156 wy g.1 g.2.2.2.2.1 g.2.2.2.2.2.2.2.2.2.2.2.1 ∧ SlT csEnc 2 158 wy g.2.1 4 g.2.2.2.2.2.2.2.2.2.2.2.2.1 ∧ SlT vhEnc 2 69 wy g.2.2.1 g.2.2.2.2.2.2.2.1 g.2.2.2.2.2.2.2.2.2.2.2.2.2.1 ∧ SlT plEnc 3 164 wy g.2.2.2.1 g.2.2.2.2.2.2.2.2.2.1 g.2.2.2.2.2.2.2.2.2.2.2.2.2.2)) (m' := 0 + 300) rfl cb25 rfl rfl rfl rfl (fun wx hm => (rightFleet_anyF wx B sb _ hm.k (by omega)).mono fun _ _ ⟨sA, cA, vA, pA, sn, sc, cc, vn, vc, pn, pc, sl, cl, vl, pl, he, ⟨hok, hz⟩, hS, hg, ho1, ho2, ho3, hc⟩ => ⟨(sA, cA, vA, pA, sn, sc, cc, vn, vc, pn, pc, sl, cl, vl, pl), he, ⟨hok, hz⟩, hS, hg, SlT.ofOwnL stEnc_lenL (fun x hx => stB_ok (hok.1.2.1 x hx)) ho1 hok.1.1, hc, SlT.ofOwn vh_len ho2 hok.2.2.1.1, SlT.ofOwn pl_len ho3 hok.2.2.2.1⟩) (fun _ => (SlT.lasts2 rfl).and_ ((SlT.lasts2 rfl).and_ ((SlT.lasts2 rfl).and_ (SlT.lasts2 rfl)))) ?_
 rintro ⟨sA, cA, vA, pA, sn, sc, cc, vn, vc, pn, pc, sl, cl, vl, pl⟩ hfl
 dsimp only at hfl ⊢
 obtain ⟨⟨⟨hsl, hsB, hs1, hs3⟩, ⟨hcl4, hcok⟩, ⟨hvl, hvB, hvn4⟩, hpl, hpB, hpn5⟩, hfz⟩ := hfl
 have hsok : ∀ x ∈ sl, StOk x := fun x hx => stB_ok (hsB x hx)
 have hvok : ∀ x ∈ vl, VhOk x := fun x hx => vhB_ok (hvB x hx)
 have hpok : ∀ x ∈ pl, PlOk x := fun x hx => plB_ok (hpB x hx)
 refine wl_alloc zc31 rfl fun g1 => ?_
 refine wl_stores (cs' := [.slice sA sn sc, .slice cA 4 cc, .slice vA vn vc, .slice pA pn pc]) 0 rz31 rfl rfl rfl rfl rfl rfl rfl rfl ?_
 refine nn_ ?_
 refine gw_cut (γ := Option Addr × Nat × Nat × List Ev × Nat × Int × Int) (I := (fun g => (g.2.2.2.1.length = g.2.1 ∧ (∀ x ∈ g.2.2.2.1, EvOk x) ∧ g.2.1 ≤ 20) ∧ (-2000000000000000 ≤ g.2.2.2.2.2.1 ∧ g.2.2.2.2.2.1 ≤ 2000000000000000) ∧ (-2000000000000000 ≤ g.2.2.2.2.2.2 ∧ g.2.2.2.2.2.2 ≤ 2000000000000000))) (S' := (fun g => [(2, .bool false), (3, .pointer (some ⟨sb, 0, none⟩)), (4, .pointer (some ⟨g1, 0, none⟩)), (5, .slice g.1 g.2.1 g.2.2.1), (6, .pointer (some ⟨g.2.2.2.2.1, 0, none⟩))])) (K' := (fun g => fun w => Strm 25 w B sb 2000)) (L' := (fun g => [(g.2.2.2.2.1, 39, [.int .i64 g.2.2.2.2.2.1, .int .i64 g.2.2.2.2.2.2]), (g1, 31, [.slice sA sn sc, .slice cA 4 cc, .slice vA vn vc, .slice pA pn pc])])) (O' := (fun g => [])) (X' := (fun g => [fun wy => SlT stEnc 15 156 wy sA sn sl ∧ SlT csEnc 2 158 wy cA 4 cl ∧ SlT vhEnc 2 69 wy vA vn vl ∧ SlT plEnc 3 164 wy pA pn pl, fun wy => SlT evEnc 5 105 wy g.1 g.2.1 g.2.2.2.1])) ?_ ?_
 ·refine gd (fun wz => Blk wz g1 31 [.slice sA sn sc, .slice cA 4 cc, .slice vA vn vc, .slice pA pn pc] ∧ (fun wy => SlT stEnc 15 156 wy sA sn sl ∧ SlT csEnc 2 158 wy cA 4 cl ∧ SlT vhEnc 2 69 wy vA vn vl ∧ SlT plEnc 3 164 wy pA pn pl) wz ∧ True) mixed (fun _ hm => ⟨hm.bl 0, hm.fa 0, trivial⟩) fun z => ?_
  refine wt 0 10 1 rfl z (ov_move rfl) ?_
  refine wt 1 10 3 rfl z (ov_loads rz31 rfl (fun _ hm => hm.1) rfl rfl) ?_
  refine wt 2 10 7 rfl z (ov_move rfl) ?_
  refine wt 5 10 39 rfl z (ov_move rfl) ?_
  refine wa_all [3, 7] (by kernel_rfl) rfl ⟨⟨_, rfl, ?_⟩, ⟨_, rfl, ?_⟩, trivial⟩
  ·refine wl_got (γ := Int) (val := fun v => .int .i64 v) (φ := fun v => 0 ≤ v ∧ (v ≤ 14 ∨ v = 0)) rfl cb10 rfl rfl rfl rfl (fun wx hm => (range_any _ _ wx B sb _ hm.k (by omega) (by omega) (by omega) (by omega) (by omega))) fun v2 hv2 => ?_
   obtain ⟨q, hq⟩ := Int.eq_ofNat_of_zero_le (show 0 ≤ v2 by omega)
   have hq20 : q ≤ 20 := by omega
   subst hq
   refine wl_nil ?_
   refine nw 10 47 (fun _ hm => ⟨hm.bl 0, hm.fa 0, trivial⟩) fun z => ?_
   refine wa_all [4, 7] (by kernel_rfl) rfl ⟨⟨_, rfl, ?_⟩, ⟨_, rfl, ?_⟩, trivial⟩
   ·refine wl_calls (γ := Option Addr × Nat × Nat × List Ev) (val := (fun g => .slice g.1 g.2.1 g.2.2.1)) (φ := (fun g => g.2.2.2.length = g.2.1 ∧ (∀ x ∈ g.2.2.2, EvOk x) ∧ g.2.1 ≤ q)) (Y := (fun g => fun wy => SlT evEnc 5 105 wy g.1 g.2.1 g.2.2.2)) (m' := 0 + 300 + 1 + (20 * q + 20)) rfl cb26 rfl rfl rfl rfl (fun wx hm => (glog_any sl vl sA cA vA pA sn sc 4 cc vn vc pn pc q wx B sb _ hm.k (by omega) (hm.fact 0 rfl).1 (hm.fact 0 rfl).2.2.1 hsok hvok (by omega) (by omega) (by omega)).mono fun _ _ ⟨A, n, c, l, he, ho, hl, hok, hn, hS, hg⟩ => ⟨(A, n, c, l), he, ⟨hl, hok, hn⟩, hS, hg, SlT.ofOwn ev_len ho hl⟩) (fun _ => SlT.lasts2 rfl) ?_
    rintro ⟨eA, en, ec, el⟩ hel
    dsimp only at hel ⊢
    obtain ⟨hell, heok, henq⟩ := hel
    refine wl_nil ?_
    refine nw 10 63 (fun _ hm => ⟨hm.bl 0, hm.fa 1, trivial⟩) fun z => ?_
    refine wa_all [6, 7] (by kernel_rfl) rfl ⟨⟨_, rfl, ?_⟩, ⟨_, rfl, ?_⟩, trivial⟩
    ·refine wl_calls (γ := Int × Int) (val := (fun g => .agg #[.int .i64 g.1, .int .i64 g.2])) (φ := (fun g => (-2000000000000000 ≤ g.1 ∧ g.1 ≤ 2000000000000000) ∧ (-2000000000000000 ≤ g.2 ∧ g.2 ≤ 2000000000000000))) (Y := (fun g => fun _ => True)) (m' := 0 + 300 + 1 + (20 * q + 20) + 20) rfl cb12 rfl rfl rfl rfl (fun wx hm => (gwindow_any wx B sb _ hm.k (by omega)).mono fun _ _ ⟨a, b, he, h1, h2, hS, hg⟩ => ⟨(a, b), he, ⟨h1, h2⟩, hS, hg, trivial⟩) (fun _ => Lasts2.true_) ?_
     rintro ⟨a, b⟩ hwin
     dsimp only at hwin ⊢
     refine wl_nil ?_
     refine nw 10 127 (fun _ hm => ⟨hm.bl 0, hm.fa 2, trivial⟩) fun z => ?_
     refine wa1 7 rfl ?_
     refine wl_alloc zc39 rfl fun g4 => ?_
     refine wl_nil ?_
     refine nw 10 255 (fun _ hm => ⟨hm.bl 1, hm.fa 2, trivial⟩) fun z => ?_
     refine wt 8 10 511 rfl z (ov_assign rfl) ?_
     refine wa1 9 rfl ?_
     refine wl_stores (cs' := [.int .i64 a, .int .i64 b]) 0 rz39 rfl rfl rfl rfl rfl rfl rfl rfl ?_
     refine wl_nil ?_
     refine nw 10 1023 (fun _ hm => ⟨hm.bl 1, hm.fa 2, trivial⟩) fun z => ?_
     refine wa_done (by kernel_rfl) ?_
     exact nx_meet (eA, en, ec, el, g4, a, b) ⟨⟨hell, heok, by dsimp only; omega⟩, hwin⟩ ⟨rfl, rfl, rfl, rfl, rfl, trivial⟩ (fun _ hm => (hm.more rfl (by first | omega | (dsimp only; omega))).pick [0, 1] [] [2, 1] rfl rfl)
    refine wl_alloc zc39 rfl fun g5 => ?_
    refine wl_nil ?_
    refine nw 10 191 (fun _ hm => ⟨hm.bl 1, hm.fa 1, trivial⟩) fun z => ?_
    refine wa1 6 rfl ?_
    refine wl_calls (γ := Int × Int) (val := (fun g => .agg #[.int .i64 g.1, .int .i64 g.2])) (φ := (fun g => (-2000000000000000 ≤ g.1 ∧ g.1 ≤ 2000000000000000) ∧ (-2000000000000000 ≤ g.2 ∧ g.2 ≤ 2000000000000000))) (Y := (fun g => fun _ => True)) (m' := 0 + 300 + 1 + (20 * q + 20) + 20) rfl cb12 rfl rfl rfl rfl (fun wx hm => (gwindow_any wx B sb _ hm.k (by omega)).mono fun _ _ ⟨a, b, he, h1, h2, hS, hg⟩ => ⟨(a, b), he, ⟨h1, h2⟩, hS, hg, trivial⟩) (fun _ => Lasts2.true_) ?_
    rintro ⟨a, b⟩ hwin
    dsimp only at hwin ⊢
    refine wl_nil ?_
    refine nw 10 255 (fun _ hm => ⟨hm.bl 1, hm.fa 2, trivial⟩) fun z => ?_
    refine wt 8 10 511 rfl z (ov_assign rfl) ?_
    refine wa1 9 rfl ?_
    refine wl_stores (cs' := [.int .i64 a, .int .i64 b]) 0 rz39 rfl rfl rfl rfl rfl rfl rfl rfl ?_
    refine wl_nil ?_
    refine nw 10 1023 (fun _ hm => ⟨hm.bl 1, hm.fa 2, trivial⟩) fun z => ?_
    refine wa_done (by kernel_rfl) ?_
    exact nx_meet (eA, en, ec, el, g5, a, b) ⟨⟨hell, heok, by dsimp only; omega⟩, hwin⟩ ⟨rfl, rfl, rfl, rfl, rfl, trivial⟩ (fun _ hm => (hm.more rfl (by first | omega | (dsimp only; omega))).pick [0, 1] [] [2, 1] rfl rfl)
   refine wl_alloc zc39 rfl fun g7 => ?_
   refine wl_nil ?_
   refine nw 10 175 (fun _ hm => ⟨hm.bl 1, hm.fa 0, trivial⟩) fun z => ?_
   refine wa1 4 rfl ?_
   refine wl_calls (γ := Option Addr × Nat × Nat × List Ev) (val := (fun g => .slice g.1 g.2.1 g.2.2.1)) (φ := (fun g => g.2.2.2.length = g.2.1 ∧ (∀ x ∈ g.2.2.2, EvOk x) ∧ g.2.1 ≤ q)) (Y := (fun g => fun wy => SlT evEnc 5 105 wy g.1 g.2.1 g.2.2.2)) (m' := 0 + 300 + 1 + (20 * q + 20)) rfl cb26 rfl rfl rfl rfl (fun wx hm => (glog_any sl vl sA cA vA pA sn sc 4 cc vn vc pn pc q wx B sb _ hm.k (by omega) (hm.fact 0 rfl).1 (hm.fact 0 rfl).2.2.1 hsok hvok (by omega) (by omega) (by omega)).mono fun _ _ ⟨A, n, c, l, he, ho, hl, hok, hn, hS, hg⟩ => ⟨(A, n, c, l), he, ⟨hl, hok, hn⟩, hS, hg, SlT.ofOwn ev_len ho hl⟩) (fun _ => SlT.lasts2 rfl) ?_
   rintro ⟨eA, en, ec, el⟩ hel
   dsimp only at hel ⊢
   obtain ⟨hell, heok, henq⟩ := hel
   refine wl_nil ?_
   refine nw 10 191 (fun _ hm => ⟨hm.bl 1, hm.fa 1, trivial⟩) fun z => ?_
   refine wa1 6 rfl ?_
   refine wl_calls (γ := Int × Int) (val := (fun g => .agg #[.int .i64 g.1, .int .i64 g.2])) (φ := (fun g => (-2000000000000000 ≤ g.1 ∧ g.1 ≤ 2000000000000000) ∧ (-2000000000000000 ≤ g.2 ∧ g.2 ≤ 2000000000000000))) (Y := (fun g => fun _ => True)) (m' := 0 + 300 + 1 + (20 * q + 20) + 20) rfl cb12 rfl rfl rfl rfl (fun wx hm => (gwindow_any wx B sb _ hm.k (by omega)).mono fun _ _ ⟨a, b, he, h1, h2, hS, hg⟩ => ⟨(a, b), he, ⟨h1, h2⟩, hS, hg, trivial⟩) (fun _ => Lasts2.true_) ?_
   rintro ⟨a, b⟩ hwin
   dsimp only at hwin ⊢
   refine wl_nil ?_
   refine nw 10 255 (fun _ hm => ⟨hm.bl 1, hm.fa 2, trivial⟩) fun z => ?_
   refine wt 8 10 511 rfl z (ov_assign rfl) ?_
   refine wa1 9 rfl ?_
   refine wl_stores (cs' := [.int .i64 a, .int .i64 b]) 0 rz39 rfl rfl rfl rfl rfl rfl rfl rfl ?_
   refine wl_nil ?_
   refine nw 10 1023 (fun _ hm => ⟨hm.bl 1, hm.fa 2, trivial⟩) fun z => ?_
   refine wa_done (by kernel_rfl) ?_
   exact nx_meet (eA, en, ec, el, g7, a, b) ⟨⟨hell, heok, by dsimp only; omega⟩, hwin⟩ ⟨rfl, rfl, rfl, rfl, rfl, trivial⟩ (fun _ hm => (hm.more rfl (by first | omega | (dsimp only; omega))).pick [0, 1] [] [2, 1] rfl rfl)
  refine wl_alloc zc39 rfl fun g9 => ?_
  refine wl_nil ?_
  refine nw 10 167 (fun _ hm => ⟨hm.bl 1, hm.fa 0, trivial⟩) fun z => ?_
  refine wa1 3 rfl ?_
  refine wl_got (γ := Int) (val := fun v => .int .i64 v) (φ := fun v => 0 ≤ v ∧ (v ≤ 14 ∨ v = 0)) rfl cb10 rfl rfl rfl rfl (fun wx hm => (range_any _ _ wx B sb _ hm.k (by omega) (by omega) (by omega) (by omega) (by omega))) fun v10 hv10 => ?_
  obtain ⟨q, hq⟩ := Int.eq_ofNat_of_zero_le (show 0 ≤ v10 by omega)
  have hq20 : q ≤ 20 := by omega
  subst hq
  refine wl_nil ?_
  refine nw 10 175 (fun _ hm => ⟨hm.bl 1, hm.fa 0, trivial⟩) fun z => ?_
  refine wa1 4 rfl ?_
  refine wl_calls (γ := Option Addr × Nat × Nat × List Ev) (val := (fun g => .slice g.1 g.2.1 g.2.2.1)) (φ := (fun g => g.2.2.2.length = g.2.1 ∧ (∀ x ∈ g.2.2.2, EvOk x) ∧ g.2.1 ≤ q)) (Y := (fun g => fun wy => SlT evEnc 5 105 wy g.1 g.2.1 g.2.2.2)) (m' := 0 + 300 + 1 + (20 * q + 20)) rfl cb26 rfl rfl rfl rfl (fun wx hm => (glog_any sl vl sA cA vA pA sn sc 4 cc vn vc pn pc q wx B sb _ hm.k (by omega) (hm.fact 0 rfl).1 (hm.fact 0 rfl).2.2.1 hsok hvok (by omega) (by omega) (by omega)).mono fun _ _ ⟨A, n, c, l, he, ho, hl, hok, hn, hS, hg⟩ => ⟨(A, n, c, l), he, ⟨hl, hok, hn⟩, hS, hg, SlT.ofOwn ev_len ho hl⟩) (fun _ => SlT.lasts2 rfl) ?_
  rintro ⟨eA, en, ec, el⟩ hel
  dsimp only at hel ⊢
  obtain ⟨hell, heok, henq⟩ := hel
  refine wl_nil ?_
  refine nw 10 191 (fun _ hm => ⟨hm.bl 1, hm.fa 1, trivial⟩) fun z => ?_
  refine wa1 6 rfl ?_
  refine wl_calls (γ := Int × Int) (val := (fun g => .agg #[.int .i64 g.1, .int .i64 g.2])) (φ := (fun g => (-2000000000000000 ≤ g.1 ∧ g.1 ≤ 2000000000000000) ∧ (-2000000000000000 ≤ g.2 ∧ g.2 ≤ 2000000000000000))) (Y := (fun g => fun _ => True)) (m' := 0 + 300 + 1 + (20 * q + 20) + 20) rfl cb12 rfl rfl rfl rfl (fun wx hm => (gwindow_any wx B sb _ hm.k (by omega)).mono fun _ _ ⟨a, b, he, h1, h2, hS, hg⟩ => ⟨(a, b), he, ⟨h1, h2⟩, hS, hg, trivial⟩) (fun _ => Lasts2.true_) ?_
  rintro ⟨a, b⟩ hwin
  dsimp only at hwin ⊢
  refine wl_nil ?_
  refine nw 10 255 (fun _ hm => ⟨hm.bl 1, hm.fa 2, trivial⟩) fun z => ?_
  refine wt 8 10 511 rfl z (ov_assign rfl) ?_
  refine wa1 9 rfl ?_
  refine wl_stores (cs' := [.int .i64 a, .int .i64 b]) 0 rz39 rfl rfl rfl rfl rfl rfl rfl rfl ?_
  refine wl_nil ?_
  refine nw 10 1023 (fun _ hm => ⟨hm.bl 1, hm.fa 2, trivial⟩) fun z => ?_
  refine wa_done (by kernel_rfl) ?_
  exact nx_meet (eA, en, ec, el, g9, a, b) ⟨⟨hell, heok, by dsimp only; omega⟩, hwin⟩ ⟨rfl, rfl, rfl, rfl, rfl, trivial⟩ (fun _ hm => (hm.more rfl (by first | omega | (dsimp only; omega))).pick [0, 1] [] [2, 1] rfl rfl)
 rintro ⟨eA, en, ec, el, gw, a, b⟩ hinv
 replace hinv : (el.length = en ∧ (∀ x ∈ el, EvOk x) ∧ en ≤ 20) ∧ (-2000000000000000 ≤ a ∧ a ≤ 2000000000000000) ∧ (-2000000000000000 ≤ b ∧ b ≤ 2000000000000000) := hinv
 dsimp only
 refine gw_seq (sr_ ?_)
 obtain ⟨⟨hell, heok, hen20⟩, hwin⟩ := hinv
 obtain ⟨LE, hLE⟩ : ∃ z, z = logE sl vl el := ⟨_, rfl⟩
 obtain ⟨WE, hWE⟩ : ∃ z, z = windowE a b := ⟨_, rfl⟩
 by_cases hv0 : vn = 0
 ·refine fd_ fo31_2 rfl rfl (lk_ sc28 1 rfl rfl rfl (wl_ov (ov_len es28 rfl) rfl (wl_ov (ov_eql rfl rfl) rfl ?_)))
  refine wl_set 31 (v' := .bool true) rfl (congrArg Value.bool (decide_eq_true (show ((vn : Nat) : Int) = 0 by omega))) ?_
  refine mv_ rfl (goff rfl rfl rfl (goff rfl rfl rfl (goff rfl rfl rfl (goff rfl rfl rfl (pt_ rfl rfl (mv_ rfl (goff rfl rfl rfl (goff rfl rfl rfl (goff rfl rfl rfl (pt_ rfl rfl (nn_ (ct_ rfl ?_))))))))))))
  refine sr_ ?_
  refine wl_callv rfl cb28 rfl rfl (fun wx hm => (ready_any wx)) ?_
  refine sg_ rfl (nn_ ?_)
  refine gw_ret ?_
  refine nx_then_ret ?_
  refine nx_ret1 rfl rfl fun wx hm => ?_
  exact ⟨rfl, law_end hg1 hsb hm.g⟩
 by_cases hl0 : LE = 0
 ·subst hl0
  by_cases hw0 : WE = 0
  ·subst hw0
   obtain ⟨ha0, hab, hb0⟩ := windowE_ok hWE.symm
   obtain ⟨hsort, hfine, _⟩ := log_ok hLE.symm
   have hev : evsE sl cl vl pl el = 0 := by unfold evsE; rw [hfz, ← hLE]; rfl
   refine fd_ fo31_2 rfl rfl (lk_ sc28 1 rfl rfl rfl (wl_ov (ov_len es28 rfl) rfl (wl_ov (ov_eql rfl rfl) rfl ?_)))
   refine wl_set 31 (v' := .bool false) rfl (congrArg Value.bool (decide_eq_false (show ¬ ((vn : Nat) : Int) = 0 by omega))) ?_
   refine mv_ rfl (wl_guard_on rfl rfl rfl ?_)
   refine wl_ov (ov_loads rz31 rfl (fun _ hm => hm.blkI 1 rfl) rfl rfl) rfl ?_
   refine wl_guard_on rfl rfl rfl (mv_ rfl (wl_guard_on rfl rfl rfl ?_))
   refine wl_callv (v := .int .i64 0) rfl cb27 rfl rfl (fun wx hm => (by rw [hLE]; exact logFault_any sl vl sA cA vA pA sn sc 4 cc vn vc pn pc el eA en ec wx (hm.fact 0 rfl).1 (hm.fact 0 rfl).2.2.1 hsok (by omega) (by omega) (hm.fact 1 rfl) heok (by omega))) ?_
   refine wl_guard_on rfl rfl rfl (wl_ov (ov_neq rfl rfl) rfl ?_)
   refine wl_set 36 (v' := .bool false) rfl (congrArg Value.bool (by decide)) ?_
   refine pf_ rfl rfl (mv_ rfl (wl_guard_on rfl rfl rfl ?_))
   refine wl_ov (ov_loads rz39 rfl (fun _ hm => hm.blkI 0 rfl) rfl rfl) rfl ?_
   refine wl_guard_on rfl rfl rfl ?_
   refine wl_callv (v := .int .i64 0) rfl cb19 rfl rfl (fun wx hm => (by have h := windowFault_any a b wx; rw [← hWE] at h; exact h)) ?_
   refine wl_guard_on rfl rfl rfl (wl_ov (ov_neq rfl rfl) rfl ?_)
   refine wl_set 41 (v' := .bool false) rfl (congrArg Value.bool (by decide)) ?_
   refine pf_ rfl rfl (nn_ (cf_ rfl (gw_skip (nx_then ?_))))
   refine gw_look (R := ∃ b o, vA = some ⟨b, o, none⟩) (fun wx hm => by obtain ⟨b, off, hA, _, _⟩ := SlT.get (hm.fact 0 rfl).2.2.1 (by omega); exact ⟨b, off, hA⟩) ?_
   rintro ⟨bv, ov, rfl⟩
   refine gw_seq ?_
   refine gd (fun wz => Blk wz gw 39 [.int .i64 a, .int .i64 b] ∧ Blk wz g1 31 [.slice sA sn sc, .slice cA 4 cc, .slice (some ⟨bv, ov, none⟩) vn vc, .slice pA pn pc] ∧ (fun wy => SlT stEnc 15 156 wy sA sn sl ∧ SlT csEnc 2 158 wy cA 4 cl ∧ SlT vhEnc 2 69 wy (some ⟨bv, ov, none⟩) vn vl ∧ SlT plEnc 3 164 wy pA pn pl) wz ∧ (fun wy => SlT evEnc 5 105 wy eA en el) wz ∧ True) mixed (fun _ hm => ⟨hm.bl 0, hm.bl 1, hm.fa 0, hm.fa 1, trivial⟩) fun z => ?_
   refine wt 0 11 1 rfl z (ov_field fo31_2 rfl rfl) ?_
   refine wt 1 11 3 rfl z (ov_load sc28 rfl (fun _ hm => hm.2.1) rfl) ?_
   refine wt 2 11 7 rfl z (ov_move rfl) ?_
   refine wt 3 11 15 rfl z (ov_field fo31_2 rfl rfl) ?_
   refine wt 4 11 31 rfl z (ov_load sc28 rfl (fun _ hm => hm.2.1) rfl) ?_
   refine wt 5 11 63 rfl z (ov_len es28 rfl) ?_
   refine wa1 6 rfl ?_
   refine wl_got (γ := Int) (val := fun v => .int .i64 v) (φ := fun v => IsBelow ((vn : Nat) : Int) v) rfl cb29 rfl rfl rfl rfl (fun wx hm => (next_any _ wx B sb _ hm.k (by omega) (by omega) (by omega))) fun vj hvj => ?_
   have hj := isBelow_lt hvj (by omega)
   obtain ⟨j, rfl⟩ := Int.eq_ofNat_of_zero_le hj.1
   have hji : j < vn := by omega
   obtain ⟨y, hy⟩ : ∃ y, vl[j]? = some y := ⟨_, List.getElem?_eq_getElem (by omega)⟩
   obtain ⟨kv, y1⟩ := y
   have hkix := veh_in hy
   dsimp only at hkix
   refine wl_nil ?_
   refine nw 11 127 (fun _ hm => ⟨hm.bl 0, hm.bl 1, hm.fa 0, hm.fa 1, trivial⟩) fun z => ?_
   refine wt 7 11 255 rfl z (ov_index (j := j) es28 rfl rfl (by omega)) ?_
   refine wt 8 11 511 rfl z (ov_field fo69_0 rfl rfl) ?_
   refine wt 9 11 1023 rfl z (ov_elem1 (k := 0) (v := .string kv) sc9 rfl (fun _ hm => (hm.2.2.1).2.2.1) hy rfl rfl) ?_
   refine wt 10 11 2047 rfl z (ov_assign rfl) ?_
   refine wa_done (by kernel_rfl) ?_
   refine nx_then (sr_ ?_)
   refine wl_ov (ov_loads rz31 rfl (fun _ hm => hm.blkI 1 rfl) rfl rfl) rfl ?_
   refine mv_ rfl (mv_ rfl ?_)
   refine wl_ov (ov_loads rz39 rfl (fun _ hm => hm.blkI 0 rfl) rfl rfl) rfl ?_
   refine wl_nest none [61] fun w2 hm_w2 => ⟨_, _, _, _, mem0 (X := [BlkOld w2.heap.size none gw 39 [.int .i64 a, .int .i64 b], BlkOld w2.heap.size none g1 31 [.slice sA sn sc, .slice cA 4 cc, .slice (some ⟨bv, ov, none⟩) vn vc, .slice pA pn pc], SlOld stEnc 15 156 w2.heap.size none sA sn sl, SlOld csEnc 2 158 w2.heap.size none cA 4 cl, SlOld vhEnc 2 69 w2.heap.size none (some ⟨bv, ov, none⟩) vn vl, SlOld plEnc 3 164 w2.heap.size none pA pn pl, SlOld evEnc 5 105 w2.heap.size none eA en el]) (allF_cons (hm_w2.blkI 0 rfl).old (allF_cons (hm_w2.blkI 1 rfl).old (allF_cons (SlT.old (hm_w2.fact 0 rfl).1) (allF_cons (SlT.old (hm_w2.fact 0 rfl).2.1) (allF_cons (SlT.old (hm_w2.fact 0 rfl).2.2.1) (allF_cons (SlT.old (hm_w2.fact 0 rfl).2.2.2) (allF_cons (SlT.old (hm_w2.fact 1 rfl)) allF_nil))))))) (allL_cons BlkOld.lasts (allL_cons BlkOld.lasts (allL_cons SlOld.lasts (allL_cons SlOld.lasts (allL_cons SlOld.lasts (allL_cons SlOld.lasts (allL_cons SlOld.lasts allL_nil))))))), ?_⟩
   have hE1 : siE sl cl vl pl el kv a b = 0 := by unfold siE; rw [hev, ← hWE, decide_eq_false hkix]; rfl
   have hE3 : tpE sl cl vl pl el kv = 0 := by unfold tpE; rw [hev, decide_eq_false hkix]; rfl
   have hadd := times_add (v := kv) hsort hfine ha0 hab hb0
   have hhir := hired_eq (v := kv) (a := a) (b := b) hsort hfine
   have htf := tr_fine (v := kv) hsort hfine
   have k0 := spT_bd (v := kv) (j := 0) (el := el) hab (by omega) (by omega)
   have k1 := spT_bd (v := kv) (j := 1) (el := el) hab (by omega) (by omega)
   have k2 := spT_bd (v := kv) (j := 2) (el := el) hab (by omega) (by omega)
   have k3 := spT_bd (v := kv) (j := 3) (el := el) hab (by omega) (by omega)
   have k4 := spT_bd (v := kv) (j := 4) (el := el) hab (by omega) (by omega)
   have k5 := spT_bd (v := kv) (j := 5) (el := el) hab (by omega) (by omega)
   refine wl_callv (v := .tuple #[.agg #[.int .i64 (spT a b el kv 0), .int .i64 (spT a b el kv 1), .int .i64 (spT a b el kv 2), .int .i64 (spT a b el kv 3), .int .i64 (spT a b el kv 4), .int .i64 (spT a b el kv 5)], .int .i64 0]) rfl cb13 rfl rfl (fun wx hm => (by have h := spentIn_any sl cl vl pl sA cA (some ⟨bv, ov, none⟩) pA sn sc 4 cc vn vc pn pc el eA en ec kv a b wx (hm.fact 2 rfl).1 (hm.fact 3 rfl).1 (hm.fact 4 rfl).1 (hm.fact 5 rfl).1 hsok hcok hvok hpok (by omega) (by omega) (by omega) (by omega) (hm.fact 6 rfl).1 heok (by omega) (by omega); refine h.mono ?_; rintro e w3 ⟨h1, _, hg⟩; exact ⟨h1 hE1, hg⟩)) ?_
   refine mv_ rfl (wl_ov (ov_extract rfl rfl) rfl (wl_ov (ov_extract rfl rfl) rfl ?_))
   refine wl_alloc zc42 rfl fun g12 => ?_
   refine wl_stores (cs' := [.int .i64 (spT a b el kv 0), .int .i64 (spT a b el kv 1), .int .i64 (spT a b el kv 2), .int .i64 (spT a b el kv 3), .int .i64 (spT a b el kv 4), .int .i64 (spT a b el kv 5)]) 0 rz42 rfl rfl rfl rfl rfl rfl rfl rfl ?_
   refine sg_ rfl (nn_ (sr_ ?_))
   refine wl_ov (ov_loads (vs := [.slice sA sn sc, .slice cA 4 cc, .slice (some ⟨bv, ov, none⟩) vn vc, .slice pA pn pc]) rz31 rfl (fun _ hm => (hm.fact 1 rfl).2) rfl rfl) rfl ?_
   refine mv_ rfl (mv_ rfl ?_)
   refine wl_callx (γ := Option Addr × Nat × Nat) (val := (fun g => .tuple #[.slice g.1 g.2.1 g.2.2, .int .i64 0])) (φ := (fun g => True)) (Y := (fun g => fun wy => SlT trEnc 4 61 wy g.1 g.2.1 (tripsR el kv))) rfl cb15 rfl rfl (fun wx hm => (by have h := trips_any sl cl vl pl sA cA (some ⟨bv, ov, none⟩) pA sn sc 4 cc vn vc pn pc el eA en ec kv wx (hm.fact 2 rfl).1 (hm.fact 3 rfl).1 (hm.fact 4 rfl).1 (hm.fact 5 rfl).1 hsok hcok hvok hpok (by omega) (by omega) (by omega) (by omega) (hm.fact 6 rfl).1 heok (by omega) (by omega); rw [hE3] at h; exact h.mono fun _ _ ⟨A, k, c, he, h1, h2, hg⟩ => ⟨(A, k, c), he, trivial, hg, h1 rfl⟩)) (fun _ => SlT.lasts2 rfl) ?_
   rintro ⟨tA, tk, tc⟩ hphi
   dsimp only
   clear hphi
   obtain ⟨TL, hTL⟩ : ∃ z, z = tripsR el kv := ⟨_, rfl⟩
   rw [← hTL] at hhir htf
   rw [← hTL]
   refine wl_look (R := TL.length = tk ∧ tk ≤ 100) (fun wx hm => ⟨((hm.fact 0 rfl)).len, by have h1 := ((hm.fact 0 rfl)).len; have h2 := tripsR_len (el := el) (v := kv); rw [← hTL] at h2; omega⟩) ?_
   rintro ⟨htl, htk⟩
   refine wl_nest none [] fun w3 hm_w3 => ⟨_, _, _, _, mem0 (X := [BlkOld w3.heap.size none g12 42 [.int .i64 (spT a b el kv 0), .int .i64 (spT a b el kv 1), .int .i64 (spT a b el kv 2), .int .i64 (spT a b el kv 3), .int .i64 (spT a b el kv 4), .int .i64 (spT a b el kv 5)], SlOld trEnc 4 61 w3.heap.size none tA tk TL, BlkOld w3.heap.size none gw 39 [.int .i64 a, .int .i64 b]]) (allF_cons (hm_w3.blkI 0 rfl).old (allF_cons (SlT.old (hm_w3.fact 0 rfl)) (allF_cons ((hm_w3.fact 1 rfl).2).old allF_nil))) (allL_cons BlkOld.lasts (allL_cons SlOld.lasts (allL_cons BlkOld.lasts allL_nil))), ?_⟩
   refine mv_ rfl (wl_ov (ov_extract rfl rfl) rfl (wl_ov (ov_extract rfl rfl) rfl (sg_ rfl (sg_ rfl (nn_ (sr_ (sg_ rfl (nn_ (gw_seq (gw_seq ?_))))))))))
   refine gw_region (mv_ rfl (wl_ov (ov_len es49 rfl) rfl (mv_ rfl (nn_ (gw_block ?_)))))
   refine gw_loop (γ := Nat × Int) (fun g => g.1 ≤ tk ∧ g.2 = hrT a b (TL.take g.1) ∧ 0 ≤ g.2 ∧ g.2 ≤ ((g.1 : Nat) : Int) * 6000000) (fun g => [(2, .bool false), (6, .pointer (some ⟨gw, 0, none⟩)), (8, .pointer (some ⟨g12, 0, none⟩)), (9, .int .i64 0), (11, .int .i64 0), (12, .int .i64 g.2), (69, .slice tA tk tc), (70, .int .i64 ((tk : Nat) : Int)), (71, .int .i64 ((g.1 : Nat) : Int))]) (fun g => fun _ => True) (fun g => []) (fun g => []) (fun g => [BlkOld w3.heap.size none g12 42 [.int .i64 (spT a b el kv 0), .int .i64 (spT a b el kv 1), .int .i64 (spT a b el kv 2), .int .i64 (spT a b el kv 3), .int .i64 (spT a b el kv 4), .int .i64 (spT a b el kv 5)], SlOld trEnc 4 61 w3.heap.size none tA tk TL, BlkOld w3.heap.size none gw 39 [.int .i64 a, .int .i64 b]]) (fun g => tk - g.1) (0, 0) ⟨Nat.zero_le _, rfl, Int.le_refl _, by decide⟩ ⟨rfl, rfl, rfl, rfl, rfl, rfl, rfl, rfl, rfl, trivial⟩ (fun _ hm => hm.pick [] [] [0, 1, 2] rfl rfl) ?_
   rintro ⟨i, h⟩ hinv
   replace hinv : i ≤ tk ∧ h = hrT a b (TL.take i) ∧ 0 ≤ h ∧ h ≤ ((i : Nat) : Int) * 6000000 := hinv
   dsimp only
   refine sr_ ?_
   obtain ⟨hi0, hh, hh0, hh1⟩ := hinv
   refine wl_ov (ov_lss rfl rfl) rfl (nn_ (gw_seq ?_))
   refine gw_cond rfl (fun hh => ?_) (fun hh => ?_)
   ·have hi : ((i : Nat) : Int) < ((tk : Nat) : Int) := by simpa using hh
    clear hh
    refine gw_skip (nx_then (gw_seq (gw_block (sr_ ?_))))
    refine wl_look (R := ∃ b o, tA = some ⟨b, o, none⟩) (fun wx hm => by obtain ⟨b, off, hA, _, _⟩ := SlT.get (hm.fact 1 rfl).1 (by omega); exact ⟨b, off, hA⟩) ?_
    rintro ⟨bt, ot, rfl⟩
    obtain ⟨x, hx⟩ : ∃ x, TL[i]? = some x := ⟨_, List.getElem?_eq_getElem (by omega)⟩
    obtain ⟨t0, t1, t2, t3⟩ := x
    have hat := hrT_at (a := a) (b := b) hx
    dsimp only at hat
    rw [← hh] at hat
    obtain ⟨⟨ht0, ht1⟩, ht2, ht3⟩ := htf _ (List.mem_of_getElem? hx)
    dsimp only at ht0 ht1 ht2 ht3
    refine wl_ov (ov_index (j := i) es49 rfl rfl (by omega)) rfl ?_
    refine wl_ov (ov_elem (vs := [.int .i64 t0, .int .i64 t1, .string t2, .string t3]) rz61 rfl (fun _ hm => (hm.fact 1 rfl).1) hx rfl rfl) rfl ?_
    refine wl_alloc zc61 rfl fun g13 => ?_
    refine wl_stores (cs' := [.int .i64 t0, .int .i64 t1, .string t2, .string t3]) 0 rz61 rfl rfl rfl rfl rfl rfl rfl rfl ?_
    refine nn_ (sr_ (fd_ fo61_1 rfl rfl (lk_ sc3 0 rfl rfl rfl (sg_ rfl (nn_ (gw_seq (sr_ (mv_ rfl (wl_ov (ov_lss rfl rfl) rfl ?_)))))))))
    refine nn_ ?_
    refine gw_cond rfl (fun hh => ?_) (fun hh => ?_)
    ·have hneg : t1 < 0 := by simpa using hh
     clear hh
     refine gw_region ?_
     rw [if_pos hneg] at hat
     refine sg_ rfl (nn_ (gw_region (mv_ rfl (fd_ fo39_1 rfl rfl ?_))))
     refine wl_ov (ov_load (v := .int .i64 b) sc3 rfl (fun _ hm => (hm.fact 2 rfl).2) rfl) rfl ?_
     refine mv_ rfl ?_
     refine wl_ov (ov_min rfl rfl) rfl ?_
     refine fd_ fo39_0 rfl rfl ?_
     refine wl_ov (ov_load (v := .int .i64 a) sc3 rfl (fun _ hm => (hm.fact 2 rfl).2) rfl) rfl ?_
     refine fd_ fo61_0 rfl rfl (lk_ sc3 0 rfl rfl rfl ?_)
     refine wl_ov (ov_max rfl rfl) rfl ?_
     refine wl_ov (ov_sub rfl rfl (by omega) (by omega)) rfl ?_
     refine wl_ov (ov_max rfl rfl) rfl ?_
     refine ad_ rfl rfl (sg_ rfl (wl_nil (nx_blk_nrm (nx_then (gw_region (ad_ rfl rfl (mv_ rfl (wl_nil ?_))))))))
     exact nx_round (i + 1, h + (max 0 ((min b 5761440) - (max a t0)))) ⟨by dsimp only; omega, hat.symm, by dsimp only; omega, by dsimp only; omega⟩ (by dsimp only; omega) ⟨rfl, rfl, rfl, rfl, rfl, rfl, rfl, rfl, (some_int (by omega)), trivial⟩ (fun _ hm => hm.pick [] [] [0, 1, 2] rfl rfl)
    have hneg : ¬ (t1 < 0) := by simpa using hh
    clear hh
    refine gw_skip (nx_then (gw_region ?_))
    rw [if_neg hneg] at hat
    refine mv_ rfl (fd_ fo39_1 rfl rfl ?_)
    refine wl_ov (ov_load (v := .int .i64 b) sc3 rfl (fun _ hm => (hm.fact 2 rfl).2) rfl) rfl ?_
    refine mv_ rfl ?_
    refine wl_ov (ov_min rfl rfl) rfl ?_
    refine fd_ fo39_0 rfl rfl ?_
    refine wl_ov (ov_load (v := .int .i64 a) sc3 rfl (fun _ hm => (hm.fact 2 rfl).2) rfl) rfl ?_
    refine fd_ fo61_0 rfl rfl (lk_ sc3 0 rfl rfl rfl ?_)
    refine wl_ov (ov_max rfl rfl) rfl ?_
    refine wl_ov (ov_sub rfl rfl (by omega) (by omega)) rfl ?_
    refine wl_ov (ov_max rfl rfl) rfl ?_
    refine ad_ rfl rfl (sg_ rfl (wl_nil (nx_blk_nrm (nx_then (gw_region (ad_ rfl rfl (mv_ rfl (wl_nil ?_))))))))
    exact nx_round (i + 1, h + (max 0 ((min b t1) - (max a t0)))) ⟨by dsimp only; omega, hat.symm, by dsimp only; omega, by dsimp only; omega⟩ (by dsimp only; omega) ⟨rfl, rfl, rfl, rfl, rfl, rfl, rfl, rfl, (some_int (by omega)), trivial⟩ (fun _ hm => hm.pick [] [] [0, 1, 2] rfl rfl)
   have hi : ¬ (((i : Nat) : Int) < ((tk : Nat) : Int)) := by simpa using hh
   clear hh
   refine gw_exit ?_
   refine nx_then_exit (nx_then_exit ?_)
   refine nx_blk_here ?_
   refine nx_then (sr_ ?_)
   have hall : TL.take i = TL := List.take_of_length_le (by omega)
   rw [hall, hhir] at hh
   refine mv_ rfl (wl_ov (ov_eql rfl rfl) rfl ?_)
   refine wl_set 94 (v' := .bool true) rfl (congrArg Value.bool (by decide)) ?_
   refine mv_ rfl (wl_guard_on rfl rfl rfl (mv_ rfl (wl_guard_on rfl rfl rfl (wl_ov (ov_eql rfl rfl) rfl ?_))))
   refine wl_set 97 (v' := .bool true) rfl (congrArg Value.bool (by decide)) ?_
   refine pt_ rfl rfl (mv_ rfl (wl_guard_on rfl rfl rfl (fd_ fo42_0 rfl rfl (wl_guard_on rfl rfl rfl ?_))))
   refine wl_ov (ov_load (v := .int .i64 (spT a b el kv 0)) sc3 rfl (fun _ hm => (hm.fact 0 rfl).2) rfl) rfl ?_
   refine wl_guard_on rfl rfl rfl (fd_ fo42_1 rfl rfl (wl_guard_on rfl rfl rfl ?_))
   refine wl_ov (ov_load (v := .int .i64 (spT a b el kv 1)) sc3 rfl (fun _ hm => (hm.fact 0 rfl).2) rfl) rfl ?_
   refine wl_guard_on rfl rfl rfl (ad_ rfl rfl (wl_guard_on rfl rfl rfl (fd_ fo42_2 rfl rfl (wl_guard_on rfl rfl rfl ?_))))
   refine wl_ov (ov_load (v := .int .i64 (spT a b el kv 2)) sc3 rfl (fun _ hm => (hm.fact 0 rfl).2) rfl) rfl ?_
   refine wl_guard_on rfl rfl rfl (ad_ rfl rfl (wl_guard_on rfl rfl rfl (fd_ fo42_3 rfl rfl (wl_guard_on rfl rfl rfl ?_))))
   refine wl_ov (ov_load (v := .int .i64 (spT a b el kv 3)) sc3 rfl (fun _ hm => (hm.fact 0 rfl).2) rfl) rfl ?_
   refine wl_guard_on rfl rfl rfl (ad_ rfl rfl (wl_guard_on rfl rfl rfl (fd_ fo42_4 rfl rfl (wl_guard_on rfl rfl rfl ?_))))
   refine wl_ov (ov_load (v := .int .i64 (spT a b el kv 4)) sc3 rfl (fun _ hm => (hm.fact 0 rfl).2) rfl) rfl ?_
   refine wl_guard_on rfl rfl rfl (ad_ rfl rfl (wl_guard_on rfl rfl rfl (fd_ fo42_5 rfl rfl (wl_guard_on rfl rfl rfl ?_))))
   refine wl_ov (ov_load (v := .int .i64 (spT a b el kv 5)) sc3 rfl (fun _ hm => (hm.fact 0 rfl).2) rfl) rfl ?_
   refine wl_guard_on rfl rfl rfl (ad_ rfl rfl (wl_guard_on rfl rfl rfl (fd_ fo39_1 rfl rfl (wl_guard_on rfl rfl rfl ?_))))
   refine wl_ov (ov_load (v := .int .i64 b) sc3 rfl (fun _ hm => (hm.fact 2 rfl).2) rfl) rfl ?_
   refine wl_guard_on rfl rfl rfl (fd_ fo39_0 rfl rfl (wl_guard_on rfl rfl rfl ?_))
   refine wl_ov (ov_load (v := .int .i64 a) sc3 rfl (fun _ hm => (hm.fact 2 rfl).2) rfl) rfl ?_
   refine wl_guard_on rfl rfl rfl ?_
   refine wl_ov (ov_sub rfl rfl (by omega) (by omega)) rfl ?_
   refine wl_guard_on rfl rfl rfl (wl_ov (ov_eql rfl rfl) rfl ?_)
   refine wl_set 122 (v' := .bool true) rfl (congrArg Value.bool (decide_eq_true hadd)) ?_
   refine pt_ rfl rfl (mv_ rfl (wl_guard_on rfl rfl rfl (fd_ fo42_2 rfl rfl (wl_guard_on rfl rfl rfl ?_))))
   refine wl_ov (ov_load (v := .int .i64 (spT a b el kv 2)) sc3 rfl (fun _ hm => (hm.fact 0 rfl).2) rfl) rfl ?_
   refine wl_guard_on rfl rfl rfl (mv_ rfl (wl_guard_on rfl rfl rfl (wl_ov (ov_eql rfl rfl) rfl ?_)))
   refine wl_set 128 (v' := .bool true) rfl (congrArg Value.bool (decide_eq_true hh.symm)) ?_
   refine pt_ rfl rfl (mv_ rfl (wl_guard_on rfl rfl rfl ?_))
   refine wl_callv rfl cb28 rfl rfl (fun wx hm => (ready_any wx)) ?_
   refine pt_ rfl rfl (sg_ rfl (nn_ ?_))
   refine gw_ret ?_
   refine nx_ret1 rfl rfl fun wx hm => ?_
   exact ⟨rfl, law_end hg1 hsb (grow_trans hm_w2.g (grow_weak (grow_trans hm_w3.g hm.g)))⟩
  refine fd_ fo31_2 rfl rfl (lk_ sc28 1 rfl rfl rfl (wl_ov (ov_len es28 rfl) rfl (wl_ov (ov_eql rfl rfl) rfl ?_)))
  refine wl_set 31 (v' := .bool false) rfl (congrArg Value.bool (decide_eq_false (show ¬ ((vn : Nat) : Int) = 0 by omega))) ?_
  refine mv_ rfl (wl_guard_on rfl rfl rfl ?_)
  refine wl_ov (ov_loads rz31 rfl (fun _ hm => hm.blkI 1 rfl) rfl rfl) rfl ?_
  refine wl_guard_on rfl rfl rfl (mv_ rfl (wl_guard_on rfl rfl rfl ?_))
  refine wl_callv (v := .int .i64 0) rfl cb27 rfl rfl (fun wx hm => (by rw [hLE]; exact logFault_any sl vl sA cA vA pA sn sc 4 cc vn vc pn pc el eA en ec wx (hm.fact 0 rfl).1 (hm.fact 0 rfl).2.2.1 hsok (by omega) (by omega) (hm.fact 1 rfl) heok (by omega))) ?_
  refine wl_guard_on rfl rfl rfl (wl_ov (ov_neq rfl rfl) rfl ?_)
  refine wl_set 36 (v' := .bool false) rfl (congrArg Value.bool (by decide)) ?_
  refine pf_ rfl rfl (mv_ rfl (wl_guard_on rfl rfl rfl ?_))
  refine wl_ov (ov_loads rz39 rfl (fun _ hm => hm.blkI 0 rfl) rfl rfl) rfl ?_
  refine wl_guard_on rfl rfl rfl ?_
  refine wl_callv (v := .int .i64 WE) rfl cb19 rfl rfl (fun wx hm => (by have h := windowFault_any a b wx; rw [← hWE] at h; exact h)) ?_
  refine wl_guard_on rfl rfl rfl (wl_ov (ov_neq rfl rfl) rfl ?_)
  refine wl_set 41 (v' := .bool true) rfl (congrArg Value.bool (by rw [decide_eq_false hw0]; rfl)) ?_
  refine pf_ rfl rfl (nn_ (ct_ rfl (sr_ ?_)))
  refine wl_callv rfl cb28 rfl rfl (fun wx hm => (ready_any wx)) ?_
  refine sg_ rfl (nn_ ?_)
  refine gw_ret ?_
  refine nx_then_ret ?_
  refine nx_ret1 rfl rfl fun wx hm => ?_
  exact ⟨rfl, law_end hg1 hsb hm.g⟩
 refine fd_ fo31_2 rfl rfl (lk_ sc28 1 rfl rfl rfl (wl_ov (ov_len es28 rfl) rfl (wl_ov (ov_eql rfl rfl) rfl ?_)))
 refine wl_set 31 (v' := .bool false) rfl (congrArg Value.bool (decide_eq_false (show ¬ ((vn : Nat) : Int) = 0 by omega))) ?_
 refine mv_ rfl (wl_guard_on rfl rfl rfl ?_)
 refine wl_ov (ov_loads rz31 rfl (fun _ hm => hm.blkI 1 rfl) rfl rfl) rfl ?_
 refine wl_guard_on rfl rfl rfl (mv_ rfl (wl_guard_on rfl rfl rfl ?_))
 refine wl_callv (v := .int .i64 LE) rfl cb27 rfl rfl (fun wx hm => (by rw [hLE]; exact logFault_any sl vl sA cA vA pA sn sc 4 cc vn vc pn pc el eA en ec wx (hm.fact 0 rfl).1 (hm.fact 0 rfl).2.2.1 hsok (by omega) (by omega) (hm.fact 1 rfl) heok (by omega))) ?_
 refine wl_guard_on rfl rfl rfl (wl_ov (ov_neq rfl rfl) rfl ?_)
 refine wl_set 36 (v' := .bool true) rfl (congrArg Value.bool (by rw [decide_eq_false hl0]; rfl)) ?_
 refine pf_ rfl rfl (mv_ rfl (goff rfl rfl rfl (goff rfl rfl rfl (goff rfl rfl rfl (pt_ rfl rfl (nn_ (ct_ rfl (sr_ ?_))))))))
 refine wl_callv rfl cb28 rfl rfl (fun wx hm => (ready_any wx)) ?_
 refine sg_ rfl (nn_ ?_)
 refine gw_ret ?_
 refine nx_then_ret ?_
 refine nx_ret1 rfl rfl fun wx hm => ?_
 exact ⟨rfl, law_end hg1 hsb hm.g⟩
end Go.Proofs.YtdoooppeiphefaaGreatDoor
