/- Several texts as one: Zb Zc Fm Sp Zg Zr Zn Zh Zd Ze Az Em Zi Zj -/
import Derived.Test.YtdoooppeiphefaaGreatDoorPe
import Derived.Test.YtdoooppeiphefaaGreatDoorPc
import Derived.Test.YtdoooppeiphefaaGreatDoorPa
import Derived.Test.YtdoooppeiphefaaGreatDoorPb
import Derived.Laws.IdiomRangeMap
import Derived.Maps.RangeRun
import Derived.Lib.AppendZeros
import Derived.Test.YtdoooppeiphefaaGreatDoorPd
set_option maxRecDepth 100000
set_option maxHeartbeats 4000000
namespace Go.Proofs.YtdoooppeiphefaaGreatDoor
open Go.RowKit
theorem lotCommon_any (a b c d : Int) (w : World) (ha : -6000000 ≤ a ∧ a ≤ 6000000) (hb : -6000000 ≤ b ∧ b ≤ 6000000) (hc : -4000000000000000000 ≤ c ∧ c ≤ 4000000000000000000) (hd : -4000000000000000000 ≤ d ∧ d ≤ 4000000000000000000) :
  Calls Tryz.prog 171 #[.agg #[.int .i64 a, .int .i64 b], .agg #[.int .i64 c, .int .i64 d]] w (GotE w (cmn a b c d)) := by
 refine gw_enter ⟨17, w, none, []⟩ Tryz.func171 rfl Tryz.ntmps171 rfl (mem0 (X := []) allF_nil allL_nil) ?_
 refine sr_ ?_
 refine wl_box rfl rfl rfl fun g1 => ?_
 refine wl_box rfl rfl rfl fun g2 => ?_
 refine sg_ rfl (nn_ (sr_ (fd_ fo39_1 rfl rfl (lk_ sc3 1 rfl rfl rfl (fd_ fo39_1 rfl rfl (lk_ sc3 0 rfl rfl rfl ?_))))))
 refine wl_ov (ov_min rfl rfl) rfl ?_
 refine fd_ fo39_0 rfl rfl (lk_ sc3 1 rfl rfl rfl (fd_ fo39_0 rfl rfl (lk_ sc3 0 rfl rfl rfl ?_)))
 refine wl_ov (ov_max rfl rfl) rfl ?_
 refine wl_ov (ov_sub rfl rfl (by omega) (by omega)) rfl ?_
 refine wl_ov (ov_max rfl rfl) rfl ?_
 refine sg_ rfl (nn_ ?_)
 refine gw_ret ?_
 refine nx_ret1 rfl rfl fun wx hm => ?_
 exact ⟨ret_int (by unfold cmn; omega), hm.g⟩
theorem add_any (gs : Nat) (f : Int → Int) (j n : Int) (w : World) (hb : Blk w gs 42 (six f)) (hj : 0 ≤ j ∧ j ≤ 5) (hf : ∀ i, 0 ≤ f i ∧ f i ≤ 1000000000000000) (hn : 0 ≤ n ∧ n ≤ 6000000) :
  Calls Tryz.prog 170 #[.pointer (some ⟨gs, 0, none⟩), .int .i64 j, .int .i64 n] w (fun e w' => e = .returned (.tuple #[]) ∧ Blk w' gs 42 (six (fun i => if i = j then f i + n else f i)) ∧ w.grownBy w' (some gs)) := by
 refine gw_enter ⟨35, w, (some gs), []⟩ Tryz.func170 rfl Tryz.ntmps170 rfl (memR (X := []) (blkRow hb rfl) allF_nil allL_nil) ?_
 refine gw_seq ?_
 have hjc : j = 0 ∨ j = 1 ∨ j = 2 ∨ j = 3 ∨ j = 4 ∨ j = 5 := by omega
 have hf0 := hf 0
 have hf1 := hf 1
 have hf2 := hf 2
 have hf3 := hf 3
 have hf4 := hf 4
 have hf5 := hf 5
 rcases hjc with hjc | hjc | hjc | hjc | hjc | hjc
 ·subst hjc
  refine gd (fun wz => True) mixed (fun _ _ => trivial) fun z => ?_
  refine wt 0 23 1 rfl z (ov_move rfl) ?_
  refine wt 1 23 3 rfl z (ov_nilcheck rfl) ?_
  refine wt 2 23 7 rfl z (ov_field fo42_0 rfl rfl) ?_
  refine wt 3 23 15 rfl z (ov_move rfl) ?_
  refine wt 4 23 31 rfl z (ov_nilcheck rfl) ?_
  refine wt 5 23 63 rfl z (ov_field fo42_1 rfl rfl) ?_
  refine wt 6 23 127 rfl z (ov_move rfl) ?_
  refine wt 7 23 255 rfl z (ov_nilcheck rfl) ?_
  refine wt 8 23 511 rfl z (ov_field fo42_2 rfl rfl) ?_
  refine wt 9 23 1023 rfl z (ov_move rfl) ?_
  refine wt 10 23 2047 rfl z (ov_nilcheck rfl) ?_
  refine wt 11 23 4095 rfl z (ov_field fo42_3 rfl rfl) ?_
  refine wt 12 23 8191 rfl z (ov_move rfl) ?_
  refine wt 13 23 16383 rfl z (ov_nilcheck rfl) ?_
  refine wt 14 23 32767 rfl z (ov_field fo42_4 rfl rfl) ?_
  refine wt 15 23 65535 rfl z (ov_move rfl) ?_
  refine wt 16 23 131071 rfl z (ov_nilcheck rfl) ?_
  refine wt 17 23 262143 rfl z (ov_field fo42_5 rfl rfl) ?_
  refine wt 19 23 786431 rfl z (ov_move rfl) ?_
  refine wa1 18 rfl ?_
  refine wl_buildSlice (e := 329) (cs := [.pointer (some ⟨gs, 0, none⟩), .pointer (some ⟨gs, 1, none⟩), .pointer (some ⟨gs, 2, none⟩), .pointer (some ⟨gs, 3, none⟩), .pointer (some ⟨gs, 4, none⟩), .pointer (some ⟨gs, 5, none⟩)]) rfl (by kernel_rfl) rfl fun g1 => ?_
  refine wl_nil ?_
  refine nw 23 1048575 (fun _ _ => trivial) fun z => ?_
  refine wt 20 23 2097151 rfl z (ov_index (j := 0) es330 rfl rfl (by decide)) ?_
  refine wa1 21 rfl ?_
  refine lk_ sc329 0 rfl rfl rfl (wl_nil ?_)
  refine nw 23 4194303 (fun _ _ => trivial) fun z => ?_
  refine wt 22 23 8388607 rfl z (ov_assign rfl) ?_
  refine wa_done (by kernel_rfl) ?_
  refine nx_then (gw_region (mv_ rfl (wl_ov (ov_nilcheck rfl) rfl ?_)))
  refine wl_ov (ov_load (v := .int .i64 (f 0)) sc3 rfl (fun _ hm => (rowBlk hm.k)) rfl) rfl ?_
  refine mv_ rfl (ad_ rfl rfl (wl_ov (ov_nilcheck rfl) rfl ?_))
  refine wl_storeRow (l := [f 0, f 1, f 2, f 3, f 4, f 5]) (j := 0) (r := 0) (el := f 0) (el' := f 0 + n) rfl sc3 rfl rfl rfl it_len1 rfl rfl rfl (by decide) rfl rfl ?_
  refine wl_nil ?_
  refine nx_ret0 rfl fun wx hm => ?_
  exact ⟨rfl, (by have h := rowBlk hm.k; simpa [six, itEnc1] using h), hm.g⟩
 ·subst hjc
  refine gd (fun wz => True) mixed (fun _ _ => trivial) fun z => ?_
  refine wt 0 23 1 rfl z (ov_move rfl) ?_
  refine wt 1 23 3 rfl z (ov_nilcheck rfl) ?_
  refine wt 2 23 7 rfl z (ov_field fo42_0 rfl rfl) ?_
  refine wt 3 23 15 rfl z (ov_move rfl) ?_
  refine wt 4 23 31 rfl z (ov_nilcheck rfl) ?_
  refine wt 5 23 63 rfl z (ov_field fo42_1 rfl rfl) ?_
  refine wt 6 23 127 rfl z (ov_move rfl) ?_
  refine wt 7 23 255 rfl z (ov_nilcheck rfl) ?_
  refine wt 8 23 511 rfl z (ov_field fo42_2 rfl rfl) ?_
  refine wt 9 23 1023 rfl z (ov_move rfl) ?_
  refine wt 10 23 2047 rfl z (ov_nilcheck rfl) ?_
  refine wt 11 23 4095 rfl z (ov_field fo42_3 rfl rfl) ?_
  refine wt 12 23 8191 rfl z (ov_move rfl) ?_
  refine wt 13 23 16383 rfl z (ov_nilcheck rfl) ?_
  refine wt 14 23 32767 rfl z (ov_field fo42_4 rfl rfl) ?_
  refine wt 15 23 65535 rfl z (ov_move rfl) ?_
  refine wt 16 23 131071 rfl z (ov_nilcheck rfl) ?_
  refine wt 17 23 262143 rfl z (ov_field fo42_5 rfl rfl) ?_
  refine wt 19 23 786431 rfl z (ov_move rfl) ?_
  refine wa1 18 rfl ?_
  refine wl_buildSlice (e := 329) (cs := [.pointer (some ⟨gs, 0, none⟩), .pointer (some ⟨gs, 1, none⟩), .pointer (some ⟨gs, 2, none⟩), .pointer (some ⟨gs, 3, none⟩), .pointer (some ⟨gs, 4, none⟩), .pointer (some ⟨gs, 5, none⟩)]) rfl (by kernel_rfl) rfl fun g2 => ?_
  refine wl_nil ?_
  refine nw 23 1048575 (fun _ _ => trivial) fun z => ?_
  refine wt 20 23 2097151 rfl z (ov_index (j := 1) es330 rfl rfl (by decide)) ?_
  refine wa1 21 rfl ?_
  refine lk_ sc329 0 rfl rfl rfl (wl_nil ?_)
  refine nw 23 4194303 (fun _ _ => trivial) fun z => ?_
  refine wt 22 23 8388607 rfl z (ov_assign rfl) ?_
  refine wa_done (by kernel_rfl) ?_
  refine nx_then (gw_region (mv_ rfl (wl_ov (ov_nilcheck rfl) rfl ?_)))
  refine wl_ov (ov_load (v := .int .i64 (f 1)) sc3 rfl (fun _ hm => (rowBlk hm.k)) rfl) rfl ?_
  refine mv_ rfl (ad_ rfl rfl (wl_ov (ov_nilcheck rfl) rfl ?_))
  refine wl_storeRow (l := [f 0, f 1, f 2, f 3, f 4, f 5]) (j := 1) (r := 0) (el := f 1) (el' := f 1 + n) rfl sc3 rfl rfl rfl it_len1 rfl rfl rfl (by decide) rfl rfl ?_
  refine wl_nil ?_
  refine nx_ret0 rfl fun wx hm => ?_
  exact ⟨rfl, (by have h := rowBlk hm.k; simpa [six, itEnc1] using h), hm.g⟩
 ·subst hjc
  refine gd (fun wz => True) mixed (fun _ _ => trivial) fun z => ?_
  refine wt 0 23 1 rfl z (ov_move rfl) ?_
  refine wt 1 23 3 rfl z (ov_nilcheck rfl) ?_
  refine wt 2 23 7 rfl z (ov_field fo42_0 rfl rfl) ?_
  refine wt 3 23 15 rfl z (ov_move rfl) ?_
  refine wt 4 23 31 rfl z (ov_nilcheck rfl) ?_
  refine wt 5 23 63 rfl z (ov_field fo42_1 rfl rfl) ?_
  refine wt 6 23 127 rfl z (ov_move rfl) ?_
  refine wt 7 23 255 rfl z (ov_nilcheck rfl) ?_
  refine wt 8 23 511 rfl z (ov_field fo42_2 rfl rfl) ?_
  refine wt 9 23 1023 rfl z (ov_move rfl) ?_
  refine wt 10 23 2047 rfl z (ov_nilcheck rfl) ?_
  refine wt 11 23 4095 rfl z (ov_field fo42_3 rfl rfl) ?_
  refine wt 12 23 8191 rfl z (ov_move rfl) ?_
  refine wt 13 23 16383 rfl z (ov_nilcheck rfl) ?_
  refine wt 14 23 32767 rfl z (ov_field fo42_4 rfl rfl) ?_
  refine wt 15 23 65535 rfl z (ov_move rfl) ?_
  refine wt 16 23 131071 rfl z (ov_nilcheck rfl) ?_
  refine wt 17 23 262143 rfl z (ov_field fo42_5 rfl rfl) ?_
  refine wt 19 23 786431 rfl z (ov_move rfl) ?_
  refine wa1 18 rfl ?_
  refine wl_buildSlice (e := 329) (cs := [.pointer (some ⟨gs, 0, none⟩), .pointer (some ⟨gs, 1, none⟩), .pointer (some ⟨gs, 2, none⟩), .pointer (some ⟨gs, 3, none⟩), .pointer (some ⟨gs, 4, none⟩), .pointer (some ⟨gs, 5, none⟩)]) rfl (by kernel_rfl) rfl fun g3 => ?_
  refine wl_nil ?_
  refine nw 23 1048575 (fun _ _ => trivial) fun z => ?_
  refine wt 20 23 2097151 rfl z (ov_index (j := 2) es330 rfl rfl (by decide)) ?_
  refine wa1 21 rfl ?_
  refine lk_ sc329 0 rfl rfl rfl (wl_nil ?_)
  refine nw 23 4194303 (fun _ _ => trivial) fun z => ?_
  refine wt 22 23 8388607 rfl z (ov_assign rfl) ?_
  refine wa_done (by kernel_rfl) ?_
  refine nx_then (gw_region (mv_ rfl (wl_ov (ov_nilcheck rfl) rfl ?_)))
  refine wl_ov (ov_load (v := .int .i64 (f 2)) sc3 rfl (fun _ hm => (rowBlk hm.k)) rfl) rfl ?_
  refine mv_ rfl (ad_ rfl rfl (wl_ov (ov_nilcheck rfl) rfl ?_))
  refine wl_storeRow (l := [f 0, f 1, f 2, f 3, f 4, f 5]) (j := 2) (r := 0) (el := f 2) (el' := f 2 + n) rfl sc3 rfl rfl rfl it_len1 rfl rfl rfl (by decide) rfl rfl ?_
  refine wl_nil ?_
  refine nx_ret0 rfl fun wx hm => ?_
  exact ⟨rfl, (by have h := rowBlk hm.k; simpa [six, itEnc1] using h), hm.g⟩
 ·subst hjc
  refine gd (fun wz => True) mixed (fun _ _ => trivial) fun z => ?_
  refine wt 0 23 1 rfl z (ov_move rfl) ?_
  refine wt 1 23 3 rfl z (ov_nilcheck rfl) ?_
  refine wt 2 23 7 rfl z (ov_field fo42_0 rfl rfl) ?_
  refine wt 3 23 15 rfl z (ov_move rfl) ?_
  refine wt 4 23 31 rfl z (ov_nilcheck rfl) ?_
  refine wt 5 23 63 rfl z (ov_field fo42_1 rfl rfl) ?_
  refine wt 6 23 127 rfl z (ov_move rfl) ?_
  refine wt 7 23 255 rfl z (ov_nilcheck rfl) ?_
  refine wt 8 23 511 rfl z (ov_field fo42_2 rfl rfl) ?_
  refine wt 9 23 1023 rfl z (ov_move rfl) ?_
  refine wt 10 23 2047 rfl z (ov_nilcheck rfl) ?_
  refine wt 11 23 4095 rfl z (ov_field fo42_3 rfl rfl) ?_
  refine wt 12 23 8191 rfl z (ov_move rfl) ?_
  refine wt 13 23 16383 rfl z (ov_nilcheck rfl) ?_
  refine wt 14 23 32767 rfl z (ov_field fo42_4 rfl rfl) ?_
  refine wt 15 23 65535 rfl z (ov_move rfl) ?_
  refine wt 16 23 131071 rfl z (ov_nilcheck rfl) ?_
  refine wt 17 23 262143 rfl z (ov_field fo42_5 rfl rfl) ?_
  refine wt 19 23 786431 rfl z (ov_move rfl) ?_
  refine wa1 18 rfl ?_
  refine wl_buildSlice (e := 329) (cs := [.pointer (some ⟨gs, 0, none⟩), .pointer (some ⟨gs, 1, none⟩), .pointer (some ⟨gs, 2, none⟩), .pointer (some ⟨gs, 3, none⟩), .pointer (some ⟨gs, 4, none⟩), .pointer (some ⟨gs, 5, none⟩)]) rfl (by kernel_rfl) rfl fun g4 => ?_
  refine wl_nil ?_
  refine nw 23 1048575 (fun _ _ => trivial) fun z => ?_
  refine wt 20 23 2097151 rfl z (ov_index (j := 3) es330 rfl rfl (by decide)) ?_
  refine wa1 21 rfl ?_
  refine lk_ sc329 0 rfl rfl rfl (wl_nil ?_)
  refine nw 23 4194303 (fun _ _ => trivial) fun z => ?_
  refine wt 22 23 8388607 rfl z (ov_assign rfl) ?_
  refine wa_done (by kernel_rfl) ?_
  refine nx_then (gw_region (mv_ rfl (wl_ov (ov_nilcheck rfl) rfl ?_)))
  refine wl_ov (ov_load (v := .int .i64 (f 3)) sc3 rfl (fun _ hm => (rowBlk hm.k)) rfl) rfl ?_
  refine mv_ rfl (ad_ rfl rfl (wl_ov (ov_nilcheck rfl) rfl ?_))
  refine wl_storeRow (l := [f 0, f 1, f 2, f 3, f 4, f 5]) (j := 3) (r := 0) (el := f 3) (el' := f 3 + n) rfl sc3 rfl rfl rfl it_len1 rfl rfl rfl (by decide) rfl rfl ?_
  refine wl_nil ?_
  refine nx_ret0 rfl fun wx hm => ?_
  exact ⟨rfl, (by have h := rowBlk hm.k; simpa [six, itEnc1] using h), hm.g⟩
 ·subst hjc
  refine gd (fun wz => True) mixed (fun _ _ => trivial) fun z => ?_
  refine wt 0 23 1 rfl z (ov_move rfl) ?_
  refine wt 1 23 3 rfl z (ov_nilcheck rfl) ?_
  refine wt 2 23 7 rfl z (ov_field fo42_0 rfl rfl) ?_
  refine wt 3 23 15 rfl z (ov_move rfl) ?_
  refine wt 4 23 31 rfl z (ov_nilcheck rfl) ?_
  refine wt 5 23 63 rfl z (ov_field fo42_1 rfl rfl) ?_
  refine wt 6 23 127 rfl z (ov_move rfl) ?_
  refine wt 7 23 255 rfl z (ov_nilcheck rfl) ?_
  refine wt 8 23 511 rfl z (ov_field fo42_2 rfl rfl) ?_
  refine wt 9 23 1023 rfl z (ov_move rfl) ?_
  refine wt 10 23 2047 rfl z (ov_nilcheck rfl) ?_
  refine wt 11 23 4095 rfl z (ov_field fo42_3 rfl rfl) ?_
  refine wt 12 23 8191 rfl z (ov_move rfl) ?_
  refine wt 13 23 16383 rfl z (ov_nilcheck rfl) ?_
  refine wt 14 23 32767 rfl z (ov_field fo42_4 rfl rfl) ?_
  refine wt 15 23 65535 rfl z (ov_move rfl) ?_
  refine wt 16 23 131071 rfl z (ov_nilcheck rfl) ?_
  refine wt 17 23 262143 rfl z (ov_field fo42_5 rfl rfl) ?_
  refine wt 19 23 786431 rfl z (ov_move rfl) ?_
  refine wa1 18 rfl ?_
  refine wl_buildSlice (e := 329) (cs := [.pointer (some ⟨gs, 0, none⟩), .pointer (some ⟨gs, 1, none⟩), .pointer (some ⟨gs, 2, none⟩), .pointer (some ⟨gs, 3, none⟩), .pointer (some ⟨gs, 4, none⟩), .pointer (some ⟨gs, 5, none⟩)]) rfl (by kernel_rfl) rfl fun g5 => ?_
  refine wl_nil ?_
  refine nw 23 1048575 (fun _ _ => trivial) fun z => ?_
  refine wt 20 23 2097151 rfl z (ov_index (j := 4) es330 rfl rfl (by decide)) ?_
  refine wa1 21 rfl ?_
  refine lk_ sc329 0 rfl rfl rfl (wl_nil ?_)
  refine nw 23 4194303 (fun _ _ => trivial) fun z => ?_
  refine wt 22 23 8388607 rfl z (ov_assign rfl) ?_
  refine wa_done (by kernel_rfl) ?_
  refine nx_then (gw_region (mv_ rfl (wl_ov (ov_nilcheck rfl) rfl ?_)))
  refine wl_ov (ov_load (v := .int .i64 (f 4)) sc3 rfl (fun _ hm => (rowBlk hm.k)) rfl) rfl ?_
  refine mv_ rfl (ad_ rfl rfl (wl_ov (ov_nilcheck rfl) rfl ?_))
  refine wl_storeRow (l := [f 0, f 1, f 2, f 3, f 4, f 5]) (j := 4) (r := 0) (el := f 4) (el' := f 4 + n) rfl sc3 rfl rfl rfl it_len1 rfl rfl rfl (by decide) rfl rfl ?_
  refine wl_nil ?_
  refine nx_ret0 rfl fun wx hm => ?_
  exact ⟨rfl, (by have h := rowBlk hm.k; simpa [six, itEnc1] using h), hm.g⟩
 subst hjc
 refine gd (fun wz => True) mixed (fun _ _ => trivial) fun z => ?_
 refine wt 0 23 1 rfl z (ov_move rfl) ?_
 refine wt 1 23 3 rfl z (ov_nilcheck rfl) ?_
 refine wt 2 23 7 rfl z (ov_field fo42_0 rfl rfl) ?_
 refine wt 3 23 15 rfl z (ov_move rfl) ?_
 refine wt 4 23 31 rfl z (ov_nilcheck rfl) ?_
 refine wt 5 23 63 rfl z (ov_field fo42_1 rfl rfl) ?_
 refine wt 6 23 127 rfl z (ov_move rfl) ?_
 refine wt 7 23 255 rfl z (ov_nilcheck rfl) ?_
 refine wt 8 23 511 rfl z (ov_field fo42_2 rfl rfl) ?_
 refine wt 9 23 1023 rfl z (ov_move rfl) ?_
 refine wt 10 23 2047 rfl z (ov_nilcheck rfl) ?_
 refine wt 11 23 4095 rfl z (ov_field fo42_3 rfl rfl) ?_
 refine wt 12 23 8191 rfl z (ov_move rfl) ?_
 refine wt 13 23 16383 rfl z (ov_nilcheck rfl) ?_
 refine wt 14 23 32767 rfl z (ov_field fo42_4 rfl rfl) ?_
 refine wt 15 23 65535 rfl z (ov_move rfl) ?_
 refine wt 16 23 131071 rfl z (ov_nilcheck rfl) ?_
 refine wt 17 23 262143 rfl z (ov_field fo42_5 rfl rfl) ?_
 refine wt 19 23 786431 rfl z (ov_move rfl) ?_
 refine wa1 18 rfl ?_
 refine wl_buildSlice (e := 329) (cs := [.pointer (some ⟨gs, 0, none⟩), .pointer (some ⟨gs, 1, none⟩), .pointer (some ⟨gs, 2, none⟩), .pointer (some ⟨gs, 3, none⟩), .pointer (some ⟨gs, 4, none⟩), .pointer (some ⟨gs, 5, none⟩)]) rfl (by kernel_rfl) rfl fun g6 => ?_
 refine wl_nil ?_
 refine nw 23 1048575 (fun _ _ => trivial) fun z => ?_
 refine wt 20 23 2097151 rfl z (ov_index (j := 5) es330 rfl rfl (by decide)) ?_
 refine wa1 21 rfl ?_
 refine lk_ sc329 0 rfl rfl rfl (wl_nil ?_)
 refine nw 23 4194303 (fun _ _ => trivial) fun z => ?_
 refine wt 22 23 8388607 rfl z (ov_assign rfl) ?_
 refine wa_done (by kernel_rfl) ?_
 refine nx_then (gw_region (mv_ rfl (wl_ov (ov_nilcheck rfl) rfl ?_)))
 refine wl_ov (ov_load (v := .int .i64 (f 5)) sc3 rfl (fun _ hm => (rowBlk hm.k)) rfl) rfl ?_
 refine mv_ rfl (ad_ rfl rfl (wl_ov (ov_nilcheck rfl) rfl ?_))
 refine wl_storeRow (l := [f 0, f 1, f 2, f 3, f 4, f 5]) (j := 5) (r := 0) (el := f 5) (el' := f 5 + n) rfl sc3 rfl rfl rfl it_len1 rfl rfl rfl (by decide) rfl rfl ?_
 refine wl_nil ?_
 refine nx_ret0 rfl fun wx hm => ?_
 exact ⟨rfl, (by have h := rowBlk hm.k; simpa [six, itEnc1] using h), hm.g⟩
theorem spent_any (vl : List Vh) (sA cA vA pA : Option Addr) (sn sc cn cc vn vc pn pc : Nat) (el : List Ev) (eA : Option Addr) (en ec : Nat) (a b : Int) (w : World) (hv : SlT vhEnc 2 69 w vA vn vl) (hl : SlT evEnc 5 105 w eA en el) (heok : ∀ x ∈ el, EvOk x) (hveh : ∀ x ∈ el, 0 ≤ ixP (vhP x.veh) vl 0) (hrise : Rise vl) (ha0 : 0 ≤ a) (hab : a ≤ b) (hb0 : b ≤ 5761440) (hen : en ≤ 1000) (hvn : vn ≤ 1000) :
  Calls Tryz.prog 70 #[.agg #[.slice sA sn sc, .slice cA cn cc, .slice vA vn vc, .slice pA pn pc], .slice eA en ec, .agg #[.int .i64 a, .int .i64 b]] w (fun e w' => ∃ (m : Nat) (p : PMap) (H : ByteArray → Int → Int), e = .returned (.map (some m)) ∧ MapF encP 0 m p w' ∧ Fam 42 w.heap.size p H w' ∧ (∀ (k : Nat) (x : Vh), vl[k]? = some x → ∃ g, p x.key = some (some g)) ∧ (∀ k, p k ≠ none → ∃ x ∈ vl, x.key = k) ∧ (∀ (k : Nat) (x : Vh), vl[k]? = some x → ∀ j, H x.key j = spT a b el x.key j) ∧ w.grownBy w' none) := by
 refine gw_enter ⟨95, w, none, [42]⟩ Tryz.func70 rfl Tryz.ntmps70 rfl (mem0 (X := [SlOld vhEnc 2 69 w.heap.size none vA vn vl, SlOld evEnc 5 105 w.heap.size none eA en el]) (allF_cons hv.old (allF_cons hl.old allF_nil)) (allL_cons SlOld.lasts (allL_cons SlOld.lasts allL_nil))) ?_
 refine sr_ ?_
 have hlen := hv.len
 have hell := hl.len
 refine wl_box rfl rfl rfl fun g1 => ?_
 refine wl_box rfl rfl rfl fun g2 => ?_
 refine sg_ rfl (nn_ (sr_ ?_))
 refine wl_makeMapF (enc := encP) rfl fun g3 => ?_
 refine sg_ rfl (nn_ (sr_ ?_))
 refine wl_makeMapN (enc := encS) 0 rfl rfl fun g4 hne_g4 => ?_
 refine sg_ rfl (nn_ (gw_seq (sr_ (fd_ fo31_2 rfl rfl (lk_ sc28 1 rfl rfl rfl (wl_ov (ov_len es28 rfl) rfl (mv_ rfl (nn_ (gw_block ?_)))))))))
 refine gw_famNil (T := 42) (G := fun _ _ => 0) rfl ?_
 refine gw_loop (γ := Nat × PMap) (fun gg => gg.1 ≤ vn ∧ FamOk gg.2 g3 g4 ∧ (∀ (k : Nat) (x : Vh), vl[k]? = some x → k < gg.1 → ∃ g, gg.2 x.key = some (some g)) ∧ (∀ k, gg.2 k ≠ none → ∃ x ∈ vl, x.key = k)) (fun gg => [(1, .slice eA en ec), (3, .pointer (some ⟨g1, 0, none⟩)), (5, .pointer (some ⟨g2, 0, none⟩)), (6, .map none), (7, .map (some g3)), (8, .map (some g4)), (22, .slice vA vn vc), (23, .int .i64 ((vn : Nat) : Int)), (24, .int .i64 ((gg.1 : Nat) : Int))]) (fun gg => fun _ => True) (fun gg => [(g2, 39, [.int .i64 a, .int .i64 b]), (g1, 31, [.slice sA sn sc, .slice cA cn cc, .slice vA vn vc, .slice pA pn pc])]) (fun gg => []) (fun gg => [Fam 42 w.heap.size gg.2 (fun _ _ => 0), MapF encS w.heap.size g4 (fNil), MapF encP w.heap.size g3 (gg.2), SlOld vhEnc 2 69 w.heap.size none vA vn vl, SlOld evEnc 5 105 w.heap.size none eA en el]) (fun gg => vn - gg.1) (0, fNil) ⟨Nat.zero_le _, famOk_nil, (fun _ _ _ h => absurd h (Nat.not_lt_zero _)), (fun _ h => absurd rfl h)⟩ ⟨rfl, rfl, rfl, rfl, rfl, rfl, rfl, rfl, rfl, trivial⟩ (fun _ hm => hm.pick [0, 1] [] [0, 1, 2, 3, 4] rfl rfl) ?_
 rintro ⟨i, p⟩ hinv
 replace hinv : i ≤ vn ∧ FamOk p g3 g4 ∧ (∀ (k : Nat) (x : Vh), vl[k]? = some x → k < i → ∃ g, p x.key = some (some g)) ∧ (∀ k, p k ≠ none → ∃ x ∈ vl, x.key = k) := hinv
 dsimp only
 refine sr_ ?_
 obtain ⟨hi0, hok, hdom, hdin⟩ := hinv
 refine wl_ov (ov_lss rfl rfl) rfl (nn_ (gw_seq ?_))
 refine gw_cond rfl (fun hh => ?_) (fun hh => ?_)
 ·have hi : ((i : Nat) : Int) < ((vn : Nat) : Int) := by simpa using hh
  clear hh
  refine gw_skip (nx_then (gw_seq (gw_block (sr_ ?_))))
  obtain ⟨b0, off, hA, _, _⟩ := hv.get (by omega)
  subst hA
  obtain ⟨x, hx⟩ : ∃ x, vl[i]? = some x := ⟨_, List.getElem?_eq_getElem (by omega)⟩
  obtain ⟨vk, vc2⟩ := x
  refine wl_ov (ov_index (j := i) es28 rfl rfl (by omega)) rfl ?_
  refine wl_ov (ov_elem (vs := [.string vk, .string vc2]) rz69 rfl (fun _ hm => (hm.fact 3 rfl).1) hx rfl rfl) rfl ?_
  refine wl_alloc zc69 rfl fun g5 => ?_
  refine wl_stores (cs' := [.string vk, .string vc2]) 0 rz69 rfl rfl rfl rfl rfl rfl rfl rfl ?_
  refine nn_ (gw_region (mv_ rfl (fd_ fo69_0 rfl rfl (lk_ sc9 0 rfl rfl rfl ?_))))
  refine wl_ov (ov_build (cs := [.int .i64 0, .int .i64 0, .int .i64 0, .int .i64 0, .int .i64 0, .int .i64 0]) rfl (by kernel_rfl)) rfl ?_
  refine wl_boxN 0 2 1 rfl rfl rfl rfl rfl rfl fun g6 hfr_g6 hf1_g6 hf2_g6 => ?_
  refine wl_mapPut (enc := encP) (v := (some g6)) (k := 9) (e := 137) (X' := [Fam 42 w.heap.size p (fun _ _ => 0), MapF encS w.heap.size g4 (fNil), SlOld vhEnc 2 69 w.heap.size none (some ⟨b0, off, none⟩) vn vl, SlOld evEnc 5 105 w.heap.size none eA en el]) 2 (by kernel_rfl) (by kernel_rfl) rfl rfl rfl rfl (far_cons (i := 0) (Fam.far hok.ne1) rfl (far_cons (i := 1) (MapF.far hne_g4.symm) rfl (far_cons (i := 3) SlOld.far rfl (far_cons (i := 4) SlOld.far rfl far_nil)))) ?_
  refine wl_nil (nx_blk_nrm (nx_then (gw_region (ad_ rfl rfl (mv_ rfl (wl_nil ?_))))))
  refine nx_fam (k := vk) (g := g6) (p := p) (G := fun _ _ => 0) 0 1 rfl rfl rfl ?_
  exact nx_round (i + 1, fPut (p) vk (some g6)) ⟨by dsimp only; omega, hok.put hfr_g6 hf1_g6 hf2_g6, dom_put hdom hx, dom_in hdin hx⟩ (by dsimp only; omega) ⟨rfl, rfl, rfl, rfl, rfl, rfl, rfl, rfl, (some_int (by omega)), trivial⟩ (fun _ hm => hm.pick [2, 3] [] [0, 3, 1, 4, 5] rfl rfl)
 have hi : ¬ (((i : Nat) : Int) < ((vn : Nat) : Int)) := by simpa using hh
 clear hh
 refine gw_exit ?_
 refine nx_then_exit (nx_then_exit ?_)
 refine nx_blk_here ?_
 refine nx_then (gw_seq (sr_ ?_))
 have hdom : (∀ (k : Nat) (x : Vh), vl[k]? = some x → k < vl.length → ∃ g, p x.key = some (some g)) := fun k x hx hk => hdom k x hx (by omega)
 refine mv_ rfl (wl_ov (ov_len es32 rfl) rfl (mv_ rfl (nn_ (gw_block ?_))))
 refine gw_loop (γ := Nat × AMap × (ByteArray → Int → Int)) (fun gg => gg.1 ≤ en ∧ SpInv a b el (el.drop gg.1) (fun v => (gg.2.1 v).getD sa0) gg.2.2 ∧ (∀ u t, 0 ≤ gg.2.2 u t ∧ gg.2.2 u t ≤ ((gg.1 : Nat) : Int) * 6000000) ∧ CurS gg.2.1) (fun gg => [(3, .pointer (some ⟨g1, 0, none⟩)), (5, .pointer (some ⟨g2, 0, none⟩)), (6, .map none), (7, .map (some g3)), (8, .map (some g4)), (34, .slice eA en ec), (35, .int .i64 ((en : Nat) : Int)), (36, .int .i64 ((gg.1 : Nat) : Int))]) (fun gg => fun _ => True) (fun gg => [(g2, 39, [.int .i64 a, .int .i64 b]), (g1, 31, [.slice sA sn sc, .slice cA cn cc, .slice vA vn vc, .slice pA pn pc])]) (fun gg => []) (fun gg => [Fam 42 w.heap.size p gg.2.2, MapF encS w.heap.size g4 (gg.2.1), MapF encP w.heap.size g3 (p), SlOld vhEnc 2 69 w.heap.size none vA vn vl, SlOld evEnc 5 105 w.heap.size none eA en el]) (fun gg => en - gg.1) (0, fNil, (fun _ _ => 0)) ⟨Nat.zero_le _, sp_start, (fun _ _ => ⟨Int.le_refl _, by dsimp only; omega⟩), curS_nil⟩ ⟨rfl, rfl, rfl, rfl, rfl, rfl, rfl, rfl, trivial⟩ (fun _ hm => hm.pick [0, 1] [] [0, 1, 2, 3, 4] rfl rfl) ?_
 rintro ⟨i, F, G⟩ hinv
 replace hinv : i ≤ en ∧ SpInv a b el (el.drop i) (fun v => (F v).getD sa0) G ∧ (∀ u t, 0 ≤ G u t ∧ G u t ≤ ((i : Nat) : Int) * 6000000) ∧ CurS F := hinv
 dsimp only
 refine sr_ ?_
 obtain ⟨hi0, hsp, hGb, hcur⟩ := hinv
 refine wl_ov (ov_lss rfl rfl) rfl (nn_ (gw_seq ?_))
 refine gw_cond rfl (fun hh => ?_) (fun hh => ?_)
 ·have hi : ((i : Nat) : Int) < ((en : Nat) : Int) := by simpa using hh
  clear hh
  refine gw_skip (nx_then (gw_seq (gw_block (sr_ ?_))))
  obtain ⟨be, oe, hA, _, _⟩ := hl.get (by omega)
  subst hA
  obtain ⟨x, hx⟩ : ∃ x, el[i]? = some x := ⟨_, List.getElem?_eq_getElem (by omega)⟩
  obtain ⟨e0, e1, e2, e3, e4⟩ := x
  have hex := heok _ (List.mem_of_getElem? hx)
  obtain ⟨gv, hgv⟩ := dom_veh hdom (hveh _ (List.mem_of_getElem? hx))
  have hgv : p e1 = some (some gv) := hgv
  have he0 : -4000000000000000000 ≤ e0 ∧ e0 ≤ 4000000000000000000 := hex.1
  have hrest : el.drop i = (⟨e0, e1, e2, e3, e4⟩ : Ev) :: el.drop (i + 1) := by
   obtain ⟨h1, h2⟩ := List.getElem?_eq_some_iff.1 hx
   rw [← h2]; exact List.drop_eq_getElem_cons h1
  have hcr := hcur e1
  obtain ⟨S0, hS0⟩ : ∃ z, z = ((F) e1).getD sa0 := ⟨_, rfl⟩
  obtain ⟨s0, s1, s2⟩ := S0
  obtain ⟨T0, hT0⟩ : ∃ z, z = stepS ⟨s0, s1, s2⟩ (⟨e0, e1, e2, e3, e4⟩ : Ev) := ⟨_, rfl⟩
  obtain ⟨t0, t1, t2⟩ := T0
  rw [← hS0] at hcr
  dsimp only at hcr
  rw [hrest] at hsp
  have hFS : (F (⟨e0, e1, e2, e3, e4⟩ : Ev).veh).getD sa0 = ⟨s0, s1, s2⟩ := hS0.symm
  refine wl_ov (ov_index (j := i) es32 rfl rfl (by omega)) rfl ?_
  refine wl_ov (ov_elem (vs := [.int .i64 e0, .string e1, .string e2, .int .i64 e3, .string e4]) rz105 rfl (fun _ hm => (hm.fact 4 rfl).1) hx rfl rfl) rfl ?_
  refine wl_alloc zc105 rfl fun g7 => ?_
  refine wl_stores (cs' := [.int .i64 e0, .string e1, .string e2, .int .i64 e3, .string e4]) 0 rz105 rfl rfl rfl rfl rfl rfl rfl rfl ?_
  refine nn_ (sr_ (mv_ rfl (fd_ fo105_1 rfl rfl (lk_ sc9 0 rfl rfl rfl ?_))))
  refine wl_ov (ov_lookF (enc := encS) (k := 9) (e := 142) sa0 (by kernel_rfl) (by kernel_rfl) (by kernel_rfl) rfl rfl (fun _ hm => (hm.fact 1 rfl))) rfl ?_
  refine wl_set 43 (v' := .agg #[.int .i64 s0, .string s1, .int .i64 s2]) rfl (congrArg encS hS0.symm) ?_
  refine wl_alloc zc142 rfl fun g8 => ?_
  refine wl_stores (cs' := [.int .i64 s0, .string s1, .int .i64 s2]) 0 rz142 rfl rfl rfl rfl rfl rfl rfl rfl ?_
  refine nn_ (sr_ ?_)
  refine wl_ov (ov_loads rz142 rfl (fun _ hm => hm.blkI 0 rfl) rfl rfl) rfl ?_
  refine wl_ov (ov_loads rz105 rfl (fun _ hm => hm.blkI 1 rfl) rfl rfl) rfl ?_
  refine wl_callv (v := .tuple #[.agg #[.int .i64 t0, .string t1, .int .i64 t2], .bool (goodB ⟨s0, s1, s2⟩ (⟨e0, e1, e2, e3, e4⟩ : Ev))]) rfl cb72 rfl rfl (fun wx hm => (by have h := follow_any s0 s1 s2 e0 e1 e2 e3 e4 wx; rw [← hT0] at h; exact h)) ?_
  refine mv_ rfl (wl_ov (ov_extract rfl rfl) rfl (wl_ov (ov_extract rfl rfl) rfl ?_))
  refine wl_alloc zc142 rfl fun g9 => ?_
  refine wl_stores (cs' := [.int .i64 t0, .string t1, .int .i64 t2]) 0 rz142 rfl rfl rfl rfl rfl rfl rfl rfl ?_
  refine sg_ rfl (nn_ (sr_ (mv_ rfl (nn_ ?_))))
  refine gw_cond rfl (fun hh => ?_) (fun hh => ?_)
  ·have hg : (goodB ⟨s0, s1, s2⟩ (⟨e0, e1, e2, e3, e4⟩ : Ev)) = true := by simpa using hh
   clear hh
   refine gw_seq ?_
   have hcb := cmn_bd (c := s2) (d := e0) hab
   have hsp2 := sp_good hsp (show goodB ((F (⟨e0, e1, e2, e3, e4⟩ : Ev).veh).getD sa0) (⟨e0, e1, e2, e3, e4⟩ : Ev) = true by rw [hFS]; exact hg)
   rw [hFS] at hsp2
   dsimp only at hsp2
   have hT : nextS (⟨e0, e1, e2, e3, e4⟩ : Ev) = ⟨t0, t1, t2⟩ := by
    have h := hT0
    unfold stepS at h
    rw [if_pos hg] at h; exact h.symm
   have hcu2 := hcur.put (k := e1) hex
   rw [hT] at hsp2 hcu2
   have hgb2 := gPut_bd (v := e1) (j := s0) hGb hcb.1 (show cmn a b s2 e0 ≤ 6000000 by omega)
   refine gd (fun wz => Blk wz g9 142 [.int .i64 t0, .string t1, .int .i64 t2] ∧ Blk wz g8 142 [.int .i64 s0, .string s1, .int .i64 s2] ∧ Blk wz g7 105 [.int .i64 e0, .string e1, .string e2, .int .i64 e3, .string e4] ∧ Blk wz g2 39 [.int .i64 a, .int .i64 b] ∧ Blk wz g1 31 [.slice sA sn sc, .slice cA cn cc, .slice vA vn vc, .slice pA pn pc] ∧ (MapF encS w.heap.size g4 (F)) wz ∧ (MapF encP w.heap.size g3 (p)) wz ∧ (SlOld vhEnc 2 69 w.heap.size none vA vn vl) wz ∧ (SlOld evEnc 5 105 w.heap.size none (some ⟨be, oe, none⟩) en el) wz ∧ True) mixed (fun _ hm => ⟨hm.bl 0, hm.bl 1, hm.bl 2, hm.bl 3, hm.bl 4, hm.fa 1, hm.fa 2, hm.fa 3, hm.fa 4, trivial⟩) fun z => ?_
   refine wt 0 14 1 rfl z (ov_move rfl) ?_
   refine wt 1 14 3 rfl z (ov_field fo105_1 rfl rfl) ?_
   refine wt 2 14 7 rfl z (ov_load sc9 rfl (fun _ hm => hm.2.2.1) rfl) ?_
   refine wt 3 14 15 rfl z (ov_lookF (enc := encP) (k := 9) (e := 137) none (by kernel_rfl) (by kernel_rfl) (by kernel_rfl) rfl rfl (fun _ hm => (hm.2.2.2.2.2.2.1))) ?_
   refine wa_set 54 (v' := .pointer (some ⟨gv, 0, none⟩)) rfl ((show encP ((p e1).getD none) = .pointer (some ⟨gv, 0, none⟩) by rw [hgv]; rfl)) ?_
   refine wt 4 14 31 rfl z (ov_field fo142_0 rfl rfl) ?_
   refine wt 5 14 63 rfl z (ov_load sc3 rfl (fun _ hm => hm.2.1) rfl) ?_
   refine wt 6 14 127 rfl z (ov_loads rz39 rfl (fun _ hm => hm.2.2.2.1) rfl rfl) ?_
   refine wt 7 14 255 rfl z (ov_field fo142_2 rfl rfl) ?_
   refine wt 8 14 511 rfl z (ov_load sc3 rfl (fun _ hm => hm.2.1) rfl) ?_
   refine wt 9 14 1023 rfl z (ov_field fo105_0 rfl rfl) ?_
   refine wt 10 14 2047 rfl z (ov_load sc3 rfl (fun _ hm => hm.2.2.1) rfl) ?_
   refine wt 11 14 4095 rfl z (ov_build (cs := [.int .i64 s2, .int .i64 e0]) rfl (by kernel_rfl)) ?_
   refine wa1 12 rfl ?_
   refine wl_callv rfl cb171 rfl rfl (fun wx hm => (lotCommon_any a b s2 e0 wx (by omega) (by omega) (by omega) (by omega))) ?_
   refine wl_nil ?_
   refine nw 14 8191 (fun _ hm => ⟨hm.bl 0, hm.bl 1, hm.bl 2, hm.bl 3, hm.bl 4, hm.fa 1, hm.fa 2, hm.fa 3, hm.fa 4, trivial⟩) fun z => ?_
   refine wa1 13 rfl ?_
   refine wl_famAdd (T := 42) (p := p) (G := G) (k := e1) (g := gv) (j := s0) (n := (cmn a b s2 e0)) (X' := [MapF encS w.heap.size g4 (F), MapF encP w.heap.size g3 (p), SlOld vhEnc 2 69 w.heap.size none vA vn vl, SlOld evEnc 5 105 w.heap.size none (some ⟨be, oe, none⟩) en el]) 0 rfl hgv hok.inj rfl rfl rfl rfl cb170 rfl rfl (fun wx hm hb => add_any gv (G e1) s0 (cmn a b s2 e0) wx hb (by omega) (fun t => by have h := hGb e1 t; omega) (by omega)) (far_cons (i := 1) (MapF.far (show g4 ≠ gv from fun e => hok.ne2 e1 (hgv.trans (by rw [e])))) rfl (far_cons (i := 2) (MapF.far (show g3 ≠ gv from fun e => hok.ne1 e1 (hgv.trans (by rw [e])))) rfl (far_cons (i := 3) SlOld.far rfl (far_cons (i := 4) SlOld.far rfl far_nil)))) ?_
   refine wl_nil ?_
   refine nw 14 16383 (fun _ hm => ⟨hm.bl 0, hm.bl 1, hm.bl 2, hm.bl 3, hm.bl 4, hm.fa 1, hm.fa 2, hm.fa 3, hm.fa 4, trivial⟩) fun z => ?_
   refine wa_done (by kernel_rfl) ?_
   refine nx_then (gw_region (mv_ rfl (fd_ fo105_1 rfl rfl (lk_ sc9 2 rfl rfl rfl ?_))))
   refine wl_ov (ov_loads rz142 rfl (fun _ hm => hm.blkI 0 rfl) rfl rfl) rfl ?_
   refine wl_mapPut (enc := encS) (v := (⟨t0, t1, t2⟩ : Sa)) (k := 9) (e := 142) (X' := [Fam 42 w.heap.size p (gPut G e1 s0 (cmn a b s2 e0)), MapF encP w.heap.size g3 (p), SlOld vhEnc 2 69 w.heap.size none vA vn vl, SlOld evEnc 5 105 w.heap.size none (some ⟨be, oe, none⟩) en el]) 1 (by kernel_rfl) (by kernel_rfl) rfl rfl rfl rfl (far_cons (i := 0) (Fam.far hok.ne2) rfl (far_cons (i := 2) (MapF.far hne_g4) rfl (far_cons (i := 3) SlOld.far rfl (far_cons (i := 4) SlOld.far rfl far_nil)))) ?_
   refine wl_nil (nx_blk_nrm (nx_then (gw_region (ad_ rfl rfl (mv_ rfl (wl_nil ?_))))))
   exact nx_round (i + 1, fPut (F) e1 (⟨t0, t1, t2⟩ : Sa), gPut G e1 s0 (cmn a b s2 e0)) ⟨by dsimp only; omega, hsp2, (fun u t => by have h := hgb2 u t; dsimp only; omega), hcu2⟩ (by dsimp only; omega) ⟨rfl, rfl, rfl, rfl, rfl, rfl, rfl, (some_int (by omega)), trivial⟩ (fun _ hm => hm.pick [3, 4] [] [1, 0, 2, 3, 4] rfl rfl)
  have hg : (goodB ⟨s0, s1, s2⟩ (⟨e0, e1, e2, e3, e4⟩ : Ev)) = false := by simpa using hh
  clear hh
  refine gw_skip (nx_blk_nrm (nx_then (gw_region ?_)))
  have hsp2 := sp_bad hsp (show ¬ goodB ((F (⟨e0, e1, e2, e3, e4⟩ : Ev).veh).getD sa0) (⟨e0, e1, e2, e3, e4⟩ : Ev) = true by rw [hFS, hg]; decide)
  refine ad_ rfl rfl (mv_ rfl (wl_nil ?_))
  exact nx_round (i + 1, F, G) ⟨by dsimp only; omega, hsp2, (fun u t => by have h := hGb u t; dsimp only; omega), hcur⟩ (by dsimp only; omega) ⟨rfl, rfl, rfl, rfl, rfl, rfl, rfl, (some_int (by omega)), trivial⟩ (fun _ hm => hm.pick [3, 4] [] [0, 1, 2, 3, 4] rfl rfl)
 have hi : ¬ (((i : Nat) : Int) < ((en : Nat) : Int)) := by simpa using hh
 clear hh
 refine gw_exit ?_
 refine nx_then_exit (nx_then_exit ?_)
 refine nx_blk_here ?_
 refine nx_then (gw_seq (sr_ ?_))
 have hse := sp_turn (vl := vl) (show SpInv a b el [] (fun v => (F v).getD sa0) G by rw [List.drop_eq_nil_of_le (by omega)] at hsp; exact hsp)
 refine fd_ fo31_2 rfl rfl (lk_ sc28 1 rfl rfl rfl (wl_ov (ov_len es28 rfl) rfl (mv_ rfl (nn_ (gw_block ?_)))))
 refine gw_loop (γ := Nat × (ByteArray → Int → Int)) (fun gg => gg.1 ≤ vn ∧ SpEnd a b el vl gg.1 (fun v => (F v).getD sa0) gg.2 ∧ (∀ u t, 0 ≤ gg.2 u t ∧ gg.2 u t ≤ ((1000 + gg.1 : Nat) : Int) * 6000000)) (fun gg => [(5, .pointer (some ⟨g2, 0, none⟩)), (6, .map none), (7, .map (some g3)), (8, .map (some g4)), (71, .slice vA vn vc), (72, .int .i64 ((vn : Nat) : Int)), (73, .int .i64 ((gg.1 : Nat) : Int))]) (fun gg => fun _ => True) (fun gg => [(g2, 39, [.int .i64 a, .int .i64 b]), (g1, 31, [.slice sA sn sc, .slice cA cn cc, .slice vA vn vc, .slice pA pn pc])]) (fun gg => []) (fun gg => [Fam 42 w.heap.size p gg.2, MapF encS w.heap.size g4 (F), MapF encP w.heap.size g3 (p), SlOld vhEnc 2 69 w.heap.size none vA vn vl, SlOld evEnc 5 105 w.heap.size none eA en el]) (fun gg => vn - gg.1) (0, G) ⟨Nat.zero_le _, hse, (fun u t => by have h := hGb u t; dsimp only; omega)⟩ ⟨rfl, rfl, rfl, rfl, rfl, rfl, rfl, trivial⟩ (fun _ hm => hm.pick [0, 1] [] [0, 1, 2, 3, 4] rfl rfl) ?_
 rintro ⟨q, H⟩ hinv
 replace hinv : q ≤ vn ∧ SpEnd a b el vl q (fun v => (F v).getD sa0) H ∧ (∀ u t, 0 ≤ H u t ∧ H u t ≤ ((1000 + q : Nat) : Int) * 6000000) := hinv
 dsimp only
 refine sr_ ?_
 obtain ⟨hq0, hse, hGb⟩ := hinv
 refine wl_ov (ov_lss rfl rfl) rfl (nn_ (gw_seq ?_))
 refine gw_cond rfl (fun hh => ?_) (fun hh => ?_)
 ·have hq : ((q : Nat) : Int) < ((vn : Nat) : Int) := by simpa using hh
  clear hh
  refine gw_skip (nx_then (gw_seq (gw_block (sr_ ?_))))
  obtain ⟨b3, o3, hA, _, _⟩ := hv.get (by omega)
  subst hA
  obtain ⟨x, hx⟩ : ∃ x, vl[q]? = some x := ⟨_, List.getElem?_eq_getElem (by omega)⟩
  obtain ⟨vk, vc2⟩ := x
  obtain ⟨gv, hgv⟩ := hdom q _ hx (by omega)
  have hgv : p vk = some (some gv) := hgv
  have hcr := hcur vk
  obtain ⟨S0, hS0⟩ : ∃ z, z = (F vk).getD sa0 := ⟨_, rfl⟩
  obtain ⟨s0, s1, s2⟩ := S0
  rw [← hS0] at hcr
  dsimp only at hcr
  have hcb := cmn_bd (c := s2) (d := 5761440) hab
  have hse2 := sp_next hse hrise hx
  dsimp only at hse2
  rw [← hS0] at hse2
  dsimp only at hse2
  have hgb2 := gPut_bd (v := vk) (j := s0) hGb hcb.1 (show cmn a b s2 5761440 ≤ 6000000 by omega)
  refine wl_ov (ov_index (j := q) es28 rfl rfl (by omega)) rfl ?_
  refine wl_ov (ov_elem (vs := [.string vk, .string vc2]) rz69 rfl (fun _ hm => (hm.fact 3 rfl).1) hx rfl rfl) rfl ?_
  refine wl_alloc zc69 rfl fun g10 => ?_
  refine wl_stores (cs' := [.string vk, .string vc2]) 0 rz69 rfl rfl rfl rfl rfl rfl rfl rfl ?_
  refine nn_ (sr_ (mv_ rfl (fd_ fo69_0 rfl rfl (lk_ sc9 0 rfl rfl rfl ?_))))
  refine wl_ov (ov_lookF (enc := encS) (k := 9) (e := 142) sa0 (by kernel_rfl) (by kernel_rfl) (by kernel_rfl) rfl rfl (fun _ hm => (hm.fact 1 rfl))) rfl ?_
  refine wl_set 80 (v' := .agg #[.int .i64 s0, .string s1, .int .i64 s2]) rfl (congrArg encS hS0.symm) ?_
  refine wl_alloc zc142 rfl fun g11 => ?_
  refine wl_stores (cs' := [.int .i64 s0, .string s1, .int .i64 s2]) 0 rz142 rfl rfl rfl rfl rfl rfl rfl rfl ?_
  refine nn_ ?_
  refine gd (fun wz => Blk wz g11 142 [.int .i64 s0, .string s1, .int .i64 s2] ∧ Blk wz g10 69 [.string vk, .string vc2] ∧ Blk wz g2 39 [.int .i64 a, .int .i64 b] ∧ Blk wz g1 31 [.slice sA sn sc, .slice cA cn cc, .slice (some ⟨b3, o3, none⟩) vn vc, .slice pA pn pc] ∧ (MapF encS w.heap.size g4 (F)) wz ∧ (MapF encP w.heap.size g3 (p)) wz ∧ (SlOld vhEnc 2 69 w.heap.size none (some ⟨b3, o3, none⟩) vn vl) wz ∧ (SlOld evEnc 5 105 w.heap.size none eA en el) wz ∧ True) mixed (fun _ hm => ⟨hm.bl 0, hm.bl 1, hm.bl 2, hm.bl 3, hm.fa 1, hm.fa 2, hm.fa 3, hm.fa 4, trivial⟩) fun z => ?_
  refine wt 0 12 1 rfl z (ov_move rfl) ?_
  refine wt 1 12 3 rfl z (ov_field fo69_0 rfl rfl) ?_
  refine wt 2 12 7 rfl z (ov_load sc9 rfl (fun _ hm => hm.2.1) rfl) ?_
  refine wt 3 12 15 rfl z (ov_lookF (enc := encP) (k := 9) (e := 137) none (by kernel_rfl) (by kernel_rfl) (by kernel_rfl) rfl rfl (fun _ hm => (hm.2.2.2.2.2.1))) ?_
  refine wa_set 84 (v' := .pointer (some ⟨gv, 0, none⟩)) rfl ((show encP ((p vk).getD none) = .pointer (some ⟨gv, 0, none⟩) by rw [hgv]; rfl)) ?_
  refine wt 4 12 31 rfl z (ov_field fo142_0 rfl rfl) ?_
  refine wt 5 12 63 rfl z (ov_load sc3 rfl (fun _ hm => hm.1) rfl) ?_
  refine wt 6 12 127 rfl z (ov_loads rz39 rfl (fun _ hm => hm.2.2.1) rfl rfl) ?_
  refine wt 7 12 255 rfl z (ov_field fo142_2 rfl rfl) ?_
  refine wt 8 12 511 rfl z (ov_load sc3 rfl (fun _ hm => hm.1) rfl) ?_
  refine wt 9 12 1023 rfl z (ov_build (cs := [.int .i64 s2, .int .i64 5761440]) rfl (by kernel_rfl)) ?_
  refine wa1 10 rfl ?_
  refine wl_callv rfl cb171 rfl rfl (fun wx hm => (lotCommon_any a b s2 5761440 wx (by omega) (by omega) (by omega) (by omega))) ?_
  refine wl_nil ?_
  refine nw 12 2047 (fun _ hm => ⟨hm.bl 0, hm.bl 1, hm.bl 2, hm.bl 3, hm.fa 1, hm.fa 2, hm.fa 3, hm.fa 4, trivial⟩) fun z => ?_
  refine wa1 11 rfl ?_
  refine wl_famAdd (T := 42) (p := p) (G := H) (k := vk) (g := gv) (j := s0) (n := (cmn a b s2 5761440)) (X' := [MapF encS w.heap.size g4 (F), MapF encP w.heap.size g3 (p), SlOld vhEnc 2 69 w.heap.size none (some ⟨b3, o3, none⟩) vn vl, SlOld evEnc 5 105 w.heap.size none eA en el]) 0 rfl hgv hok.inj rfl rfl rfl rfl cb170 rfl rfl (fun wx hm hb => add_any gv (H vk) s0 (cmn a b s2 5761440) wx hb (by omega) (fun t => by have h := hGb vk t; omega) (by omega)) (far_cons (i := 1) (MapF.far (show g4 ≠ gv from fun e => hok.ne2 vk (hgv.trans (by rw [e])))) rfl (far_cons (i := 2) (MapF.far (show g3 ≠ gv from fun e => hok.ne1 vk (hgv.trans (by rw [e])))) rfl (far_cons (i := 3) SlOld.far rfl (far_cons (i := 4) SlOld.far rfl far_nil)))) ?_
  refine wl_nil ?_
  refine nw 12 4095 (fun _ hm => ⟨hm.bl 0, hm.bl 1, hm.bl 2, hm.bl 3, hm.fa 1, hm.fa 2, hm.fa 3, hm.fa 4, trivial⟩) fun z => ?_
  refine wa_done (by kernel_rfl) ?_
  refine nx_blk_nrm (nx_then (gw_region (ad_ rfl rfl (mv_ rfl (wl_nil ?_)))))
  exact nx_round (q + 1, gPut H vk s0 (cmn a b s2 5761440)) ⟨by dsimp only; omega, hse2, (fun u t => by have h := hgb2 u t; dsimp only; omega)⟩ (by dsimp only; omega) ⟨rfl, rfl, rfl, rfl, rfl, rfl, (some_int (by omega)), trivial⟩ (fun _ hm => hm.pick [2, 3] [] [0, 1, 2, 3, 4] rfl rfl)
 have hq : ¬ (((q : Nat) : Int) < ((vn : Nat) : Int)) := by simpa using hh
 clear hh
 refine gw_exit ?_
 refine nx_then_exit (nx_then_exit ?_)
 refine nx_blk_here ?_
 refine nx_then (sr_ ?_)
 obtain rfl : q = vl.length := by omega
 refine mv_ rfl (sg_ rfl (nn_ ?_))
 refine gw_ret ?_
 refine nx_ret1 rfl rfl fun wx hm => ?_
 exact ⟨g3, p, H, rfl, ((hm.fact 2 rfl)).lower (Nat.zero_le _), (hm.fact 0 rfl), (fun k x hx => hdom k x hx (List.getElem?_eq_some_iff.1 hx).1), hdin, (fun k x hx j => sp_done hse hx j), hm.g⟩
end Go.Proofs.YtdoooppeiphefaaGreatDoor
namespace Go.Proofs.YtdoooppeiphefaaGreatDoor
open Go.RowKit
theorem ar150 : arrSz Tryz.prog 150 = some (6, 1) := by kernel_rfl
theorem stages_bd {v : ByteArray} {l : List Ev} (h : ∀ x ∈ l, EvOk x) : ∀ z ∈ stages l v, -4000000000000000000 ≤ z.since ∧ z.since ≤ 4000000000000000000 := fun z hz => by
  rcases List.mem_cons.1 hz with rfl | hz
  · exact ⟨by decide, by decide⟩
  · exact stgs_bd h z hz
theorem spentOf_any (el : List Ev) (eA : Option Addr) (en ec : Nat) (vk : ByteArray) (a b : Int) (w : World) (hl : SlT evEnc 5 105 w eA en el) (heok : ∀ x ∈ el, EvOk x) (hen : en ≤ 1000) (ha0 : 0 ≤ a) (hab : a ≤ b) (hb0 : b ≤ 5761440) :
  Calls Tryz.prog 21 #[.slice eA en ec, .string vk, .agg #[.int .i64 a, .int .i64 b]] w (fun e w' => e = .returned (.agg #[.int .i64 (spT a b el vk 0), .int .i64 (spT a b el vk 1), .int .i64 (spT a b el vk 2), .int .i64 (spT a b el vk 3), .int .i64 (spT a b el vk 4), .int .i64 (spT a b el vk 5)]) ∧ w.grownBy w' none) := by
 refine gw_enter ⟨68, w, none, []⟩ Tryz.func21 rfl Tryz.ntmps21 rfl (mem0 (X := [SlOld evEnc 5 105 w.heap.size none eA en el]) (allF_cons hl.old allF_nil) (allL_cons SlOld.lasts allL_nil)) ?_
 refine sr_ ?_
 refine wl_box rfl rfl rfl fun g1 => ?_
 refine wl_alloc zc42 rfl fun g2 => ?_
 refine nn_ (sr_ ?_)
 refine wl_alloc zc150 rfl fun g3 => ?_
 refine nn_ (sr_ (mv_ rfl (mv_ rfl ?_)))
 refine wl_callgo (γ := Option Addr × Nat × Nat × Option Addr × Nat × Nat) (val := (fun g => .tuple #[.slice g.1 g.2.1 g.2.2.1, .slice g.2.2.2.1 g.2.2.2.2.1 g.2.2.2.2.2])) (φ := (fun g => (stages el vk).length = g.2.1 ∧ g.2.1 ≤ en + 1)) (fun g => ⟨.slice g.1 g.2.1 g.2.2.1, 142, 3, g.2.1, (stages el vk).flatMap saEnc⟩) rfl cb77 rfl rfl (fun wx hm => (stages_any el eA en ec vk wx (hm.fact 0 rfl).1 (by omega)).mono fun _ _ ⟨A1, n1, c1, A2, n2, c2, he, ho1, hz1, ho2, hz2, hb1, hb2, hg⟩ => ⟨(A1, n1, c1, A2, n2, c2), he, ⟨hz1, hb1⟩, ho1, hg⟩) ?_
 rintro ⟨A1, sN, c1, A2, bN, c2⟩ hst
 dsimp only at hst ⊢
 obtain ⟨hsl, hsn⟩ := hst
 have hsf := stages_fine (v := vk) heok
 have hsb := stages_bd (v := vk) heok
 have hn0 : 1 ≤ sN := by rw [← hsl]; exact Nat.succ_le_succ (Nat.zero_le _)
 obtain ⟨SS, hSS⟩ : ∃ z, z = stages el vk := ⟨_, rfl⟩
 have hspT : ∀ j, spT a b el vk j = stT a b j SS := fun j => by rw [hSS]; rfl
 rw [← hSS] at hsl hsf hsb
 rw [← hSS]
 refine mv_ rfl (wl_ov (ov_extract rfl rfl) rfl (wl_ov (ov_extract rfl rfl) rfl (sg_ rfl (sg_ rfl (nn_ (gw_seq (sr_ (mv_ rfl (wl_ov (ov_len es151 rfl) rfl (mv_ rfl (wl_nil ?_)))))))))))
 refine nx_then (gw_block ?_)
 refine gw_look (R := ∃ g, A1 = some ⟨g, 0, none⟩) (fun wx hm => own_addr (hm.ownI 0 rfl) (by omega)) ?_
 rintro ⟨bs, rfl⟩
 refine gw_loop (γ := Nat × Int × Int × Int × Int × Int × Int) (fun g => g.1 ≤ sN ∧ (g.2.1 + stT a b 0 (SS.drop g.1) = stT a b 0 SS ∧ 0 ≤ g.2.1 ∧ g.2.1 ≤ ((g.1 : Nat) : Int) * 6000000) ∧ (g.2.2.1 + stT a b 1 (SS.drop g.1) = stT a b 1 SS ∧ 0 ≤ g.2.2.1 ∧ g.2.2.1 ≤ ((g.1 : Nat) : Int) * 6000000) ∧ (g.2.2.2.1 + stT a b 2 (SS.drop g.1) = stT a b 2 SS ∧ 0 ≤ g.2.2.2.1 ∧ g.2.2.2.1 ≤ ((g.1 : Nat) : Int) * 6000000) ∧ (g.2.2.2.2.1 + stT a b 3 (SS.drop g.1) = stT a b 3 SS ∧ 0 ≤ g.2.2.2.2.1 ∧ g.2.2.2.2.1 ≤ ((g.1 : Nat) : Int) * 6000000) ∧ (g.2.2.2.2.2.1 + stT a b 4 (SS.drop g.1) = stT a b 4 SS ∧ 0 ≤ g.2.2.2.2.2.1 ∧ g.2.2.2.2.2.1 ≤ ((g.1 : Nat) : Int) * 6000000) ∧ (g.2.2.2.2.2.2 + stT a b 5 (SS.drop g.1) = stT a b 5 SS ∧ 0 ≤ g.2.2.2.2.2.2 ∧ g.2.2.2.2.2.2 ≤ ((g.1 : Nat) : Int) * 6000000)) (fun g => [(5, .pointer (some ⟨g1, 0, none⟩)), (6, .pointer (some ⟨g2, 0, none⟩)), (7, .pointer (some ⟨g3, 0, none⟩)), (8, .slice (some ⟨bs, 0, none⟩) sN c1), (19, .slice (some ⟨bs, 0, none⟩) sN c1), (20, .int .i64 ((sN : Nat) : Int)), (21, .int .i64 ((g.1 : Nat) : Int))]) (fun g => fun _ => True) (fun g => [(g3, 150, [.int .i64 g.2.1, .int .i64 g.2.2.1, .int .i64 g.2.2.2.1, .int .i64 g.2.2.2.2.1, .int .i64 g.2.2.2.2.2.1, .int .i64 g.2.2.2.2.2.2]), (g2, 42, [.int .i64 0, .int .i64 0, .int .i64 0, .int .i64 0, .int .i64 0, .int .i64 0]), (g1, 39, [.int .i64 a, .int .i64 b])]) (fun g => [⟨.slice (some ⟨bs, 0, none⟩) sN c1, 142, 3, sN, SS.flatMap saEnc⟩]) (fun g => [SlOld evEnc 5 105 w.heap.size none eA en el]) (fun g => sN - g.1) (0, 0, 0, 0, 0, 0, 0) ⟨Nat.zero_le _, ⟨Int.zero_add _, Int.le_refl _, by dsimp only; omega⟩, ⟨Int.zero_add _, Int.le_refl _, by dsimp only; omega⟩, ⟨Int.zero_add _, Int.le_refl _, by dsimp only; omega⟩, ⟨Int.zero_add _, Int.le_refl _, by dsimp only; omega⟩, ⟨Int.zero_add _, Int.le_refl _, by dsimp only; omega⟩, ⟨Int.zero_add _, Int.le_refl _, by dsimp only; omega⟩⟩ ⟨rfl, rfl, rfl, rfl, rfl, rfl, rfl, trivial⟩ (fun _ hm => hm.pick [0, 1, 2] [0] [0] rfl rfl) ?_
 rintro ⟨i, n0, n1, n2, n3, n4, n5⟩ hinv
 replace hinv : i ≤ sN ∧ (n0 + stT a b 0 (SS.drop i) = stT a b 0 SS ∧ 0 ≤ n0 ∧ n0 ≤ ((i : Nat) : Int) * 6000000) ∧ (n1 + stT a b 1 (SS.drop i) = stT a b 1 SS ∧ 0 ≤ n1 ∧ n1 ≤ ((i : Nat) : Int) * 6000000) ∧ (n2 + stT a b 2 (SS.drop i) = stT a b 2 SS ∧ 0 ≤ n2 ∧ n2 ≤ ((i : Nat) : Int) * 6000000) ∧ (n3 + stT a b 3 (SS.drop i) = stT a b 3 SS ∧ 0 ≤ n3 ∧ n3 ≤ ((i : Nat) : Int) * 6000000) ∧ (n4 + stT a b 4 (SS.drop i) = stT a b 4 SS ∧ 0 ≤ n4 ∧ n4 ≤ ((i : Nat) : Int) * 6000000) ∧ (n5 + stT a b 5 (SS.drop i) = stT a b 5 SS ∧ 0 ≤ n5 ∧ n5 ≤ ((i : Nat) : Int) * 6000000) := hinv
 dsimp only
 refine sr_ ?_
 obtain ⟨hi0, ⟨p0, l0, u0⟩, ⟨p1, l1, u1⟩, ⟨p2, l2, u2⟩, ⟨p3, l3, u3⟩, ⟨p4, l4, u4⟩, ⟨p5, l5, u5⟩⟩ := hinv
 refine wl_ov (ov_lss rfl rfl) rfl (nn_ (gw_seq ?_))
 refine gw_cond rfl (fun hh => ?_) (fun hh => ?_)
 ·have hi : ((i : Nat) : Int) < ((sN : Nat) : Int) := by simpa using hh
  clear hh
  refine gw_skip (nx_then (gw_seq (gw_block (sr_ ?_))))
  obtain ⟨xx, hx⟩ : ∃ x, SS[i]? = some x := ⟨_, List.getElem?_eq_getElem (by omega)⟩
  obtain ⟨s0, s1, s2⟩ := xx
  obtain ⟨hf0, hf5, _⟩ := hsf _ (List.mem_of_getElem? hx)
  obtain ⟨hb0, hb1⟩ := hsb _ (List.mem_of_getElem? hx)
  dsimp only at hf0 hf5 hb0 hb1
  have hend := endOf_at (l := SS) (i := i + 1)
  refine mv_ rfl ?_
  refine wl_ov (ov_index (j := i) es151 rfl rfl (by omega)) rfl ?_
  refine wl_ov (ov_elem (vs := [.int .i64 s0, .string s1, .int .i64 s2]) rz142 rfl (fun _ hm => (SlT.ofOwn sa_len (hm.ownI 0 rfl) hsl)) hx rfl rfl) rfl ?_
  refine wl_alloc zc142 rfl fun g4 => ?_
  refine sg_ rfl ?_
  refine wl_stores (cs' := [.int .i64 s0, .string s1, .int .i64 s2]) 0 rz142 rfl rfl rfl rfl rfl rfl rfl rfl ?_
  refine nn_ (sr_ (sg_ rfl (nn_ ?_)))
  refine gw_cut (γ := Int) (I := (fun (en2 : Int) => en2 = endOf (SS.drop (i + 1)) ∧ -4000000000000000000 ≤ en2 ∧ en2 ≤ 4000000000000000000)) (S' := (fun (en2 : Int) => [(5, .pointer (some ⟨g1, 0, none⟩)), (6, .pointer (some ⟨g2, 0, none⟩)), (7, .pointer (some ⟨g3, 0, none⟩)), (8, .slice (some ⟨bs, 0, none⟩) sN c1), (11, .pointer (some ⟨g4, 0, none⟩)), (12, .int .i64 en2), (19, .slice (some ⟨bs, 0, none⟩) sN c1), (20, .int .i64 ((sN : Nat) : Int)), (21, .int .i64 ((i : Nat) : Int))])) (K' := (fun (en2 : Int) => fun _ => True)) (L' := (fun (en2 : Int) => [(g4, 142, [.int .i64 s0, .string s1, .int .i64 s2]), (g3, 150, [.int .i64 n0, .int .i64 n1, .int .i64 n2, .int .i64 n3, .int .i64 n4, .int .i64 n5]), (g2, 42, [.int .i64 0, .int .i64 0, .int .i64 0, .int .i64 0, .int .i64 0, .int .i64 0]), (g1, 39, [.int .i64 a, .int .i64 b])])) (O' := (fun (en2 : Int) => [⟨.slice (some ⟨bs, 0, none⟩) sN c1, 142, 3, sN, SS.flatMap saEnc⟩])) (X' := (fun (en2 : Int) => [SlOld evEnc 5 105 w.heap.size none eA en el])) ?_ ?_
  ·refine sr_ (mv_ rfl (ad_ rfl rfl (mv_ rfl (wl_ov (ov_len es151 rfl) rfl (wl_ov (ov_lss rfl rfl) rfl (nn_ ?_))))))
   refine gw_cond rfl (fun hh => ?_) (fun hh => ?_)
   ·have hin : ((i : Nat) : Int) + 1 < ((sN : Nat) : Int) := by simpa using hh
    clear hh
    refine gw_region ?_
    obtain ⟨yy, hy⟩ : ∃ x, SS[i + 1]? = some x := ⟨_, List.getElem?_eq_getElem (by omega)⟩
    obtain ⟨u0, u1, u2⟩ := yy
    have hbu := hsb _ (List.mem_of_getElem? hy)
    dsimp only at hbu
    rw [hy] at hend
    refine mv_ rfl (mv_ rfl (ad_ rfl rfl ?_))
    refine wl_set 33 (v' := .int .i64 (((i + 1) : Nat) : Int)) rfl (congrArg (Value.int .i64) (by omega)) ?_
    refine wl_ov (ov_index (j := (i + 1)) es151 rfl rfl (by omega)) rfl ?_
    refine fd_ fo142_2 rfl rfl ?_
    refine wl_ov (ov_elem1 (k := 2) (v := .int .i64 u2) sc3 rfl (fun _ hm => (SlT.ofOwn sa_len (hm.ownI 0 rfl) hsl)) hy rfl rfl) rfl ?_
    refine sg_ rfl (wl_nil ?_)
    exact nx_meet u2 ⟨hend.symm, hbu⟩ ⟨rfl, rfl, rfl, rfl, rfl, rfl, rfl, rfl, rfl, trivial⟩ (fun _ hm => hm.pick [0, 1, 2, 3] [0] [0] rfl rfl)
   have hin : ¬ (((i : Nat) : Int) + 1 < ((sN : Nat) : Int)) := by simpa using hh
   clear hh
   refine gw_skip ?_
   rw [List.getElem?_eq_none (by omega)] at hend
   exact nx_meet 5761440 ⟨hend.symm, by decide, by decide⟩ ⟨rfl, rfl, rfl, rfl, rfl, rfl, rfl, rfl, rfl, trivial⟩ (fun _ hm => hm.pick [0, 1, 2, 3] [0] [0] rfl rfl)
  intro en2 hinv
  replace hinv : en2 = endOf (SS.drop (i + 1)) ∧ -4000000000000000000 ≤ en2 ∧ en2 ≤ 4000000000000000000 := hinv
  obtain ⟨hen2, hel1, hel2⟩ := hinv
  have hsc : s0 = 0 ∨ s0 = 1 ∨ s0 = 2 ∨ s0 = 3 ∨ s0 = 4 ∨ s0 = 5 := by omega
  have hcm : cmn a b s2 en2 = max 0 (min b en2 - max a s2) := rfl
  have hcb := cmn_bd (c := s2) (d := en2) hab
  obtain ⟨CM, hCM⟩ : ∃ z, z = cmn a b s2 en2 := ⟨_, rfl⟩
  rw [← hCM] at hcb hcm
  rcases hsc with hsc | hsc | hsc | hsc | hsc | hsc
  ·subst hsc
   rw [stT_at hx, if_pos rfl, ← hen2, ← hCM] at p0
   rw [stT_at hx, if_neg (by simp), Int.zero_add] at p1
   rw [stT_at hx, if_neg (by simp), Int.zero_add] at p2
   rw [stT_at hx, if_neg (by simp), Int.zero_add] at p3
   rw [stT_at hx, if_neg (by simp), Int.zero_add] at p4
   rw [stT_at hx, if_neg (by simp), Int.zero_add] at p5
   refine gd (fun wz => Blk wz g4 142 [.int .i64 0, .string s1, .int .i64 s2] ∧ Blk wz g2 42 [.int .i64 0, .int .i64 0, .int .i64 0, .int .i64 0, .int .i64 0, .int .i64 0] ∧ Blk wz g1 39 [.int .i64 a, .int .i64 b] ∧ (SlOld evEnc 5 105 w.heap.size none eA en el) wz ∧ wz.ownsRow w.heap.size 142 3 (.slice (some ⟨bs, 0, none⟩) sN c1) sN (SS.flatMap saEnc) ∧ True) mixed (fun _ hm => ⟨hm.bl 0, hm.bl 2, hm.bl 3, hm.fa 0, hm.ownI 0 rfl, trivial⟩) fun z => ?_
   refine wt 0 18 1 rfl z (ov_field fo142_0 rfl rfl) ?_
   refine wt 1 18 3 rfl z (ov_load sc3 rfl (fun _ hm => hm.1) rfl) ?_
   refine wt 2 18 7 rfl z (ov_indexP (j := 0) ar150 rfl rfl (by decide) rfl) ?_
   refine wt 4 18 23 rfl z (ov_field fo39_1 rfl rfl) ?_
   refine wt 5 18 55 rfl z (ov_load sc3 rfl (fun _ hm => hm.2.2.1) rfl) ?_
   refine wt 6 18 119 rfl z (ov_move rfl) ?_
   refine wt 7 18 247 rfl z (ov_min rfl rfl) ?_
   refine wt 8 18 503 rfl z (ov_field fo39_0 rfl rfl) ?_
   refine wt 9 18 1015 rfl z (ov_load sc3 rfl (fun _ hm => hm.2.2.1) rfl) ?_
   refine wt 10 18 2039 rfl z (ov_field fo142_2 rfl rfl) ?_
   refine wt 11 18 4087 rfl z (ov_load sc3 rfl (fun _ hm => hm.1) rfl) ?_
   refine wt 12 18 8183 rfl z (ov_max rfl rfl) ?_
   refine wt 13 18 16375 rfl z (ov_sub rfl rfl (by omega) (by omega)) ?_
   refine wt 14 18 32759 rfl z (ov_max rfl rfl) ?_
   refine wa1 3 rfl ?_
   refine lk_ sc3 1 rfl rfl rfl (wl_nil ?_)
   refine nw 18 32767 (fun _ hm => ⟨hm.bl 0, hm.bl 2, hm.bl 3, hm.fa 0, hm.ownI 0 rfl, trivial⟩) fun z => ?_
   refine wt 15 18 65535 rfl z (ov_add rfl rfl (by omega) (by omega)) ?_
   refine wt 16 18 131071 rfl z (ov_indexP (j := 0) ar150 rfl rfl (by decide) rfl) ?_
   refine wa1 17 rfl ?_
   refine wl_store 1 sc3 rfl rfl rfl rfl rfl rfl ?_
   refine wl_nil ?_
   refine nw 18 262143 (fun _ hm => ⟨hm.bl 0, hm.bl 2, hm.bl 3, hm.fa 0, hm.ownI 0 rfl, trivial⟩) fun z => ?_
   refine wa_done (by kernel_rfl) ?_
   refine nx_blk_nrm (nx_then (gw_region (ad_ rfl rfl (mv_ rfl (wl_nil ?_)))))
   exact nx_round (i + 1, n0 + (max 0 ((min b en2) - (max a s2))), n1, n2, n3, n4, n5) ⟨by dsimp only; omega, ⟨by dsimp only; omega, by dsimp only; omega, by dsimp only; omega⟩, ⟨p1, l1, by dsimp only; omega⟩, ⟨p2, l2, by dsimp only; omega⟩, ⟨p3, l3, by dsimp only; omega⟩, ⟨p4, l4, by dsimp only; omega⟩, ⟨p5, l5, by dsimp only; omega⟩⟩ (by dsimp only; omega) ⟨rfl, rfl, rfl, rfl, rfl, rfl, (some_int (by omega)), trivial⟩ (fun _ hm => hm.pick [1, 2, 3] [0] [0] rfl rfl)
  ·subst hsc
   rw [stT_at hx, if_neg (by simp), Int.zero_add] at p0
   rw [stT_at hx, if_pos rfl, ← hen2, ← hCM] at p1
   rw [stT_at hx, if_neg (by simp), Int.zero_add] at p2
   rw [stT_at hx, if_neg (by simp), Int.zero_add] at p3
   rw [stT_at hx, if_neg (by simp), Int.zero_add] at p4
   rw [stT_at hx, if_neg (by simp), Int.zero_add] at p5
   refine gd (fun wz => Blk wz g4 142 [.int .i64 1, .string s1, .int .i64 s2] ∧ Blk wz g2 42 [.int .i64 0, .int .i64 0, .int .i64 0, .int .i64 0, .int .i64 0, .int .i64 0] ∧ Blk wz g1 39 [.int .i64 a, .int .i64 b] ∧ (SlOld evEnc 5 105 w.heap.size none eA en el) wz ∧ wz.ownsRow w.heap.size 142 3 (.slice (some ⟨bs, 0, none⟩) sN c1) sN (SS.flatMap saEnc) ∧ True) mixed (fun _ hm => ⟨hm.bl 0, hm.bl 2, hm.bl 3, hm.fa 0, hm.ownI 0 rfl, trivial⟩) fun z => ?_
   refine wt 0 18 1 rfl z (ov_field fo142_0 rfl rfl) ?_
   refine wt 1 18 3 rfl z (ov_load sc3 rfl (fun _ hm => hm.1) rfl) ?_
   refine wt 2 18 7 rfl z (ov_indexP (j := 1) ar150 rfl rfl (by decide) rfl) ?_
   refine wt 4 18 23 rfl z (ov_field fo39_1 rfl rfl) ?_
   refine wt 5 18 55 rfl z (ov_load sc3 rfl (fun _ hm => hm.2.2.1) rfl) ?_
   refine wt 6 18 119 rfl z (ov_move rfl) ?_
   refine wt 7 18 247 rfl z (ov_min rfl rfl) ?_
   refine wt 8 18 503 rfl z (ov_field fo39_0 rfl rfl) ?_
   refine wt 9 18 1015 rfl z (ov_load sc3 rfl (fun _ hm => hm.2.2.1) rfl) ?_
   refine wt 10 18 2039 rfl z (ov_field fo142_2 rfl rfl) ?_
   refine wt 11 18 4087 rfl z (ov_load sc3 rfl (fun _ hm => hm.1) rfl) ?_
   refine wt 12 18 8183 rfl z (ov_max rfl rfl) ?_
   refine wt 13 18 16375 rfl z (ov_sub rfl rfl (by omega) (by omega)) ?_
   refine wt 14 18 32759 rfl z (ov_max rfl rfl) ?_
   refine wa1 3 rfl ?_
   refine lk_ sc3 1 rfl rfl rfl (wl_nil ?_)
   refine nw 18 32767 (fun _ hm => ⟨hm.bl 0, hm.bl 2, hm.bl 3, hm.fa 0, hm.ownI 0 rfl, trivial⟩) fun z => ?_
   refine wt 15 18 65535 rfl z (ov_add rfl rfl (by omega) (by omega)) ?_
   refine wt 16 18 131071 rfl z (ov_indexP (j := 1) ar150 rfl rfl (by decide) rfl) ?_
   refine wa1 17 rfl ?_
   refine wl_store 1 sc3 rfl rfl rfl rfl rfl rfl ?_
   refine wl_nil ?_
   refine nw 18 262143 (fun _ hm => ⟨hm.bl 0, hm.bl 2, hm.bl 3, hm.fa 0, hm.ownI 0 rfl, trivial⟩) fun z => ?_
   refine wa_done (by kernel_rfl) ?_
   refine nx_blk_nrm (nx_then (gw_region (ad_ rfl rfl (mv_ rfl (wl_nil ?_)))))
   exact nx_round (i + 1, n0, n1 + (max 0 ((min b en2) - (max a s2))), n2, n3, n4, n5) ⟨by dsimp only; omega, ⟨p0, l0, by dsimp only; omega⟩, ⟨by dsimp only; omega, by dsimp only; omega, by dsimp only; omega⟩, ⟨p2, l2, by dsimp only; omega⟩, ⟨p3, l3, by dsimp only; omega⟩, ⟨p4, l4, by dsimp only; omega⟩, ⟨p5, l5, by dsimp only; omega⟩⟩ (by dsimp only; omega) ⟨rfl, rfl, rfl, rfl, rfl, rfl, (some_int (by omega)), trivial⟩ (fun _ hm => hm.pick [1, 2, 3] [0] [0] rfl rfl)
  ·subst hsc
   rw [stT_at hx, if_neg (by simp), Int.zero_add] at p0
   rw [stT_at hx, if_neg (by simp), Int.zero_add] at p1
   rw [stT_at hx, if_pos rfl, ← hen2, ← hCM] at p2
   rw [stT_at hx, if_neg (by simp), Int.zero_add] at p3
   rw [stT_at hx, if_neg (by simp), Int.zero_add] at p4
   rw [stT_at hx, if_neg (by simp), Int.zero_add] at p5
   refine gd (fun wz => Blk wz g4 142 [.int .i64 2, .string s1, .int .i64 s2] ∧ Blk wz g2 42 [.int .i64 0, .int .i64 0, .int .i64 0, .int .i64 0, .int .i64 0, .int .i64 0] ∧ Blk wz g1 39 [.int .i64 a, .int .i64 b] ∧ (SlOld evEnc 5 105 w.heap.size none eA en el) wz ∧ wz.ownsRow w.heap.size 142 3 (.slice (some ⟨bs, 0, none⟩) sN c1) sN (SS.flatMap saEnc) ∧ True) mixed (fun _ hm => ⟨hm.bl 0, hm.bl 2, hm.bl 3, hm.fa 0, hm.ownI 0 rfl, trivial⟩) fun z => ?_
   refine wt 0 18 1 rfl z (ov_field fo142_0 rfl rfl) ?_
   refine wt 1 18 3 rfl z (ov_load sc3 rfl (fun _ hm => hm.1) rfl) ?_
   refine wt 2 18 7 rfl z (ov_indexP (j := 2) ar150 rfl rfl (by decide) rfl) ?_
   refine wt 4 18 23 rfl z (ov_field fo39_1 rfl rfl) ?_
   refine wt 5 18 55 rfl z (ov_load sc3 rfl (fun _ hm => hm.2.2.1) rfl) ?_
   refine wt 6 18 119 rfl z (ov_move rfl) ?_
   refine wt 7 18 247 rfl z (ov_min rfl rfl) ?_
   refine wt 8 18 503 rfl z (ov_field fo39_0 rfl rfl) ?_
   refine wt 9 18 1015 rfl z (ov_load sc3 rfl (fun _ hm => hm.2.2.1) rfl) ?_
   refine wt 10 18 2039 rfl z (ov_field fo142_2 rfl rfl) ?_
   refine wt 11 18 4087 rfl z (ov_load sc3 rfl (fun _ hm => hm.1) rfl) ?_
   refine wt 12 18 8183 rfl z (ov_max rfl rfl) ?_
   refine wt 13 18 16375 rfl z (ov_sub rfl rfl (by omega) (by omega)) ?_
   refine wt 14 18 32759 rfl z (ov_max rfl rfl) ?_
   refine wa1 3 rfl ?_
   refine lk_ sc3 1 rfl rfl rfl (wl_nil ?_)
   refine nw 18 32767 (fun _ hm => ⟨hm.bl 0, hm.bl 2, hm.bl 3, hm.fa 0, hm.ownI 0 rfl, trivial⟩) fun z => ?_
   refine wt 15 18 65535 rfl z (ov_add rfl rfl (by omega) (by omega)) ?_
   refine wt 16 18 131071 rfl z (ov_indexP (j := 2) ar150 rfl rfl (by decide) rfl) ?_
   refine wa1 17 rfl ?_
   refine wl_store 1 sc3 rfl rfl rfl rfl rfl rfl ?_
   refine wl_nil ?_
   refine nw 18 262143 (fun _ hm => ⟨hm.bl 0, hm.bl 2, hm.bl 3, hm.fa 0, hm.ownI 0 rfl, trivial⟩) fun z => ?_
   refine wa_done (by kernel_rfl) ?_
   refine nx_blk_nrm (nx_then (gw_region (ad_ rfl rfl (mv_ rfl (wl_nil ?_)))))
   exact nx_round (i + 1, n0, n1, n2 + (max 0 ((min b en2) - (max a s2))), n3, n4, n5) ⟨by dsimp only; omega, ⟨p0, l0, by dsimp only; omega⟩, ⟨p1, l1, by dsimp only; omega⟩, ⟨by dsimp only; omega, by dsimp only; omega, by dsimp only; omega⟩, ⟨p3, l3, by dsimp only; omega⟩, ⟨p4, l4, by dsimp only; omega⟩, ⟨p5, l5, by dsimp only; omega⟩⟩ (by dsimp only; omega) ⟨rfl, rfl, rfl, rfl, rfl, rfl, (some_int (by omega)), trivial⟩ (fun _ hm => hm.pick [1, 2, 3] [0] [0] rfl rfl)
  ·subst hsc
   rw [stT_at hx, if_neg (by simp), Int.zero_add] at p0
   rw [stT_at hx, if_neg (by simp), Int.zero_add] at p1
   rw [stT_at hx, if_neg (by simp), Int.zero_add] at p2
   rw [stT_at hx, if_pos rfl, ← hen2, ← hCM] at p3
   rw [stT_at hx, if_neg (by simp), Int.zero_add] at p4
   rw [stT_at hx, if_neg (by simp), Int.zero_add] at p5
   refine gd (fun wz => Blk wz g4 142 [.int .i64 3, .string s1, .int .i64 s2] ∧ Blk wz g2 42 [.int .i64 0, .int .i64 0, .int .i64 0, .int .i64 0, .int .i64 0, .int .i64 0] ∧ Blk wz g1 39 [.int .i64 a, .int .i64 b] ∧ (SlOld evEnc 5 105 w.heap.size none eA en el) wz ∧ wz.ownsRow w.heap.size 142 3 (.slice (some ⟨bs, 0, none⟩) sN c1) sN (SS.flatMap saEnc) ∧ True) mixed (fun _ hm => ⟨hm.bl 0, hm.bl 2, hm.bl 3, hm.fa 0, hm.ownI 0 rfl, trivial⟩) fun z => ?_
   refine wt 0 18 1 rfl z (ov_field fo142_0 rfl rfl) ?_
   refine wt 1 18 3 rfl z (ov_load sc3 rfl (fun _ hm => hm.1) rfl) ?_
   refine wt 2 18 7 rfl z (ov_indexP (j := 3) ar150 rfl rfl (by decide) rfl) ?_
   refine wt 4 18 23 rfl z (ov_field fo39_1 rfl rfl) ?_
   refine wt 5 18 55 rfl z (ov_load sc3 rfl (fun _ hm => hm.2.2.1) rfl) ?_
   refine wt 6 18 119 rfl z (ov_move rfl) ?_
   refine wt 7 18 247 rfl z (ov_min rfl rfl) ?_
   refine wt 8 18 503 rfl z (ov_field fo39_0 rfl rfl) ?_
   refine wt 9 18 1015 rfl z (ov_load sc3 rfl (fun _ hm => hm.2.2.1) rfl) ?_
   refine wt 10 18 2039 rfl z (ov_field fo142_2 rfl rfl) ?_
   refine wt 11 18 4087 rfl z (ov_load sc3 rfl (fun _ hm => hm.1) rfl) ?_
   refine wt 12 18 8183 rfl z (ov_max rfl rfl) ?_
   refine wt 13 18 16375 rfl z (ov_sub rfl rfl (by omega) (by omega)) ?_
   refine wt 14 18 32759 rfl z (ov_max rfl rfl) ?_
   refine wa1 3 rfl ?_
   refine lk_ sc3 1 rfl rfl rfl (wl_nil ?_)
   refine nw 18 32767 (fun _ hm => ⟨hm.bl 0, hm.bl 2, hm.bl 3, hm.fa 0, hm.ownI 0 rfl, trivial⟩) fun z => ?_
   refine wt 15 18 65535 rfl z (ov_add rfl rfl (by omega) (by omega)) ?_
   refine wt 16 18 131071 rfl z (ov_indexP (j := 3) ar150 rfl rfl (by decide) rfl) ?_
   refine wa1 17 rfl ?_
   refine wl_store 1 sc3 rfl rfl rfl rfl rfl rfl ?_
   refine wl_nil ?_
   refine nw 18 262143 (fun _ hm => ⟨hm.bl 0, hm.bl 2, hm.bl 3, hm.fa 0, hm.ownI 0 rfl, trivial⟩) fun z => ?_
   refine wa_done (by kernel_rfl) ?_
   refine nx_blk_nrm (nx_then (gw_region (ad_ rfl rfl (mv_ rfl (wl_nil ?_)))))
   exact nx_round (i + 1, n0, n1, n2, n3 + (max 0 ((min b en2) - (max a s2))), n4, n5) ⟨by dsimp only; omega, ⟨p0, l0, by dsimp only; omega⟩, ⟨p1, l1, by dsimp only; omega⟩, ⟨p2, l2, by dsimp only; omega⟩, ⟨by dsimp only; omega, by dsimp only; omega, by dsimp only; omega⟩, ⟨p4, l4, by dsimp only; omega⟩, ⟨p5, l5, by dsimp only; omega⟩⟩ (by dsimp only; omega) ⟨rfl, rfl, rfl, rfl, rfl, rfl, (some_int (by omega)), trivial⟩ (fun _ hm => hm.pick [1, 2, 3] [0] [0] rfl rfl)
  ·subst hsc
   rw [stT_at hx, if_neg (by simp), Int.zero_add] at p0
   rw [stT_at hx, if_neg (by simp), Int.zero_add] at p1
   rw [stT_at hx, if_neg (by simp), Int.zero_add] at p2
   rw [stT_at hx, if_neg (by simp), Int.zero_add] at p3
   rw [stT_at hx, if_pos rfl, ← hen2, ← hCM] at p4
   rw [stT_at hx, if_neg (by simp), Int.zero_add] at p5
   refine gd (fun wz => Blk wz g4 142 [.int .i64 4, .string s1, .int .i64 s2] ∧ Blk wz g2 42 [.int .i64 0, .int .i64 0, .int .i64 0, .int .i64 0, .int .i64 0, .int .i64 0] ∧ Blk wz g1 39 [.int .i64 a, .int .i64 b] ∧ (SlOld evEnc 5 105 w.heap.size none eA en el) wz ∧ wz.ownsRow w.heap.size 142 3 (.slice (some ⟨bs, 0, none⟩) sN c1) sN (SS.flatMap saEnc) ∧ True) mixed (fun _ hm => ⟨hm.bl 0, hm.bl 2, hm.bl 3, hm.fa 0, hm.ownI 0 rfl, trivial⟩) fun z => ?_
   refine wt 0 18 1 rfl z (ov_field fo142_0 rfl rfl) ?_
   refine wt 1 18 3 rfl z (ov_load sc3 rfl (fun _ hm => hm.1) rfl) ?_
   refine wt 2 18 7 rfl z (ov_indexP (j := 4) ar150 rfl rfl (by decide) rfl) ?_
   refine wt 4 18 23 rfl z (ov_field fo39_1 rfl rfl) ?_
   refine wt 5 18 55 rfl z (ov_load sc3 rfl (fun _ hm => hm.2.2.1) rfl) ?_
   refine wt 6 18 119 rfl z (ov_move rfl) ?_
   refine wt 7 18 247 rfl z (ov_min rfl rfl) ?_
   refine wt 8 18 503 rfl z (ov_field fo39_0 rfl rfl) ?_
   refine wt 9 18 1015 rfl z (ov_load sc3 rfl (fun _ hm => hm.2.2.1) rfl) ?_
   refine wt 10 18 2039 rfl z (ov_field fo142_2 rfl rfl) ?_
   refine wt 11 18 4087 rfl z (ov_load sc3 rfl (fun _ hm => hm.1) rfl) ?_
   refine wt 12 18 8183 rfl z (ov_max rfl rfl) ?_
   refine wt 13 18 16375 rfl z (ov_sub rfl rfl (by omega) (by omega)) ?_
   refine wt 14 18 32759 rfl z (ov_max rfl rfl) ?_
   refine wa1 3 rfl ?_
   refine lk_ sc3 1 rfl rfl rfl (wl_nil ?_)
   refine nw 18 32767 (fun _ hm => ⟨hm.bl 0, hm.bl 2, hm.bl 3, hm.fa 0, hm.ownI 0 rfl, trivial⟩) fun z => ?_
   refine wt 15 18 65535 rfl z (ov_add rfl rfl (by omega) (by omega)) ?_
   refine wt 16 18 131071 rfl z (ov_indexP (j := 4) ar150 rfl rfl (by decide) rfl) ?_
   refine wa1 17 rfl ?_
   refine wl_store 1 sc3 rfl rfl rfl rfl rfl rfl ?_
   refine wl_nil ?_
   refine nw 18 262143 (fun _ hm => ⟨hm.bl 0, hm.bl 2, hm.bl 3, hm.fa 0, hm.ownI 0 rfl, trivial⟩) fun z => ?_
   refine wa_done (by kernel_rfl) ?_
   refine nx_blk_nrm (nx_then (gw_region (ad_ rfl rfl (mv_ rfl (wl_nil ?_)))))
   exact nx_round (i + 1, n0, n1, n2, n3, n4 + (max 0 ((min b en2) - (max a s2))), n5) ⟨by dsimp only; omega, ⟨p0, l0, by dsimp only; omega⟩, ⟨p1, l1, by dsimp only; omega⟩, ⟨p2, l2, by dsimp only; omega⟩, ⟨p3, l3, by dsimp only; omega⟩, ⟨by dsimp only; omega, by dsimp only; omega, by dsimp only; omega⟩, ⟨p5, l5, by dsimp only; omega⟩⟩ (by dsimp only; omega) ⟨rfl, rfl, rfl, rfl, rfl, rfl, (some_int (by omega)), trivial⟩ (fun _ hm => hm.pick [1, 2, 3] [0] [0] rfl rfl)
  subst hsc
  rw [stT_at hx, if_neg (by simp), Int.zero_add] at p0
  rw [stT_at hx, if_neg (by simp), Int.zero_add] at p1
  rw [stT_at hx, if_neg (by simp), Int.zero_add] at p2
  rw [stT_at hx, if_neg (by simp), Int.zero_add] at p3
  rw [stT_at hx, if_neg (by simp), Int.zero_add] at p4
  rw [stT_at hx, if_pos rfl, ← hen2, ← hCM] at p5
  refine gd (fun wz => Blk wz g4 142 [.int .i64 5, .string s1, .int .i64 s2] ∧ Blk wz g2 42 [.int .i64 0, .int .i64 0, .int .i64 0, .int .i64 0, .int .i64 0, .int .i64 0] ∧ Blk wz g1 39 [.int .i64 a, .int .i64 b] ∧ (SlOld evEnc 5 105 w.heap.size none eA en el) wz ∧ wz.ownsRow w.heap.size 142 3 (.slice (some ⟨bs, 0, none⟩) sN c1) sN (SS.flatMap saEnc) ∧ True) mixed (fun _ hm => ⟨hm.bl 0, hm.bl 2, hm.bl 3, hm.fa 0, hm.ownI 0 rfl, trivial⟩) fun z => ?_
  refine wt 0 18 1 rfl z (ov_field fo142_0 rfl rfl) ?_
  refine wt 1 18 3 rfl z (ov_load sc3 rfl (fun _ hm => hm.1) rfl) ?_
  refine wt 2 18 7 rfl z (ov_indexP (j := 5) ar150 rfl rfl (by decide) rfl) ?_
  refine wt 4 18 23 rfl z (ov_field fo39_1 rfl rfl) ?_
  refine wt 5 18 55 rfl z (ov_load sc3 rfl (fun _ hm => hm.2.2.1) rfl) ?_
  refine wt 6 18 119 rfl z (ov_move rfl) ?_
  refine wt 7 18 247 rfl z (ov_min rfl rfl) ?_
  refine wt 8 18 503 rfl z (ov_field fo39_0 rfl rfl) ?_
  refine wt 9 18 1015 rfl z (ov_load sc3 rfl (fun _ hm => hm.2.2.1) rfl) ?_
  refine wt 10 18 2039 rfl z (ov_field fo142_2 rfl rfl) ?_
  refine wt 11 18 4087 rfl z (ov_load sc3 rfl (fun _ hm => hm.1) rfl) ?_
  refine wt 12 18 8183 rfl z (ov_max rfl rfl) ?_
  refine wt 13 18 16375 rfl z (ov_sub rfl rfl (by omega) (by omega)) ?_
  refine wt 14 18 32759 rfl z (ov_max rfl rfl) ?_
  refine wa1 3 rfl ?_
  refine lk_ sc3 1 rfl rfl rfl (wl_nil ?_)
  refine nw 18 32767 (fun _ hm => ⟨hm.bl 0, hm.bl 2, hm.bl 3, hm.fa 0, hm.ownI 0 rfl, trivial⟩) fun z => ?_
  refine wt 15 18 65535 rfl z (ov_add rfl rfl (by omega) (by omega)) ?_
  refine wt 16 18 131071 rfl z (ov_indexP (j := 5) ar150 rfl rfl (by decide) rfl) ?_
  refine wa1 17 rfl ?_
  refine wl_store 1 sc3 rfl rfl rfl rfl rfl rfl ?_
  refine wl_nil ?_
  refine nw 18 262143 (fun _ hm => ⟨hm.bl 0, hm.bl 2, hm.bl 3, hm.fa 0, hm.ownI 0 rfl, trivial⟩) fun z => ?_
  refine wa_done (by kernel_rfl) ?_
  refine nx_blk_nrm (nx_then (gw_region (ad_ rfl rfl (mv_ rfl (wl_nil ?_)))))
  exact nx_round (i + 1, n0, n1, n2, n3, n4, n5 + (max 0 ((min b en2) - (max a s2)))) ⟨by dsimp only; omega, ⟨p0, l0, by dsimp only; omega⟩, ⟨p1, l1, by dsimp only; omega⟩, ⟨p2, l2, by dsimp only; omega⟩, ⟨p3, l3, by dsimp only; omega⟩, ⟨p4, l4, by dsimp only; omega⟩, ⟨by dsimp only; omega, by dsimp only; omega, by dsimp only; omega⟩⟩ (by dsimp only; omega) ⟨rfl, rfl, rfl, rfl, rfl, rfl, (some_int (by omega)), trivial⟩ (fun _ hm => hm.pick [1, 2, 3] [0] [0] rfl rfl)
 have hi : ¬ (((i : Nat) : Int) < ((sN : Nat) : Int)) := by simpa using hh
 clear hh
 refine gw_exit ?_
 refine nx_then_exit (nx_then_exit ?_)
 refine nx_blk_here ?_
 refine nx_then (sr_ ?_)
 have e0 : spT a b el vk 0 = n0 := by
  rw [hspT, ← p0, List.drop_eq_nil_of_le (by omega)]; exact Int.add_zero _
 have e1 : spT a b el vk 1 = n1 := by
  rw [hspT, ← p1, List.drop_eq_nil_of_le (by omega)]; exact Int.add_zero _
 have e2 : spT a b el vk 2 = n2 := by
  rw [hspT, ← p2, List.drop_eq_nil_of_le (by omega)]; exact Int.add_zero _
 have e3 : spT a b el vk 3 = n3 := by
  rw [hspT, ← p3, List.drop_eq_nil_of_le (by omega)]; exact Int.add_zero _
 have e4 : spT a b el vk 4 = n4 := by
  rw [hspT, ← p4, List.drop_eq_nil_of_le (by omega)]; exact Int.add_zero _
 have e5 : spT a b el vk 5 = n5 := by
  rw [hspT, ← p5, List.drop_eq_nil_of_le (by omega)]; exact Int.add_zero _
 refine wl_ov (ov_indexP (j := 0) ar150 rfl rfl (by decide) rfl) rfl ?_
 refine lk_ sc3 0 rfl rfl rfl ?_
 refine wl_ov (ov_indexP (j := 1) ar150 rfl rfl (by decide) rfl) rfl ?_
 refine lk_ sc3 0 rfl rfl rfl ?_
 refine wl_ov (ov_indexP (j := 2) ar150 rfl rfl (by decide) rfl) rfl ?_
 refine lk_ sc3 0 rfl rfl rfl ?_
 refine wl_ov (ov_indexP (j := 3) ar150 rfl rfl (by decide) rfl) rfl ?_
 refine lk_ sc3 0 rfl rfl rfl ?_
 refine wl_ov (ov_indexP (j := 4) ar150 rfl rfl (by decide) rfl) rfl ?_
 refine lk_ sc3 0 rfl rfl rfl ?_
 refine wl_ov (ov_indexP (j := 5) ar150 rfl rfl (by decide) rfl) rfl ?_
 refine lk_ sc3 0 rfl rfl rfl ?_
 refine wl_ov (ov_build (cs := [.int .i64 n0, .int .i64 n1, .int .i64 n2, .int .i64 n3, .int .i64 n4, .int .i64 n5]) rfl (by kernel_rfl)) rfl ?_
 refine wl_stores (cs' := [.int .i64 n0, .int .i64 n1, .int .i64 n2, .int .i64 n3, .int .i64 n4, .int .i64 n5]) 1 rz42 rfl rfl rfl rfl rfl rfl rfl rfl ?_
 refine nn_ ?_
 refine gw_ret ?_
 refine nx_retc 1 rfl rz42 rfl rfl rfl fun wx hm => ?_
 exact ⟨by rw [e0, e1, e2, e3, e4, e5], hm.g⟩
end Go.Proofs.YtdoooppeiphefaaGreatDoor
namespace Go.Proofs.YtdoooppeiphefaaGreatDoor
open Go.RowKit
structure Fr where
  num : Int
  den : Int
/-- The lowest terms of n / d. -/
def lowF (n d : Nat) : Fr := ⟨((n / Nat.gcd n d : Nat) : Int), ((d / Nat.gcd n d : Nat) : Int)⟩
theorem gcd_step {a b g : Nat} (h : Nat.gcd a b = g) : Nat.gcd b (a % b) = g := by
  rw [Nat.gcd_comm, ← Nat.gcd_rec, Nat.gcd_comm]; exact h
theorem lowest_any (n d : Nat) (w : World) (hn : n ≤ 1000000000000000000) (hd : d ≤ 1000000000000000000) (hd0 : 0 < d) :
  Calls Tryz.prog 71 #[.int .i64 ((n : Nat) : Int), .int .i64 ((d : Nat) : Int)] w (fun e w' => e = .returned (.agg #[.int .i64 (lowF n d).num, .int .i64 (lowF n d).den]) ∧ w.grownBy w' none) := by
 refine gw_enter ⟨25, w, none, []⟩ Tryz.func71 rfl Tryz.ntmps71 rfl (mem0 (X := []) allF_nil allL_nil) ?_
 refine sr_ ?_
 refine wl_alloc zc46 rfl fun g1 => ?_
 refine nn_ (sr_ (mv_ rfl (mv_ rfl ?_)))
 refine wl_ov (ov_neg rfl (by omega) (by omega)) rfl ?_
 refine wl_ov (ov_max rfl rfl) rfl ?_
 refine mv_ rfl (sg_ rfl (sg_ rfl (nn_ (gw_seq (gw_block ?_)))))
 refine gw_loop (γ := Nat × Nat) (fun g => Nat.gcd g.1 g.2 = Nat.gcd n d ∧ g.1 ≤ 1000000000000000000 ∧ g.2 ≤ 1000000000000000000) (fun g => [(0, .int .i64 ((n : Nat) : Int)), (1, .int .i64 ((d : Nat) : Int)), (4, .pointer (some ⟨g1, 0, none⟩)), (5, .int .i64 ((g.1 : Nat) : Int)), (6, .int .i64 ((g.2 : Nat) : Int))]) (fun g => fun _ => True) (fun g => [(g1, 46, [.int .i64 0, .int .i64 0])]) (fun g => []) (fun g => []) (fun g => g.2) (n, d) ⟨rfl, by omega, by omega⟩ ⟨rfl, rfl, rfl, (some_int (by omega)), rfl, trivial⟩ (fun _ hm => hm.pick [0] [] [] rfl rfl) ?_
 rintro ⟨a, b⟩ hinv
 replace hinv : Nat.gcd a b = Nat.gcd n d ∧ a ≤ 1000000000000000000 ∧ b ≤ 1000000000000000000 := hinv
 dsimp only
 refine gw_seq (sr_ (mv_ rfl (wl_ov (ov_neq rfl rfl) rfl (nn_ ?_))))
 refine gw_cond rfl (fun hh => ?_) (fun hh => ?_)
 ·have hb : ¬ (((b : Nat) : Int) = 0) := by simpa using hh
  clear hh
  refine gw_skip (nx_then (gw_block ?_))
  have hb0 : 0 < b := by omega
  have hlt := Nat.mod_lt a hb0
  refine gd (fun wz => Blk wz g1 46 [.int .i64 0, .int .i64 0] ∧ True) mixed (fun _ hm => ⟨hm.bl 0, trivial⟩) fun z => ?_
  refine wt 0 6 1 rfl z (ov_move rfl) ?_
  refine wt 1 6 3 rfl z (ov_move rfl) ?_
  refine wt 2 6 7 rfl z (ov_move rfl) ?_
  refine wt 3 6 15 rfl z (ov_rem rfl rfl (by omega) (by omega) (by omega)) ?_
  refine wt 4 6 31 rfl z (ov_assign rfl) ?_
  refine wt 5 6 63 rfl z (ov_assign rfl) ?_
  refine wa_done (by kernel_rfl) ?_
  refine nx_blk_nrm ?_
  exact nx_round (b, a % b) ⟨gcd_step hinv.1, by dsimp only; omega, by dsimp only; omega⟩ hlt ⟨rfl, rfl, rfl, rfl, (some_int (Int.natCast_emod a b).symm), trivial⟩ (fun _ hm => hm.pick [0] [] [] rfl rfl)
 have hb : ((b : Nat) : Int) = 0 := by simpa using hh
 clear hh
 refine gw_exit ?_
 refine nx_then_exit (nx_then_exit ?_)
 refine nx_blk_here ?_
 refine nx_then (gw_seq ?_)
 have hb0 : b = 0 := by omega
 subst hb0
 have hga : a = Nat.gcd n d := by rw [← hinv.1, Nat.gcd_zero_right]
 have ha0 : 0 < a := by rw [hga]; exact Nat.gcd_pos_of_pos_right n hd0
 refine gd (fun wz => True) mixed (fun _ _ => trivial) fun z => ?_
 refine wt 0 8 1 rfl z (ov_move rfl) ?_
 refine wt 1 8 3 rfl z (ov_move rfl) ?_
 refine wt 2 8 7 rfl z (ov_quo rfl rfl (by omega) (by omega) (by omega)) ?_
 refine wt 3 8 15 rfl z (ov_move rfl) ?_
 refine wt 4 8 31 rfl z (ov_move rfl) ?_
 refine wt 5 8 63 rfl z (ov_quo rfl rfl (by omega) (by omega) (by omega)) ?_
 refine wt 6 8 127 rfl z (ov_build (cs := [.int .i64 (((n : Nat) : Int) / ((a : Nat) : Int)), .int .i64 (((d : Nat) : Int) / ((a : Nat) : Int))]) rfl (by kernel_rfl)) ?_
 refine wa1 7 rfl ?_
 refine wl_stores (cs' := [.int .i64 (((n : Nat) : Int) / ((a : Nat) : Int)), .int .i64 (((d : Nat) : Int) / ((a : Nat) : Int))]) 0 rz46 rfl rfl rfl rfl rfl rfl rfl rfl ?_
 refine wl_nil ?_
 refine nw 8 255 (fun _ _ => trivial) fun z => ?_
 refine wa_done (by kernel_rfl) ?_
 refine nx_then ?_
 refine gw_ret ?_
 refine nx_retc 0 rfl rz46 rfl rfl rfl fun wx hm => ?_
 refine ⟨?_, hm.g⟩
 unfold lowF
 rw [← hga, Int.natCast_ediv, Int.natCast_ediv]
theorem rlowest_any (n d : Nat) (w : World) (hn : n ≤ 1000000000000000000) (hd : d ≤ 1000000000000000000) (hd0 : 0 < d) :
  Calls Tryz.prog 76 #[.int .i64 ((n : Nat) : Int), .int .i64 ((d : Nat) : Int)] w (fun e w' => e = .returned (.agg #[.int .i64 (lowF n d).num, .int .i64 (lowF n d).den]) ∧ w.grownBy w' none) := by
 refine gw_enter ⟨26, w, none, []⟩ Tryz.func76 rfl Tryz.ntmps76 rfl (mem0 (X := []) allF_nil allL_nil) ?_
 refine sr_ ?_
 refine wl_alloc zc46 rfl fun g1 => ?_
 refine nn_ (sr_ (mv_ rfl (mv_ rfl (sg_ rfl (sg_ rfl (nn_ (gw_seq (gw_block ?_))))))))
 refine gw_loop (γ := Nat × Nat) (fun g => Nat.gcd g.1 g.2 = Nat.gcd n d ∧ g.1 ≤ 1000000000000000000 ∧ g.2 ≤ 1000000000000000000) (fun g => [(0, .int .i64 ((n : Nat) : Int)), (1, .int .i64 ((d : Nat) : Int)), (4, .pointer (some ⟨g1, 0, none⟩)), (5, .int .i64 ((g.1 : Nat) : Int)), (6, .int .i64 ((g.2 : Nat) : Int))]) (fun g => fun _ => True) (fun g => [(g1, 46, [.int .i64 0, .int .i64 0])]) (fun g => []) (fun g => []) (fun g => g.2) (n, d) ⟨rfl, by omega, by omega⟩ ⟨rfl, rfl, rfl, (some_int (by omega)), rfl, trivial⟩ (fun _ hm => hm.pick [0] [] [] rfl rfl) ?_
 rintro ⟨a, b⟩ hinv
 replace hinv : Nat.gcd a b = Nat.gcd n d ∧ a ≤ 1000000000000000000 ∧ b ≤ 1000000000000000000 := hinv
 dsimp only
 refine gw_seq (sr_ (mv_ rfl (wl_ov (ov_neq rfl rfl) rfl (nn_ ?_))))
 refine gw_cond rfl (fun hh => ?_) (fun hh => ?_)
 ·have hb : ¬ (((b : Nat) : Int) = 0) := by simpa using hh
  clear hh
  refine gw_skip (nx_then (gw_block ?_))
  have hb0 : 0 < b := by omega
  have hlt := Nat.mod_lt a hb0
  refine gd (fun wz => Blk wz g1 46 [.int .i64 0, .int .i64 0] ∧ True) mixed (fun _ hm => ⟨hm.bl 0, trivial⟩) fun z => ?_
  refine wt 0 6 1 rfl z (ov_move rfl) ?_
  refine wt 1 6 3 rfl z (ov_move rfl) ?_
  refine wt 2 6 7 rfl z (ov_move rfl) ?_
  refine wt 3 6 15 rfl z (ov_rem rfl rfl (by omega) (by omega) (by omega)) ?_
  refine wt 4 6 31 rfl z (ov_assign rfl) ?_
  refine wt 5 6 63 rfl z (ov_assign rfl) ?_
  refine wa_done (by kernel_rfl) ?_
  refine nx_blk_nrm ?_
  exact nx_round (b, a % b) ⟨gcd_step hinv.1, by dsimp only; omega, by dsimp only; omega⟩ hlt ⟨rfl, rfl, rfl, rfl, (some_int (Int.natCast_emod a b).symm), trivial⟩ (fun _ hm => hm.pick [0] [] [] rfl rfl)
 have hb : ((b : Nat) : Int) = 0 := by simpa using hh
 clear hh
 refine gw_exit ?_
 refine nx_then_exit (nx_then_exit ?_)
 refine nx_blk_here ?_
 refine nx_then (gw_seq (sr_ ?_))
 have hb0 : b = 0 := by omega
 subst hb0
 have hga : a = Nat.gcd n d := by rw [← hinv.1, Nat.gcd_zero_right]
 have ha0 : 0 < a := by rw [hga]; exact Nat.gcd_pos_of_pos_right n hd0
 refine mv_ rfl (wl_ov (ov_lss rfl rfl) rfl ?_)
 refine wl_set 16 (v' := .bool false) rfl (congrArg Value.bool (decide_eq_false (by omega))) ?_
 refine nn_ (cf_ rfl (gw_skip (nx_then (gw_seq ?_))))
 refine gd (fun wz => True) mixed (fun _ _ => trivial) fun z => ?_
 refine wt 0 8 1 rfl z (ov_move rfl) ?_
 refine wt 1 8 3 rfl z (ov_move rfl) ?_
 refine wt 2 8 7 rfl z (ov_quo rfl rfl (by omega) (by omega) (by omega)) ?_
 refine wt 3 8 15 rfl z (ov_move rfl) ?_
 refine wt 4 8 31 rfl z (ov_move rfl) ?_
 refine wt 5 8 63 rfl z (ov_quo rfl rfl (by omega) (by omega) (by omega)) ?_
 refine wt 6 8 127 rfl z (ov_build (cs := [.int .i64 (((n : Nat) : Int) / ((a : Nat) : Int)), .int .i64 (((d : Nat) : Int) / ((a : Nat) : Int))]) rfl (by kernel_rfl)) ?_
 refine wa1 7 rfl ?_
 refine wl_stores (cs' := [.int .i64 (((n : Nat) : Int) / ((a : Nat) : Int)), .int .i64 (((d : Nat) : Int) / ((a : Nat) : Int))]) 0 rz46 rfl rfl rfl rfl rfl rfl rfl rfl ?_
 refine wl_nil ?_
 refine nw 8 255 (fun _ _ => trivial) fun z => ?_
 refine wa_done (by kernel_rfl) ?_
 refine nx_then ?_
 refine gw_ret ?_
 refine nx_retc 0 rfl rz46 rfl rfl rfl fun wx hm => ?_
 refine ⟨?_, hm.g⟩
 unfold lowF
 rw [← hga, Int.natCast_ediv, Int.natCast_ediv]
end Go.Proofs.YtdoooppeiphefaaGreatDoor
namespace Go.Proofs.YtdoooppeiphefaaGreatDoor
open Go.RowKit
theorem spT_bd {a b : Int} {el : List Ev} {v : ByteArray} {j : Int} (h : a ≤ b) (hb : b - a ≤ 6000000) (hl : el.length ≤ 1000) : 0 ≤ spT a b el v j ∧ spT a b el v j ≤ 6006000000 := by
  have h1 := stT_bd (j := j) h hb (stages el v)
  have h2 : (stages el v).length ≤ el.length + 1 := Nat.succ_le_succ stgs_len
  unfold spT
  omega
def useH (a b : Int) (el : List Ev) (l : List Vh) : Int := (l.map fun x => spT a b el x.key 2).sum
def useA (a b : Int) (el : List Ev) (l : List Vh) : Int := (l.map fun x => spT a b el x.key 1 + spT a b el x.key 2 + spT a b el x.key 3 + spT a b el x.key 4).sum
theorem useH_at {a b : Int} {el : List Ev} {l : List Vh} {i : Nat} {x : Vh} (h : l[i]? = some x) : useH a b el (l.take (i + 1)) = useH a b el (l.take i) + spT a b el x.key 2 := by
  unfold useH
  rw [List.take_add_one, h, Option.toList_some, List.map_append, List.sum_append]; simp
theorem useA_at {a b : Int} {el : List Ev} {l : List Vh} {i : Nat} {x : Vh} (h : l[i]? = some x) : useA a b el (l.take (i + 1)) = useA a b el (l.take i) + (spT a b el x.key 1 + spT a b el x.key 2 + spT a b el x.key 3 + spT a b el x.key 4) := by
  unfold useA
  rw [List.take_add_one, h, Option.toList_some, List.map_append, List.sum_append]; simp
def useN (a b : Int) (el : List Ev) (l : List Vh) : Fr := if useA a b el l = 0 then ⟨0, 0⟩ else lowF (useH a b el l).toNat (useA a b el l).toNat
theorem useOf_any (vl : List Vh) (sA cA vA pA : Option Addr) (sn sc cn cc vn vc pn pc : Nat) (el : List Ev) (eA : Option Addr) (en ec : Nat) (a b : Int) (w : World) (hv : SlT vhEnc 2 69 w vA vn vl) (hl : SlT evEnc 5 105 w eA en el) (heok : ∀ x ∈ el, EvOk x) (hen : en ≤ 1000) (hvn : vn ≤ 1000) (ha0 : 0 ≤ a) (hab : a ≤ b) (hb0 : b ≤ 5761440) :
  Calls Tryz.prog 20 #[.agg #[.slice sA sn sc, .slice cA cn cc, .slice vA vn vc, .slice pA pn pc], .slice eA en ec, .agg #[.int .i64 a, .int .i64 b]] w (fun e w' => e = .returned (.tuple #[.agg #[.int .i64 (useN a b el vl).num, .int .i64 (useN a b el vl).den], .bool (decide (useA a b el vl ≠ 0))]) ∧ w.grownBy w' none) := by
 refine gw_enter ⟨49, w, none, []⟩ Tryz.func20 rfl Tryz.ntmps20 rfl (mem0 (X := [SlOld vhEnc 2 69 w.heap.size none vA vn vl, SlOld evEnc 5 105 w.heap.size none eA en el]) (allF_cons hv.old (allF_cons hl.old allF_nil)) (allL_cons SlOld.lasts (allL_cons SlOld.lasts allL_nil))) ?_
 refine sr_ ?_
 have hlen := hv.len
 have hell := hl.len
 refine wl_box rfl rfl rfl fun g1 => ?_
 refine wl_box rfl rfl rfl fun g2 => ?_
 refine wl_alloc zc46 rfl fun g3 => ?_
 refine sg_ rfl (nn_ (sr_ (sg_ rfl (sg_ rfl (nn_ (gw_seq (sr_ (fd_ fo31_2 rfl rfl (lk_ sc28 2 rfl rfl rfl ?_)))))))))
 refine wl_ov (ov_len es28 rfl) rfl (mv_ rfl (nn_ (gw_block ?_)))
 refine gw_loop (γ := Nat × Int × Int) (fun g => g.1 ≤ vn ∧ g.2.1 = useH a b el (vl.take g.1) ∧ g.2.2 = useA a b el (vl.take g.1) ∧ (0 ≤ g.2.1 ∧ g.2.1 ≤ ((g.1 : Nat) : Int) * 6006000000) ∧ 0 ≤ g.2.2 ∧ g.2.2 ≤ ((g.1 : Nat) : Int) * 24024000000) (fun g => [(1, .slice eA en ec), (5, .pointer (some ⟨g2, 0, none⟩)), (6, .pointer (some ⟨g3, 0, none⟩)), (7, .bool false), (8, .int .i64 g.2.1), (9, .int .i64 g.2.2), (14, .slice vA vn vc), (15, .int .i64 ((vn : Nat) : Int)), (16, .int .i64 ((g.1 : Nat) : Int))]) (fun g => fun _ => True) (fun g => [(g3, 46, [.int .i64 0, .int .i64 0]), (g2, 39, [.int .i64 a, .int .i64 b]), (g1, 31, [.slice sA sn sc, .slice cA cn cc, .slice vA vn vc, .slice pA pn pc])]) (fun g => []) (fun g => [SlOld vhEnc 2 69 w.heap.size none vA vn vl, SlOld evEnc 5 105 w.heap.size none eA en el]) (fun g => vn - g.1) (0, 0, 0) ⟨Nat.zero_le _, rfl, rfl, ⟨Int.le_refl _, by decide⟩, Int.le_refl _, by decide⟩ ⟨rfl, rfl, rfl, rfl, rfl, rfl, rfl, rfl, rfl, trivial⟩ (fun _ hm => hm.pick [0, 1, 2] [] [0, 1] rfl rfl) ?_
 rintro ⟨i, h, q⟩ hinv
 replace hinv : i ≤ vn ∧ h = useH a b el (vl.take i) ∧ q = useA a b el (vl.take i) ∧ (0 ≤ h ∧ h ≤ ((i : Nat) : Int) * 6006000000) ∧ 0 ≤ q ∧ q ≤ ((i : Nat) : Int) * 24024000000 := hinv
 dsimp only
 refine sr_ ?_
 obtain ⟨hi0, hh, hq, ⟨hh0, hh1⟩, hq0, hq1⟩ := hinv
 refine wl_ov (ov_lss rfl rfl) rfl (nn_ (gw_seq ?_))
 refine gw_cond rfl (fun hh => ?_) (fun hh => ?_)
 ·have hi : ((i : Nat) : Int) < ((vn : Nat) : Int) := by simpa using hh
  clear hh
  refine gw_skip (nx_then (gw_seq (gw_block (sr_ ?_))))
  obtain ⟨b0, off, hA, _, _⟩ := hv.get (by omega)
  subst hA
  obtain ⟨x, hx⟩ : ∃ x, vl[i]? = some x := ⟨_, List.getElem?_eq_getElem (by omega)⟩
  obtain ⟨vk, vc2⟩ := x
  have hat := useH_at (a := a) (b := b) (el := el) hx
  have hatA := useA_at (a := a) (b := b) (el := el) hx
  dsimp only at hat hatA
  rw [← hh] at hat
  rw [← hq] at hatA
  have k0 := spT_bd (v := vk) (j := 0) (el := el) hab (by omega) (by omega)
  have k1 := spT_bd (v := vk) (j := 1) (el := el) hab (by omega) (by omega)
  have k2 := spT_bd (v := vk) (j := 2) (el := el) hab (by omega) (by omega)
  have k3 := spT_bd (v := vk) (j := 3) (el := el) hab (by omega) (by omega)
  have k4 := spT_bd (v := vk) (j := 4) (el := el) hab (by omega) (by omega)
  have k5 := spT_bd (v := vk) (j := 5) (el := el) hab (by omega) (by omega)
  refine wl_ov (ov_index (j := i) es28 rfl rfl (by omega)) rfl ?_
  refine wl_ov (ov_elem (vs := [.string vk, .string vc2]) rz69 rfl (fun _ hm => (hm.fact 0 rfl).1) hx rfl rfl) rfl ?_
  refine wl_alloc zc69 rfl fun g4 => ?_
  refine wl_stores (cs' := [.string vk, .string vc2]) 0 rz69 rfl rfl rfl rfl rfl rfl rfl rfl ?_
  refine nn_ (sr_ (mv_ rfl (fd_ fo69_0 rfl rfl (lk_ sc9 0 rfl rfl rfl ?_))))
  refine wl_ov (ov_loads rz39 rfl (fun _ hm => hm.blkI 2 rfl) rfl rfl) rfl ?_
  refine wl_callv rfl cb21 rfl rfl (fun wx hm => (spentOf_any el eA en ec vk a b wx (hm.fact 1 rfl).1 heok hen ha0 hab hb0)) ?_
  refine wl_alloc zc42 rfl fun g5 => ?_
  refine wl_stores (cs' := [.int .i64 (spT a b el vk 0), .int .i64 (spT a b el vk 1), .int .i64 (spT a b el vk 2), .int .i64 (spT a b el vk 3), .int .i64 (spT a b el vk 4), .int .i64 (spT a b el vk 5)]) 0 rz42 rfl rfl rfl rfl rfl rfl rfl rfl ?_
  refine nn_ (sr_ (mv_ rfl (fd_ fo42_2 rfl rfl (lk_ sc3 0 rfl rfl rfl (ad_ rfl rfl (sg_ rfl (nn_ (gw_region (mv_ rfl (fd_ fo42_1 rfl rfl ?_))))))))))
  refine lk_ sc3 0 rfl rfl rfl (fd_ fo42_2 rfl rfl (lk_ sc3 0 rfl rfl rfl (ad_ rfl rfl (fd_ fo42_3 rfl rfl (lk_ sc3 0 rfl rfl rfl (ad_ rfl rfl (fd_ fo42_4 rfl rfl (lk_ sc3 0 rfl rfl rfl (ad_ rfl rfl (ad_ rfl rfl (sg_ rfl (wl_nil (nx_blk_nrm ?_)))))))))))))
  refine nx_then (gw_region (ad_ rfl rfl (mv_ rfl (wl_nil ?_))))
  exact nx_round (i + 1, h + (spT a b el vk 2), q + ((((spT a b el vk 1) + (spT a b el vk 2)) + (spT a b el vk 3)) + (spT a b el vk 4))) ⟨by dsimp only; omega, hat.symm, hatA.symm, ⟨by dsimp only; omega, by dsimp only; omega⟩, by dsimp only; omega, by dsimp only; omega⟩ (by dsimp only; omega) ⟨rfl, rfl, rfl, rfl, rfl, rfl, rfl, rfl, (some_int (by omega)), trivial⟩ (fun _ hm => hm.pick [2, 3, 4] [] [0, 1] rfl rfl)
 have hi : ¬ (((i : Nat) : Int) < ((vn : Nat) : Int)) := by simpa using hh
 clear hh
 refine gw_exit ?_
 refine nx_then_exit (nx_then_exit ?_)
 refine nx_blk_here ?_
 refine nx_then (gw_seq (sr_ ?_))
 have hall : vl.take i = vl := List.take_of_length_le (by omega)
 rw [hall] at hh hq
 obtain ⟨n, rfl⟩ := Int.eq_ofNat_of_zero_le hh0
 obtain ⟨t, rfl⟩ := Int.eq_ofNat_of_zero_le hq0
 refine mv_ rfl (wl_ov (ov_eql rfl rfl) rfl (nn_ ?_))
 refine gw_cond rfl (fun hh => ?_) (fun hh => ?_)
 ·have h0 : ((t : Nat) : Int) = 0 := by simpa using hh
  clear hh
  refine sr_ ?_
  have hU : useN a b el vl = ⟨0, 0⟩ := by unfold useN; rw [if_pos (by omega)]
  refine wl_ov (ov_build (cs := [.int .i64 0, .int .i64 0]) rfl (by kernel_rfl)) rfl ?_
  refine wl_stores (cs' := [.int .i64 0, .int .i64 0]) 0 rz46 rfl rfl rfl rfl rfl rfl rfl rfl ?_
  refine sg_ rfl (nn_ ?_)
  refine gw_ret ?_
  refine nx_then_ret ?_
  refine nx_retct 0 rfl rz46 rfl rfl rfl rfl fun wx hm => ?_
  exact ⟨by rw [hU, ← hq, decide_eq_false (show ¬ ((t : Nat) : Int) ≠ 0 by omega)], hm.g⟩
 have h0 : ¬ (((t : Nat) : Int) = 0) := by simpa using hh
 clear hh
 refine gw_skip (nx_then (sr_ ?_))
 have hU : useN a b el vl = lowF n t := by unfold useN; rw [if_neg (by omega), ← hh, ← hq]; rfl
 refine mv_ rfl (mv_ rfl ?_)
 refine wl_callv rfl cb76 rfl rfl (fun wx hm => (rlowest_any n t wx (by omega) (by omega) (by omega))) ?_
 refine wl_stores (cs' := [.int .i64 ((lowF n t).num), .int .i64 ((lowF n t).den)]) 0 rz46 rfl rfl rfl rfl rfl rfl rfl rfl ?_
 refine sg_ rfl (nn_ ?_)
 refine gw_ret ?_
 refine nx_retct 0 rfl rz46 rfl rfl rfl rfl fun wx hm => ?_
 exact ⟨by rw [hU, ← hq, decide_eq_true (show ((t : Nat) : Int) ≠ 0 by omega)], hm.g⟩
end Go.Proofs.YtdoooppeiphefaaGreatDoor
namespace Go.Proofs.YtdoooppeiphefaaGreatDoor
open Go.RowKit Go.MapKept
def keyOf (e : MapEntry) : ByteArray := match e.key with
  | .string s => s
  | _ => ⟨#[]⟩
def seenS (f : ByteArray → Int) : List MapEntry → Array Nat → Int
  | [], _ => 0
  | x :: l, seen => (if seen.contains x.born then f (keyOf x) else 0) + seenS f l seen
section
variable {f : ByteArray → Int} {seen : Array Nat}
theorem seenS_none : ∀ (es : List MapEntry), seenS f es #[] = 0
  | [] => rfl
  | x :: l => by
    unfold seenS
    rw [seenS_none l]
    simp
theorem seenS_other {b : Nat} : ∀ {es : List MapEntry}, b ∉ es.map (·.born) → seenS f es (seen.push b) = seenS f es seen
  | [], _ => rfl
  | x :: l, h => by
    have hx : (x.born == b) = false := by
      rw [beq_eq_false_iff_ne]
      intro e
      exact h (by rw [← e]; simp)
    have hl : b ∉ l.map (·.born) := fun e => h (by rw [List.map_cons]; exact List.mem_cons_of_mem _ e)
    simp only [seenS, contains_push, hx, Bool.or_false, seenS_other hl]
theorem seenS_push {e : MapEntry} (hs : seen.contains e.born = false) : ∀ {es : List MapEntry}, (es.map (·.born)).Nodup → e ∈ es → seenS f es (seen.push e.born) = seenS f es seen + f (keyOf e)
  | [], _, h => by cases h
  | x :: l, hn, h => by
    rw [List.map_cons, List.nodup_cons] at hn
    rcases List.mem_cons.1 h with rfl | h
    · simp only [seenS, contains_push, hs, beq_self_eq_true, Bool.or_true, if_true, Bool.false_eq_true, if_false, seenS_other hn.1]
      omega
    · have hx : (x.born == e.born) = false := by
        rw [beq_eq_false_iff_ne]
        intro e2
        exact hn.1 (by rw [e2]; exact List.mem_map.2 ⟨e, h, rfl⟩)
      simp only [seenS, contains_push, hx, Bool.or_false, seenS_push hs hn.2 h]
      omega
theorem seenS_full : ∀ {es : List MapEntry}, (∀ x ∈ es, seen.contains x.born = true) → seenS f es seen = (es.map fun e => f (keyOf e)).sum
  | [], _ => rfl
  | x :: l, h => by
    simp only [seenS, h x (List.mem_cons_self ..), if_true, List.map_cons, List.sum_cons, seenS_full fun y hy => h y (List.mem_cons_of_mem _ hy)]
theorem perm_sum {l1 l2 : List Int} (h : l1.Perm l2) : l1.sum = l2.sum := by
  induction h with
  | nil => rfl
  | cons x _ ih => rw [List.sum_cons, List.sum_cons, ih]
  | swap x y l => rw [List.sum_cons, List.sum_cons, List.sum_cons, List.sum_cons]; omega
  | trans _ _ h1 h2 => rw [h1, h2]
end
theorem key_str {e : MapEntry} (h : IsKey .string e.key) : e.key = .string (keyOf e) := by
  unfold keyOf
  cases hk : e.key <;> rw [hk] at h <;> first | rfl | cases h
theorem keys_perm {p : PMap} {es : Array MapEntry} {ck : Nat} {vl : List Vh} (he : Entries encP p es ck) (hd : ∀ (k : Nat) (x : Vh), vl[k]? = some x → ∃ g, p x.key = some (some g)) (hin : ∀ k, p k ≠ none → ∃ x ∈ vl, x.key = k) (hr : Rise vl) : (es.toList.map keyOf).Perm (vl.map Vh.key) := by
  obtain ⟨⟨_, _, hk⟩, hs, hm⟩ := he
  have e1 : es.toList.map (·.key) = (es.toList.map keyOf).map Value.string := by
    rw [List.map_map]
    exact List.map_congr_left fun x hx => key_str (hs x hx)
  have h1 : (es.toList.map keyOf).Nodup := by
    rw [e1] at hk
    have hk2 : ((es.toList.map keyOf).map Value.string).Pairwise (fun a b => a ≠ b) := hk
    exact (List.pairwise_map.1 hk2).imp fun h e => h (congrArg Value.string e)
  have h2 : (vl.map Vh.key).Nodup := by
    unfold List.Nodup
    rw [List.pairwise_map]
    refine List.Pairwise.imp ?_ (show vl.Pairwise (fun q r => Go.Op.bytesLess q.key.toList r.key.toList = true) from hr)
    intro a b h e
    exact bl_ne h (by rw [e])
  refine (List.perm_ext_iff_of_nodup h1 h2).2 fun k => ?_
  constructor
  · intro h
    obtain ⟨e, hee, rfl⟩ := List.mem_map.1 h
    obtain ⟨x, hx, _⟩ := (hm (keyOf e) e.val).1 ⟨e, hee, key_str (hs e hee), rfl⟩
    obtain ⟨v, hv, hvk⟩ := hin (keyOf e) (by rw [hx]; simp)
    exact List.mem_map.2 ⟨v, hv, hvk⟩
  · intro h
    obtain ⟨v, hv, rfl⟩ := List.mem_map.1 h
    obtain ⟨i, hi⟩ := List.getElem?_of_mem hv
    obtain ⟨g, hg⟩ := hd i v hi
    obtain ⟨e, hee, hek, _⟩ := (hm v.key (encP (some g))).2 ⟨some g, hg, rfl⟩
    refine List.mem_map.2 ⟨e, hee, ?_⟩
    unfold keyOf
    rw [hek]
theorem sum_keys {f : ByteArray → Int} {p : PMap} {es : Array MapEntry} {ck : Nat} {vl : List Vh} (he : Entries encP p es ck) (hd : ∀ (k : Nat) (x : Vh), vl[k]? = some x → ∃ g, p x.key = some (some g)) (hin : ∀ k, p k ≠ none → ∃ x ∈ vl, x.key = k) (hr : Rise vl) : (es.toList.map fun e => f (keyOf e)).sum = (vl.map fun x => f x.key).sum := by
  have h := perm_sum ((keys_perm he hd hin hr).map f)
  rw [List.map_map, List.map_map] at h
  exact h
theorem seenS_bd {f : ByteArray → Int} {seen : Array Nat} {B : Int} (hB : 0 ≤ B) : ∀ {es : List MapEntry}, (∀ x ∈ es, 0 ≤ f (keyOf x) ∧ f (keyOf x) ≤ B) → 0 ≤ seenS f es seen ∧ seenS f es seen ≤ B * (es.length : Int)
  | [], _ => ⟨Int.le_refl _, by simp [seenS]⟩
  | x :: l, h => by
    have h1 := seenS_bd (seen := seen) hB (es := l) fun y hy => h y (List.mem_cons_of_mem _ hy)
    have h2 := h x (List.mem_cons_self ..)
    have h3 : B * ((x :: l).length : Int) = B * (l.length : Int) + B := by
      rw [List.length_cons, Int.natCast_add, Int.mul_add]; simp
    rw [h3]
    unfold seenS
    split <;> constructor <;> omega
/-- An entry is a vehicle's, and leads to its block. -/
theorem entry_at {p : PMap} {es : Array MapEntry} {ck : Nat} {vl : List Vh} {e : MapEntry} (he : Entries encP p es ck) (hd : ∀ (k : Nat) (x : Vh), vl[k]? = some x → ∃ g, p x.key = some (some g)) (hin : ∀ k, p k ≠ none → ∃ x ∈ vl, x.key = k) (hee : e ∈ es.toList) : ∃ (g i : Nat) (x : Vh), p (keyOf e) = some (some g) ∧ e.val = .pointer (some ⟨g, 0, none⟩) ∧ vl[i]? = some x ∧ x.key = keyOf e := by
  obtain ⟨_, hs, hm⟩ := he
  obtain ⟨x, hx, hv⟩ := (hm (keyOf e) e.val).1 ⟨e, hee, key_str (hs e hee), rfl⟩
  obtain ⟨v, hvl, hvk⟩ := hin (keyOf e) (by rw [hx]; simp)
  obtain ⟨i, hi⟩ := List.getElem?_of_mem hvl
  obtain ⟨g, hg⟩ := hd i v hi
  rw [hvk, hx] at hg
  injection hg with hg
  subst hg
  exact ⟨g, i, v, hx, hv, hi, hvk⟩
theorem entries_len {p : PMap} {es : Array MapEntry} {ck : Nat} {vl : List Vh} (he : Entries encP p es ck) (hd : ∀ (k : Nat) (x : Vh), vl[k]? = some x → ∃ g, p x.key = some (some g)) (hin : ∀ k, p k ≠ none → ∃ x ∈ vl, x.key = k) (hr : Rise vl) : es.toList.length = vl.length := by
  have h := (keys_perm he hd hin hr).length_eq
  rw [List.length_map, List.length_map] at h
  exact h
end Go.Proofs.YtdoooppeiphefaaGreatDoor
namespace Go.Proofs.YtdoooppeiphefaaGreatDoor
open Go.RowKit Go.MapKept
open Go.ChangeMaps (setBlock)
def MapE (bm : Nat) (es : Array MapEntry) (ck : Nat) (w : World) : Prop := w.heap[bm]? = some (.map es ck)
def ItF (N r bm ck : Nat) (seen : Array Nat) (w : World) : Prop := N ≤ r ∧ w.heap[r]? = some (.mapIter (some bm) ck seen ck)
theorem MapE.lasts2 {N bm ck : Nat} {row : Option Nat} {Tt : List TypeId} {es : Array MapEntry} : Lasts2 N row Tt (MapE bm es ck) :=
  ⟨fun w w' h hx => (h.block bm (Array.getElem?_eq_some_iff.1 hx).1 (by simp)).trans hx,
   fun w w' r T c h1 _ _ h3 hx => (h3.block bm (Array.getElem?_eq_some_iff.1 hx).1 (fun e => by
     have e2 : bm = r := by injection e
     subst e2
     unfold MapE at hx
     rw [h1] at hx; cases hx)).trans hx⟩
theorem ItF.lasts2 {N M r bm ck : Nat} {row : Option Nat} {Tt : List TypeId} {seen : Array Nat} : Lasts2 N row Tt (ItF M r bm ck seen) :=
  ⟨fun w w' h ⟨h0, hx⟩ => ⟨h0, (h.block r (Array.getElem?_eq_some_iff.1 hx).1 (by simp)).trans hx⟩,
   fun w w' r2 T c h1 _ _ h3 ⟨h0, hx⟩ => ⟨h0, (h3.block r (Array.getElem?_eq_some_iff.1 hx).1 (fun e => by
     have e2 : r = r2 := by injection e
     subst e2
     rw [h1] at hx; cases hx)).trans hx⟩⟩
section
variable {P : Program} {c : Cx} {ops : Array Oper} {Q : Exit → Act → World → Prop} {rest : List Oper} {S : List (Nat × Value)} {K : World → Prop} {L : List (Nat × TypeId × List Value)} {O : List Own} {X X' : List (World → Prop)} {Z : World → Prop} {nn : Nat} {w : World}
variable {d : Nat} {ty : TypeId} {pos : String} {aft : Array Edge}
theorem Mem.itered {g m s k : Nat} {seen seen' : Array Nat} (h : Mem c K L O X w) (hg : c.w0.heap.size ≤ g) (hb : w.heap[g]? = some (.mapIter (some m) s seen k)) (hgr : w.grownBy (setBlock w g (.mapIter (some m) s seen' k)) (some g)) (hX : ∀ A ∈ X', A (setBlock w g (.mapIter (some m) s seen' k)) ∧ Lasts2 c.w0.heap.size c.row c.Tt A) : Mem c K L O X' (setBlock w g (.mapIter (some m) s seen' k)) := by
  have hne : ∀ (k : Nat) (cs : Array Value) (T : TypeId) (fz : Nat × Nat), w.heap[k]? = some (.cells cs T fz) → k ≠ g := fun k cs T fz hk e => by
    subst e
    rw [hb] at hk; cases hk
  refine ⟨grow_own h.g hgr (fun k e => by cases e; exact hg), h.kk.st _ _ _ hg hgr h.k, fun x hx => ⟨(h.b x hx).1, (h.b x hx).2.grown hgr (fun e => hne _ _ _ _ (h.b x hx).2 (Option.some.inj e))⟩, h.nd, fun s hs => ?_, h.od, h.oo, fun A hA => (hX A hA).1, h.kk, fun A hA => (hX A hA).2, h.rs⟩
  refine (h.o s hs).kept hgr ?_
  cases hv : s.v.ownBlock with
  | none => exact .inl rfl
  | some k =>
    refine .inr (fun e => ?_)
    have e2 : k = g := by injection e
    rcases (h.o s hs).2 with ⟨hn, _⟩ | ⟨g', cap, cur, hn, _, hh, _⟩
    · rw [hn] at hv; cases hv
    · rw [hn] at hv
      have e3 : g' = k := by injection hv
      exact hne _ _ _ _ hh (e3.trans e2)
theorem wl_range {t k e T : TypeId} {x : Operand} {m M ck : Nat} {p : PMap} {G : ByteArray → Int → Int} {es : Array MapEntry} (i i2 : Nat) (hi : X[i]? = some (MapE m es ck)) (hi2 : X[i2]? = some (Fam T M p G)) (ht : mapTy P t = some (k, e)) (hx : rd S x = some (.map (some m))) (hd : Nat.ble (d + 1) c.n = true)
    (h : ∀ r, m ≠ r → (∀ k, p k ≠ some (some r)) → WL P c ops Q rest ((d, .pointer (some ⟨r, 0, none⟩)) :: S) K L O (ItF c.w0.heap.size r m ck #[] :: X)) : WL P c ops Q (⟨some d, .range t x, ty, pos, aft, none⟩ :: rest) S K L O X := by
  intro a w ha hm
  refine wpList_plain rfl fun K' hK => ?_
  have hb : w.heap[m]? = some (.map es ck) := hm.fact i hi
  unfold Oper.wp
  have : (execOp a.eval ⟨some d, .range t x, ty, pos, aft, none⟩).run P w = .ok (.value (.pointer (some ⟨w.heap.size, 0, none⟩))) (w.alloc (.mapIter (some m) ck #[] ck)) := by
    simp [execOp, ha.eval hx, run_range_map w t k e m es ck (mapTy_u ht) hb, Result.andThen]
  rw [this]
  have hlt : m < w.heap.size := (Array.getElem?_eq_some_iff.1 hb).1
  have h3 : Fam T M p G w := hm.fact i2 hi2
  exact hK _ _ (h _ (by omega) (fun k e => by have := (h3 k _ e).2.lt; omega) _ _ (ha.put hd _) ((hm.grow (grow_alloc (World.grownBy.refl w none) _)).also ItF.lasts2 ⟨hm.g.size, heap_alloc_new w _⟩))
theorem set_same {w : World} {b : Nat} {o o' : Obj} (hb : w.heap[b]? = some o) : (setBlock w b o').heap[b]? = some o' := by
  have h := (Array.getElem?_eq_some_iff.1 hb).1
  simp [setBlock, h]
theorem set_other {w : World} {b i : Nat} {o' : Obj} (h : i ≠ b) : (setBlock w b o').heap[i]? = w.heap[i]? := by
  simp [setBlock, Array.getElem?_setIfInBounds_ne (Ne.symm h)]
theorem MapE.far {N m r ck : Nat} {es : Array MapEntry} (hne : m ≠ r) : ∀ w w' : World, N ≤ r → w.grownBy w' (some r) → MapE m es ck w → MapE m es ck w' := fun _ _ _ hg hx => (hg.block m (Array.getElem?_eq_some_iff.1 hx).1 (fun e => hne (by injection e))).trans hx
theorem wl_next {x : Operand} {r m ck : Nat} {es : Array MapEntry} {seen : Array Nat} (i j : Nat) (hi : X[i]? = some (ItF c.w0.heap.size r m ck seen)) (hj : X[j]? = some (MapE m es ck)) (hst : Stamped es ck) (hx : rd S x = some (.pointer (some ⟨r, 0, none⟩))) (hd : Nat.ble (d + 1) c.n = true)
    (hX : ∀ A ∈ X', (∀ w w', c.w0.heap.size ≤ r → w.grownBy w' (some r) → A w → A w') ∧ A ∈ X)
    (h0 : (leftOf es seen).size = 0 → WL P c ops Q rest ((d, .tuple #[.bool false]) :: S) K L O X)
    (h1 : ∀ e ∈ (leftOf es seen).toList, WL P c ops Q rest ((d, .tuple #[.bool true, e.key, e.val]) :: S) K L O (ItF c.w0.heap.size r m ck (seen.push e.born) :: X')) : WL P c ops Q (⟨some d, .next x false, ty, pos, aft, none⟩ :: rest) S K L O X := by
  intro a w ha hm
  refine wpList_plain rfl fun K' hK => ?_
  obtain ⟨hN, hr⟩ : ItF c.w0.heap.size r m ck seen w := hm.fact i hi
  have hb : w.heap[m]? = some (.map es ck) := hm.fact j hj
  unfold Oper.wp
  rcases run_next_at (P := P) w ty r m ck ck seen es ck hr hb hst.1 (Nat.le_refl _) with ⟨hz, hrun⟩ | ⟨e, he, w1, hw1, hrun⟩
  · have : (execOp a.eval ⟨some d, .next x false, ty, pos, aft, none⟩).run P w = .ok (.value (.tuple #[.bool false])) w := by
      simp [execOp, ha.eval hx, hrun, Result.andThen]
    rw [this]
    exact hK _ _ (h0 hz _ _ (ha.put hd _) hm)
  · have : (execOp a.eval ⟨some d, .next x false, ty, pos, aft, none⟩).run P w = .ok (.value (.tuple #[.bool true, e.key, e.val])) (setBlock w1 r (.mapIter (some m) ck (seen.push e.born) ck)) := by
      simp [execOp, ha.eval hx, hrun, Result.andThen]
    rw [this]
    have hm1 : Mem c K L O X w1 := by
      rcases hw1 with rfl | rfl
      · exact hm
      · exact hm.grow (grow_drew (World.grownBy.refl w none))
    have hr1 : w1.heap[r]? = some (.mapIter (some m) ck seen ck) := by
      rcases hw1 with rfl | rfl
      · exact hr
      · exact hr
    have hgr : w1.grownBy (setBlock w1 r (.mapIter (some m) ck (seen.push e.born) ck)) (some r) := ⟨rfl, rfl, rfl, by simp [setBlock], fun i _ hi => set_other (fun e => hi (by rw [e]))⟩
    refine hK _ _ (h1 e he _ _ (ha.put hd _) (hm1.itered hN hr1 hgr fun A hA => ?_))
    rcases List.mem_cons.1 hA with rfl | hA
    · exact ⟨⟨hN, set_same hr1⟩, ItF.lasts2⟩
    · exact ⟨(hX A hA).1 _ _ hN hgr (hm1.x A (hX A hA).2), hm1.l A (hX A hA).2⟩
theorem ov_entry {x : Operand} {N r m ck : Nat} {es : Array MapEntry} {seen : Array Nat} {e : MapEntry} {v : Value} (hx : rd S x = some (.pointer (some ⟨r, 0, none⟩))) (hst : Stamped es ck) (he : e ∈ es.toList) (hv : e.val = v) (hz : ∀ w, Z w → ItF N r m ck (seen.push e.born) w ∧ MapE m es ck w) :
    OV P nn S Z ⟨some d, .entry x, ty, pos, aft, none⟩ (.tuple #[e.key, v]) := fun a w ha hzw => by
  subst hv
  obtain ⟨⟨_, hr⟩, hb⟩ := hz w hzw
  have h := run_entry_at (P := P) w r m ck seen es ck e hr hb he hst.2.1
  simp [execOp, ha.eval hx, h, Result.andThen]
end
end Go.Proofs.YtdoooppeiphefaaGreatDoor
namespace Go.Proofs.YtdoooppeiphefaaGreatDoor
open Go.RowKit
def usE (sl : List St) (cl : List Cs) (vl : List Vh) (pl : List Pl) (el : List Ev) (a b : Int) : Int := firstE [evsE sl cl vl pl el, windowE a b]
theorem use_any (sl : List St) (cl : List Cs) (vl : List Vh) (pl : List Pl) (sA cA vA pA : Option Addr) (sn sc cn cc vn vc pn pc : Nat) (el : List Ev) (eA : Option Addr) (en ec : Nat) (a b : Int) (w : World) (hs : SlT stEnc 15 156 w sA sn sl) (hc : SlT csEnc 2 158 w cA cn cl) (hv : SlT vhEnc 2 69 w vA vn vl) (hp : SlT plEnc 3 164 w pA pn pl) (hsok : ∀ x ∈ sl, StOk x) (hcok : ∀ x ∈ cl, CsOk x) (hvok : ∀ x ∈ vl, VhOk x) (hpok : ∀ x ∈ pl, PlOk x) (hsn : sn ≤ 1000) (hcn : cn ≤ 1000) (hvn : vn ≤ 1000) (hpn : pn ≤ 1000) (hl : SlT evEnc 5 105 w eA en el) (heok : ∀ x ∈ el, EvOk x) (hen : en ≤ 100000) (hen2 : en ≤ 1000) :
  Calls Tryz.prog 14 #[.agg #[.slice sA sn sc, .slice cA cn cc, .slice vA vn vc, .slice pA pn pc], .slice eA en ec, .agg #[.int .i64 a, .int .i64 b]] w (fun e w' => (usE sl cl vl pl el a b = 0 → e = .returned (.tuple #[.agg #[.int .i64 (useN a b el vl).num, .int .i64 (useN a b el vl).den], .int .i64 (if useA a b el vl = 0 then 8 else 0)])) ∧ (usE sl cl vl pl el a b ≠ 0 → e = .returned (.tuple #[.agg #[.int .i64 0, .int .i64 0], .int .i64 (usE sl cl vl pl el a b)])) ∧ w.grownBy w' none) := by
 refine gw_enter ⟨66, w, none, [42]⟩ Tryz.func14 rfl Tryz.ntmps14 rfl (mem0 (X := [SlOld stEnc 15 156 w.heap.size none sA sn sl, SlOld csEnc 2 158 w.heap.size none cA cn cl, SlOld vhEnc 2 69 w.heap.size none vA vn vl, SlOld plEnc 3 164 w.heap.size none pA pn pl, SlOld evEnc 5 105 w.heap.size none eA en el]) (allF_cons hs.old (allF_cons hc.old (allF_cons hv.old (allF_cons hp.old (allF_cons hl.old allF_nil))))) (allL_cons SlOld.lasts (allL_cons SlOld.lasts (allL_cons SlOld.lasts (allL_cons SlOld.lasts (allL_cons SlOld.lasts allL_nil)))))) ?_
 refine sr_ ?_
 have hvl := hv.len
 have hell := hl.len
 obtain ⟨FE, hFE⟩ : ∃ z, z = evsE sl cl vl pl el := ⟨_, rfl⟩
 obtain ⟨TE, hTE⟩ : ∃ z, z = usE sl cl vl pl el a b := ⟨_, rfl⟩
 rw [← hTE]
 have hT0 : TE = firstE [FE, windowE a b] := by rw [hTE, hFE]; rfl
 refine wl_box rfl rfl rfl fun g1 => ?_
 refine wl_box rfl rfl rfl fun g2 => ?_
 refine wl_alloc zc46 rfl fun g3 => ?_
 refine sg_ rfl (nn_ (gw_seq (gw_seq ?_)))
 refine gd (fun wz => Blk wz g3 46 [.int .i64 0, .int .i64 0] ∧ Blk wz g2 39 [.int .i64 a, .int .i64 b] ∧ Blk wz g1 31 [.slice sA sn sc, .slice cA cn cc, .slice vA vn vc, .slice pA pn pc] ∧ (SlOld stEnc 15 156 w.heap.size none sA sn sl) wz ∧ (SlOld csEnc 2 158 w.heap.size none cA cn cl) wz ∧ (SlOld vhEnc 2 69 w.heap.size none vA vn vl) wz ∧ (SlOld plEnc 3 164 w.heap.size none pA pn pl) wz ∧ (SlOld evEnc 5 105 w.heap.size none eA en el) wz ∧ True) mixed (fun _ hm => ⟨hm.bl 0, hm.bl 1, hm.bl 2, hm.fa 0, hm.fa 1, hm.fa 2, hm.fa 3, hm.fa 4, trivial⟩) fun z => ?_
 refine wt 0 8 1 rfl z (ov_loads rz31 rfl (fun _ hm => hm.2.2.1) rfl rfl) ?_
 refine wt 1 8 3 rfl z (ov_move rfl) ?_
 refine wt 3 8 11 rfl z (ov_loads rz39 rfl (fun _ hm => hm.2.1) rfl rfl) ?_
 refine wa1 2 rfl ?_
 refine wl_callv (v := .int .i64 FE) rfl cb42 rfl rfl (fun wx hm => (by rw [hFE]; exact check2_any sl cl vl pl sA cA vA pA sn sc cn cc vn vc pn pc el eA en ec wx (hm.fact 0 rfl).1 (hm.fact 1 rfl).1 (hm.fact 2 rfl).1 (hm.fact 3 rfl).1 hsok hcok hvok hpok hsn hcn hvn hpn (hm.fact 4 rfl).1 heok (by omega))) ?_
 refine wl_nil ?_
 refine nw 8 15 (fun _ hm => ⟨hm.bl 0, hm.bl 1, hm.bl 2, hm.fa 0, hm.fa 1, hm.fa 2, hm.fa 3, hm.fa 4, trivial⟩) fun z => ?_
 refine wa1 4 rfl ?_
 refine wl_callv rfl cb69 rfl rfl (fun wx hm => (window_any _ _ wx)) ?_
 refine wl_nil ?_
 refine nw 8 31 (fun _ hm => ⟨hm.bl 0, hm.bl 1, hm.bl 2, hm.fa 0, hm.fa 1, hm.fa 2, hm.fa 3, hm.fa 4, trivial⟩) fun z => ?_
 refine wa1 5 rfl ?_
 refine wl_buildSlice (e := 33) (cs := [.int .i64 FE, .int .i64 (windowE a b)]) rfl (by kernel_rfl) rfl fun g4 => ?_
 refine wl_nil ?_
 refine nw 8 63 (fun _ hm => ⟨hm.bl 1, hm.bl 2, hm.bl 3, hm.fa 0, hm.fa 1, hm.fa 2, hm.fa 3, hm.fa 4, trivial⟩) fun z => ?_
 refine wa1 6 rfl ?_
 refine wl_callw rfl cb66 rfl rfl (fun wx hm => (first_any [FE, windowE a b] _ _ _ wx (hm.blkI 0 rfl) (by simp))) ?_
 refine wl_nil ?_
 refine nw 8 127 (fun _ hm => ⟨hm.bl 1, hm.bl 2, hm.bl 3, hm.fa 0, hm.fa 1, hm.fa 2, hm.fa 3, hm.fa 4, trivial⟩) fun z => ?_
 refine wt 7 8 255 rfl z (ov_assign rfl) ?_
 refine wa_done (by kernel_rfl) ?_
 refine nx_then (sr_ (mv_ rfl (wl_ov (ov_neq rfl rfl) rfl (nn_ ?_))))
 refine gw_cond rfl (fun hh => ?_) (fun hh => ?_)
 ·have h3 : ¬ (firstE [FE, windowE a b] = 0) := by simpa using hh
  clear hh
  refine sr_ ?_
  have h4 : TE ≠ 0 := by rw [hT0]; simpa using h3
  refine wl_ov (ov_build (cs := [.int .i64 0, .int .i64 0]) rfl (by kernel_rfl)) rfl ?_
  refine mv_ rfl ?_
  refine wl_stores (cs' := [.int .i64 0, .int .i64 0]) 1 rz46 rfl rfl rfl rfl rfl rfl rfl rfl ?_
  refine sg_ rfl (nn_ ?_)
  refine gw_ret ?_
  refine nx_then_ret ?_
  refine nx_retct 1 rfl rz46 rfl rfl rfl rfl fun wx hm => ?_
  exact ⟨fun h => absurd h h4, fun _ => by rw [hT0], hm.g⟩
 have h3 : firstE [FE, windowE a b] = 0 := by simpa using hh
 clear hh
 refine gw_skip (nx_then (sr_ ?_))
 have h4 : TE = 0 := by rw [hT0]; simpa using h3
 have hfa := fe_all (hT0.symm.trans h4)
 obtain ⟨hf0, hl0⟩ := evs_ok (hFE.symm.trans (hfa FE (by simp)))
 obtain ⟨_, hfine, _⟩ := log_ok hl0
 have hrise : Rise vl := fleet_rise hf0
 obtain ⟨ha0, hab, hb0⟩ := windowE_ok (hfa (windowE a b) (by simp))
 refine sg_ rfl (sg_ rfl (nn_ (gw_seq (sr_ ?_))))
 refine wl_ov (ov_loads rz31 rfl (fun _ hm => hm.blkI 3 rfl) rfl rfl) rfl ?_
 refine mv_ rfl ?_
 refine wl_ov (ov_loads rz39 rfl (fun _ hm => hm.blkI 2 rfl) rfl rfl) rfl ?_
 refine wl_callG (γ := Nat × PMap × (ByteArray → Int → Int) × Array MapEntry × Nat) (val := fun g => .map (some g.1)) (φ := fun g => Entries encP g.2.1 g.2.2.2.1 g.2.2.2.2 ∧ (∀ (k : Nat) (x : Vh), vl[k]? = some x → ∃ t, g.2.1 x.key = some (some t)) ∧ (∀ k, g.2.1 k ≠ none → ∃ x ∈ vl, x.key = k) ∧ (∀ (k : Nat) (x : Vh), vl[k]? = some x → ∀ j, g.2.2.1 x.key j = spT a b el x.key j)) (K' := fun _ => (fun _ => True)) (L' := fun _ => [(g4, 33, [.int .i64 FE, .int .i64 (windowE a b)]), (g3, 46, [.int .i64 0, .int .i64 0]), (g2, 39, [.int .i64 a, .int .i64 b]), (g1, 31, [.slice sA sn sc, .slice cA cn cc, .slice vA vn vc, .slice pA pn pc])]) (O' := fun _ => []) (X' := fun g => MapE g.1 g.2.2.2.1 g.2.2.2.2 :: Fam 42 0 g.2.1 g.2.2.1 :: [SlOld stEnc 15 156 w.heap.size none sA sn sl, SlOld csEnc 2 158 w.heap.size none cA cn cl, SlOld vhEnc 2 69 w.heap.size none vA vn vl, SlOld plEnc 3 164 w.heap.size none pA pn pl, SlOld evEnc 5 105 w.heap.size none eA en el]) rfl cb70 rfl rfl (fun wx hm => (spent_any vl sA cA vA pA sn sc cn cc vn vc pn pc el eA en ec a b wx (hm.fact 2 rfl).1 (hm.fact 4 rfl).1 heok (fun x hx => (hfine x hx).veh) hrise ha0 hab hb0 hen2 (by omega)).mono fun e w' ⟨m, p, H, he, ⟨_, es, ck, hM, hE⟩, hF, hd, hin, hs, hg⟩ => ⟨(m, p, H, es, ck), he, ⟨hE, hd, hin, hs⟩, ((hm.grow hg).also (Fam.lasts2 rfl) (fun k g hk => ⟨Nat.zero_le _, (hF k g hk).2⟩)).also MapE.lasts2 hM⟩) ?_
 rintro ⟨m1, p, H, es, ck⟩ ⟨hE, hd, hin, hs⟩
 dsimp only at hE hd hin hs ⊢
 have hel := entries_len hE hd hin hrise
 have hHb : ∀ x ∈ es.toList, ∀ j, 0 ≤ H (keyOf x) j ∧ H (keyOf x) j ≤ 6006000000 := fun x hx j => by
  obtain ⟨_, i, y, _, _, hy, hyk⟩ := entry_at hE hd hin hx
  rw [← hyk, hs i y hy j]
  exact spT_bd hab (by omega) (by omega)
 have hbH : ∀ seen, 0 ≤ seenS (fun k => H k 2) es.toList seen ∧ seenS (fun k => H k 2) es.toList seen ≤ 6006000000000 := fun seen => by
  have h := seenS_bd (f := fun k => H k 2) (seen := seen) (B := 6006000000) (by decide) (fun x hx => hHb x hx 2)
  omega
 have hbA : ∀ seen, 0 ≤ seenS (fun k => H k 1 + H k 2 + H k 3 + H k 4) es.toList seen ∧ seenS (fun k => H k 1 + H k 2 + H k 3 + H k 4) es.toList seen ≤ 24024000000000 := fun seen => by
  have h := seenS_bd (f := fun k => H k 1 + H k 2 + H k 3 + H k 4) (seen := seen) (B := 24024000000) (by decide) (fun x hx => by
   have h1 := hHb x hx 1; have h2 := hHb x hx 2; have h3 := hHb x hx 3; have h4 := hHb x hx 4
   omega)
  omega
 refine wl_range (k := 9) (e := 137) 0 1 rfl rfl (by kernel_rfl) rfl rfl fun rt hrt hrf => ?_
 refine nn_ (gw_block ?_)
 refine gw_loop (γ := Array Nat × Int × Int) (fun gg => gg.2.1 = seenS (fun k => H k 2) es.toList gg.1 ∧ gg.2.2 = seenS (fun k => H k 1 + H k 2 + H k 3 + H k 4) es.toList gg.1) (fun gg => [(6, .pointer (some ⟨g3, 0, none⟩)), (7, .int .i64 0), (9, .int .i64 gg.2.1), (10, .int .i64 gg.2.2), (28, .pointer (some ⟨rt, 0, none⟩))]) (fun gg => fun _ => True) (fun gg => [(g4, 33, [.int .i64 FE, .int .i64 (windowE a b)]), (g3, 46, [.int .i64 0, .int .i64 0]), (g2, 39, [.int .i64 a, .int .i64 b]), (g1, 31, [.slice sA sn sc, .slice cA cn cc, .slice vA vn vc, .slice pA pn pc])]) (fun gg => []) (fun gg => [ItF w.heap.size rt m1 ck gg.1, MapE m1 es ck, Fam 42 0 p H, SlOld stEnc 15 156 w.heap.size none sA sn sl, SlOld csEnc 2 158 w.heap.size none cA cn cl, SlOld vhEnc 2 69 w.heap.size none vA vn vl, SlOld plEnc 3 164 w.heap.size none pA pn pl, SlOld evEnc 5 105 w.heap.size none eA en el]) (fun gg => (leftOf es gg.1).size) (#[], 0, 0) ⟨(seenS_none _).symm, (seenS_none _).symm⟩ ⟨rfl, rfl, rfl, rfl, rfl, trivial⟩ (fun _ hm => hm.pick [0, 1, 2, 3] [] [0, 1, 2, 3, 4, 5, 6, 7] rfl rfl) ?_
 rintro ⟨seen, h, q⟩ hinv
 replace hinv : h = seenS (fun k => H k 2) es.toList seen ∧ q = seenS (fun k => H k 1 + H k 2 + H k 3 + H k 4) es.toList seen := hinv
 dsimp only
 refine sr_ ?_
 obtain ⟨hh, hq⟩ := hinv
 have hh1 := hbH seen
 have hq1 := hbA seen
 rw [← hh] at hh1
 rw [← hq] at hq1
 refine wl_next (X' := [Fam 42 0 p H, MapE m1 es ck, SlOld stEnc 15 156 w.heap.size none sA sn sl, SlOld csEnc 2 158 w.heap.size none cA cn cl, SlOld vhEnc 2 69 w.heap.size none vA vn vl, SlOld plEnc 3 164 w.heap.size none pA pn pl, SlOld evEnc 5 105 w.heap.size none eA en el]) 0 1 rfl rfl hE.1 rfl rfl (far_cons (i := 2) (Fam.far hrf) rfl (far_cons (i := 1) (MapE.far hrt) rfl (far_cons (i := 3) SlOld.far rfl (far_cons (i := 4) SlOld.far rfl (far_cons (i := 5) SlOld.far rfl (far_cons (i := 6) SlOld.far rfl (far_cons (i := 7) SlOld.far rfl far_nil))))))) (fun hz => ?_) (fun e he => ?_)
 ·have e1 : h = useH a b el vl := by
   rw [hh, seenS_full (all_seen es seen hz)]
   refine (sum_keys (f := fun k => H k 2) hE hd hin hrise).trans ?_
   exact congrArg List.sum (List.map_congr_left fun x hx => by
    obtain ⟨i, hi⟩ := List.getElem?_of_mem hx
    exact hs i x hi 2)
  have e2 : q = useA a b el vl := by
   rw [hq, seenS_full (all_seen es seen hz)]
   refine (sum_keys (f := fun k => H k 1 + H k 2 + H k 3 + H k 4) hE hd hin hrise).trans ?_
   exact congrArg List.sum (List.map_congr_left fun x hx => by
    obtain ⟨i, hi⟩ := List.getElem?_of_mem hx
    rw [hs i x hi 1, hs i x hi 2, hs i x hi 3, hs i x hi 4])
  clear hh hq
  obtain ⟨n, rfl⟩ := Int.eq_ofNat_of_zero_le hh1.1
  obtain ⟨t, rfl⟩ := Int.eq_ofNat_of_zero_le hq1.1
  refine wl_ov (ov_extract rfl rfl) rfl (nn_ (gw_seq (cf_ rfl ?_)))
  refine gw_exit ?_
  refine nx_then_exit (nx_then_exit ?_)
  refine nx_blk_here ?_
  refine nx_then (gw_seq (sr_ (mv_ rfl (wl_ov (ov_eql rfl rfl) rfl (nn_ ?_)))))
  refine gw_cond rfl (fun hh => ?_) (fun hh => ?_)
  ·have h0 : ((t : Nat) : Int) = 0 := by simpa using hh
   clear hh
   refine sr_ ?_
   have hU : useN a b el vl = ⟨0, 0⟩ := by unfold useN; rw [if_pos (by omega)]
   refine wl_ov (ov_build (cs := [.int .i64 0, .int .i64 0]) rfl (by kernel_rfl)) rfl ?_
   refine wl_stores (cs' := [.int .i64 0, .int .i64 0]) 1 rz46 rfl rfl rfl rfl rfl rfl rfl rfl ?_
   refine sg_ rfl (nn_ ?_)
   refine gw_ret ?_
   refine nx_then_ret ?_
   refine nx_retct 1 rfl rz46 rfl rfl rfl rfl fun wx hm => ?_
   exact ⟨fun _ => by rw [hU, if_pos (by omega)], fun h => absurd h4 h, hm.g⟩
  have h0 : ¬ (((t : Nat) : Int) = 0) := by simpa using hh
  clear hh
  refine gw_skip (nx_then (sr_ ?_))
  have hU : useN a b el vl = lowF n t := by unfold useN; rw [if_neg (by omega), ← e1, ← e2]; rfl
  refine mv_ rfl (mv_ rfl ?_)
  refine wl_callv rfl cb71 rfl rfl (fun wx hm => (lowest_any n t wx (by omega) (by omega) (by omega))) ?_
  refine wl_stores (cs' := [.int .i64 ((lowF n t).num), .int .i64 ((lowF n t).den)]) 1 rz46 rfl rfl rfl rfl rfl rfl rfl rfl ?_
  refine sg_ rfl (nn_ ?_)
  refine gw_ret ?_
  refine nx_retct 1 rfl rz46 rfl rfl rfl rfl fun wx hm => ?_
  exact ⟨fun _ => by rw [hU, if_neg (by omega)], fun h => absurd h4 h, hm.g⟩
 obtain ⟨hel1, hel2⟩ := mem_left he
 obtain ⟨gv, iv, yv, hgv, hev, hyv, hyk⟩ := entry_at hE hd hin hel1
 rw [hev]
 refine wl_ov (ov_extract rfl rfl) rfl (nn_ (gw_seq (ct_ rfl (gw_skip (nx_then (gw_block (sr_ ?_)))))))
 refine wl_ov (ov_entry (e := e) rfl hE.1 hel1 hev (fun _ hm => ⟨(hm.fact 0 rfl), (hm.fact 2 rfl)⟩)) rfl ?_
 have hH1 := hHb e hel1 1
 have hH2 := hHb e hel1 2
 have hH3 := hHb e hel1 3
 have hH4 := hHb e hel1 4
 refine wl_ov (ov_extract rfl rfl) rfl (sg_ rfl (nn_ (sr_ (mv_ rfl (mv_ rfl (wl_ov (ov_nilcheck rfl) rfl (fd_ fo42_2 rfl rfl ?_)))))))
 refine wl_ov (ov_load (v := .int .i64 (H (keyOf e) 2)) sc3 rfl (fun _ hm => ((hm.fact 1 rfl) (keyOf e) gv hgv).2) rfl) rfl ?_
 refine ad_ rfl rfl (sg_ rfl (nn_ ?_))
 refine gd (fun wz => Blk wz g4 33 [.int .i64 FE, .int .i64 (windowE a b)] ∧ Blk wz g3 46 [.int .i64 0, .int .i64 0] ∧ Blk wz g2 39 [.int .i64 a, .int .i64 b] ∧ Blk wz g1 31 [.slice sA sn sc, .slice cA cn cc, .slice vA vn vc, .slice pA pn pc] ∧ (ItF w.heap.size rt m1 ck (seen.push e.born)) wz ∧ (Fam 42 0 p H) wz ∧ (MapE m1 es ck) wz ∧ (SlOld stEnc 15 156 w.heap.size none sA sn sl) wz ∧ (SlOld csEnc 2 158 w.heap.size none cA cn cl) wz ∧ (SlOld vhEnc 2 69 w.heap.size none vA vn vl) wz ∧ (SlOld plEnc 3 164 w.heap.size none pA pn pl) wz ∧ (SlOld evEnc 5 105 w.heap.size none eA en el) wz ∧ True) mixed (fun _ hm => ⟨hm.bl 0, hm.bl 1, hm.bl 2, hm.bl 3, hm.fa 0, hm.fa 1, hm.fa 2, hm.fa 3, hm.fa 4, hm.fa 5, hm.fa 6, hm.fa 7, trivial⟩) fun z => ?_
 refine wt 0 22 1 rfl z (ov_move rfl) ?_
 refine wt 1 22 3 rfl z (ov_move rfl) ?_
 refine wt 2 22 7 rfl z (ov_nilcheck rfl) ?_
 refine wt 3 22 15 rfl z (ov_field fo42_1 rfl rfl) ?_
 refine wt 4 22 31 rfl z (ov_load (v := .int .i64 (H (keyOf e) 1)) sc3 rfl (fun _ hm => ((hm.2.2.2.2.2.1) (keyOf e) gv hgv).2) rfl) ?_
 refine wt 5 22 63 rfl z (ov_move rfl) ?_
 refine wt 6 22 127 rfl z (ov_nilcheck rfl) ?_
 refine wt 7 22 255 rfl z (ov_field fo42_2 rfl rfl) ?_
 refine wt 8 22 511 rfl z (ov_load (v := .int .i64 (H (keyOf e) 2)) sc3 rfl (fun _ hm => ((hm.2.2.2.2.2.1) (keyOf e) gv hgv).2) rfl) ?_
 refine wt 9 22 1023 rfl z (ov_add rfl rfl (by omega) (by omega)) ?_
 refine wt 10 22 2047 rfl z (ov_move rfl) ?_
 refine wt 11 22 4095 rfl z (ov_nilcheck rfl) ?_
 refine wt 12 22 8191 rfl z (ov_field fo42_3 rfl rfl) ?_
 refine wt 13 22 16383 rfl z (ov_load (v := .int .i64 (H (keyOf e) 3)) sc3 rfl (fun _ hm => ((hm.2.2.2.2.2.1) (keyOf e) gv hgv).2) rfl) ?_
 refine wt 14 22 32767 rfl z (ov_add rfl rfl (by omega) (by omega)) ?_
 refine wt 15 22 65535 rfl z (ov_move rfl) ?_
 refine wt 16 22 131071 rfl z (ov_nilcheck rfl) ?_
 refine wt 17 22 262143 rfl z (ov_field fo42_4 rfl rfl) ?_
 refine wt 18 22 524287 rfl z (ov_load (v := .int .i64 (H (keyOf e) 4)) sc3 rfl (fun _ hm => ((hm.2.2.2.2.2.1) (keyOf e) gv hgv).2) rfl) ?_
 refine wt 19 22 1048575 rfl z (ov_add rfl rfl (by omega) (by omega)) ?_
 refine wt 20 22 2097151 rfl z (ov_add rfl rfl (by omega) (by omega)) ?_
 refine wt 21 22 4194303 rfl z (ov_assign rfl) ?_
 refine wa_done (by kernel_rfl) ?_
 refine nx_blk_nrm ?_
 exact nx_round (seen.push e.born, h + (H (keyOf e) 2), q + ((((H (keyOf e) 1) + (H (keyOf e) 2)) + (H (keyOf e) 3)) + (H (keyOf e) 4))) ⟨by dsimp only; rw [seenS_push hel2 hE.1.2.1 hel1, ← hh], by dsimp only; rw [seenS_push hel2 hE.1.2.1 hel1, ← hq]⟩ (left_shrinks es seen e he) ⟨rfl, rfl, rfl, rfl, rfl, trivial⟩ (fun _ hm => hm.pick [0, 1, 2, 3] [] [0, 2, 1, 3, 4, 5, 6, 7] rfl rfl)
end Go.Proofs.YtdoooppeiphefaaGreatDoor
namespace Go.Proofs.YtdoooppeiphefaaGreatDoor
open Go.RowKit
theorem tripsOf_any (el : List Ev) (eA : Option Addr) (en ec : Nat) (vk : ByteArray) (w : World) (hl : SlT evEnc 5 105 w eA en el) (hen : en ≤ 1000) :
  Calls Tryz.prog 23 #[.slice eA en ec, .string vk] w (fun e w' => ∃ (A : Option Addr) (k c : Nat), e = .returned (.slice A k c) ∧ SlT trEnc 4 61 w' A k (tripsR el vk) ∧ w.grownBy w' none) := by
 refine gw_enter ⟨61, w, none, []⟩ Tryz.func23 rfl Tryz.ntmps23 rfl (mem0 (X := [SlOld evEnc 5 105 w.heap.size none eA en el]) (allF_cons hl.old allF_nil) (allL_cons SlOld.lasts allL_nil)) ?_
 refine sr_ ?_
 obtain ⟨R, hR⟩ : ∃ z, z = tripsR el vk := ⟨_, rfl⟩
 rw [← hR]
 refine sg_ rfl (nn_ (sr_ (sg_ rfl (nn_ (sr_ (mv_ rfl (mv_ rfl ?_)))))))
 refine wl_callgo (γ := Option Addr × Nat × Nat × Option Addr × Nat × Nat) (val := (fun g => .tuple #[.slice g.1 g.2.1 g.2.2.1, .slice g.2.2.2.1 g.2.2.2.2.1 g.2.2.2.2.2])) (φ := (fun g => (stages el vk).length = g.2.1 ∧ g.2.1 ≤ en + 1)) (fun g => ⟨.slice g.1 g.2.1 g.2.2.1, 142, 3, g.2.1, (stages el vk).flatMap saEnc⟩) rfl cb77 rfl rfl (fun wx hm => (stages_any el eA en ec vk wx (hm.fact 0 rfl).1 (by omega)).mono fun _ _ ⟨A1, n1, c1, A2, n2, c2, he, ho1, hz1, ho2, hz2, hb1, hb2, hg⟩ => ⟨(A1, n1, c1, A2, n2, c2), he, ⟨hz1, hb1⟩, ho1, hg⟩) ?_
 rintro ⟨A1, sN, c1, A2, bN, c2⟩ hst
 dsimp only at hst ⊢
 obtain ⟨hsl, hsn⟩ := hst
 have hn0 : 1 ≤ sN := by rw [← hsl]; exact Nat.succ_le_succ (Nat.zero_le _)
 have hs0 : (stages el vk)[0]? = some sa0 := rfl
 obtain ⟨SS, hSS⟩ : ∃ z, z = stages el vk := ⟨_, rfl⟩
 have hR0 : trR ⟨#[]⟩ SS = R := by rw [hR, hSS]; rfl
 rw [← hSS] at hsl hs0
 rw [← hSS]
 refine wl_nilOwn 61 4 ?_
 refine mv_ rfl (wl_ov (ov_extract rfl rfl) rfl (wl_ov (ov_extract rfl rfl) rfl (sg_ rfl (sg_ rfl (nn_ (gw_seq (sr_ (mv_ rfl (wl_ov (ov_len es151 rfl) rfl (mv_ rfl (wl_nil ?_)))))))))))
 refine nx_then (gw_block ?_)
 refine gw_look (R := ∃ g, A1 = some ⟨g, 0, none⟩) (fun wx hm => own_addr (hm.ownI 1 rfl) (by omega)) ?_
 rintro ⟨bs, rfl⟩
 refine gw_loop (γ := Nat × Nat × Option Addr × Nat × List Tr) (fun g => g.1 ≤ sN ∧ g.2.1 ≤ g.1 ∧ g.2.2.2.2.length = g.2.1 ∧ g.2.2.2.2 ++ trR (staPrev SS g.1) (SS.drop g.1) = R) (fun g => [(4, .slice none 0 0), (5, .slice g.2.2.1 g.2.1 g.2.2.2.1), (6, .slice (some ⟨bs, 0, none⟩) sN c1), (17, .slice (some ⟨bs, 0, none⟩) sN c1), (18, .int .i64 ((sN : Nat) : Int)), (19, .int .i64 ((g.1 : Nat) : Int))]) (fun g => fun _ => True) (fun g => []) (fun g => [⟨.slice g.2.2.1 g.2.1 g.2.2.2.1, 61, 4, g.2.1, g.2.2.2.2.flatMap trEnc⟩, ⟨.slice (some ⟨bs, 0, none⟩) sN c1, 142, 3, sN, SS.flatMap saEnc⟩]) (fun g => [SlOld evEnc 5 105 w.heap.size none eA en el]) (fun g => sN - g.1) (0, 0, none, 0, []) ⟨Nat.zero_le _, Nat.le_refl _, rfl, hR0⟩ ⟨rfl, rfl, rfl, rfl, rfl, rfl, trivial⟩ (fun _ hm => hm.pick [] [0, 1] [0] rfl rfl) ?_
 rintro ⟨i, k, oA, oc, ol⟩ hinv
 replace hinv : i ≤ sN ∧ k ≤ i ∧ ol.length = k ∧ ol ++ trR (staPrev SS i) (SS.drop i) = R := hinv
 dsimp only
 refine sr_ ?_
 obtain ⟨hi0, hki, hol, hRR⟩ := hinv
 refine wl_ov (ov_lss rfl rfl) rfl (nn_ (gw_seq ?_))
 refine gw_cond rfl (fun hh => ?_) (fun hh => ?_)
 ·have hi : ((i : Nat) : Int) < ((sN : Nat) : Int) := by simpa using hh
  clear hh
  refine gw_skip (nx_then (gw_seq (gw_block (sr_ ?_))))
  obtain ⟨xx, hx⟩ : ∃ x, SS[i]? = some x := ⟨_, List.getElem?_eq_getElem (by omega)⟩
  obtain ⟨s0, s1, s2⟩ := xx
  have hat := trR_at (p := staPrev SS i) hx
  have hsp := staPrev_succ hx
  dsimp only at hat hsp
  rw [hat] at hRR
  refine mv_ rfl ?_
  refine wl_ov (ov_index (j := i) es151 rfl rfl (by omega)) rfl ?_
  refine wl_ov (ov_elem (vs := [.int .i64 s0, .string s1, .int .i64 s2]) rz142 rfl (fun _ hm => (SlT.ofOwn sa_len (hm.ownI 1 rfl) hsl)) hx rfl rfl) rfl ?_
  refine wl_alloc zc142 rfl fun g1 => ?_
  refine sg_ rfl ?_
  refine wl_stores (cs' := [.int .i64 s0, .string s1, .int .i64 s2]) 0 rz142 rfl rfl rfl rfl rfl rfl rfl rfl ?_
  refine nn_ (gw_seq (sr_ (fd_ fo142_0 rfl rfl (lk_ sc3 0 rfl rfl rfl (wl_ov (ov_neq rfl rfl) rfl (nn_ ?_))))))
  refine gw_cond rfl (fun hh => ?_) (fun hh => ?_)
  ·have h2 : ¬ (s0 = 2) := by simpa using hh
   clear hh
   refine gw_exit ?_
   refine nx_then_exit ?_
   refine nx_blk_here ?_
   refine nx_then (gw_region ?_)
   rw [if_neg (by omega), List.nil_append, ← hsp] at hRR
   refine ad_ rfl rfl (mv_ rfl (wl_nil ?_))
   exact nx_round (i + 1, k, oA, oc, ol) ⟨by dsimp only; omega, by dsimp only; omega, hol, hRR⟩ (by dsimp only; omega) ⟨rfl, rfl, rfl, rfl, rfl, (some_int (by omega)), trivial⟩ (fun _ hm => hm.pick [] [0, 1] [0] rfl rfl)
  have h2 : s0 = 2 := by simpa using hh
  clear hh
  refine gw_skip (nx_then (gw_seq ?_))
  have h22 : s0 = 2 := by omega
  subst h22
  rw [if_pos rfl] at hRR
  have hi1 : 1 ≤ i := by
   rcases i with _ | i
   ·rw [hs0] at hx; cases hx
   omega
  obtain ⟨vv, hv1⟩ : ∃ x, SS[i - 1]? = some x := ⟨_, List.getElem?_eq_getElem (by omega)⟩
  obtain ⟨v0, v1, v2⟩ := vv
  have hpv := staPrev_at hi1 hv1
  dsimp only at hpv
  rw [hpv] at hRR
  refine gd (fun wz => Blk wz g1 142 [.int .i64 2, .string s1, .int .i64 s2] ∧ (SlOld evEnc 5 105 w.heap.size none eA en el) wz ∧ wz.ownsRow w.heap.size 61 4 (.slice oA k oc) k (ol.flatMap trEnc) ∧ wz.ownsRow w.heap.size 142 3 (.slice (some ⟨bs, 0, none⟩) sN c1) sN (SS.flatMap saEnc) ∧ True) mixed (fun _ hm => ⟨hm.bl 0, hm.fa 0, hm.ownI 0 rfl, hm.ownI 1 rfl, trivial⟩) fun z => ?_
  refine wt 0 11 1 rfl z (ov_field fo142_2 rfl rfl) ?_
  refine wt 1 11 3 rfl z (ov_load sc3 rfl (fun _ hm => hm.1) rfl) ?_
  refine wt 2 11 7 rfl z (ov_move rfl) ?_
  refine wt 3 11 15 rfl z (ov_move rfl) ?_
  refine wt 4 11 31 rfl z (ov_sub rfl rfl (by omega) (by omega)) ?_
  refine wa_set 31 (v' := .int .i64 (((i - 1) : Nat) : Int)) rfl (congrArg (Value.int .i64) (by omega)) ?_
  refine wt 5 11 63 rfl z (ov_index (j := (i - 1)) es151 rfl rfl (by omega)) ?_
  refine wt 6 11 127 rfl z (ov_field fo142_1 rfl rfl) ?_
  refine wt 7 11 255 rfl z (ov_elem1 (k := 1) (v := .string v1) sc9 rfl (fun _ hm => (SlT.ofOwn sa_len (hm.2.2.2.1) hsl)) hv1 rfl rfl) ?_
  refine wt 8 11 511 rfl z (ov_build (cs := [.int .i64 s2, .int .i64 (-1), .string v1, .string ⟨#[]⟩]) rfl (by kernel_rfl)) ?_
  refine wa1 9 rfl ?_
  refine wl_alloc zc61 rfl fun g2 => ?_
  refine wl_nil ?_
  refine nw 11 1023 (fun _ hm => ⟨hm.bl 1, hm.fa 0, hm.ownI 0 rfl, hm.ownI 1 rfl, trivial⟩) fun z => ?_
  refine wa1 10 rfl ?_
  refine wl_stores (cs' := [.int .i64 s2, .int .i64 (-1), .string v1, .string ⟨#[]⟩]) 0 rz61 rfl rfl rfl rfl rfl rfl rfl rfl ?_
  refine wl_nil ?_
  refine nw 11 2047 (fun _ hm => ⟨hm.bl 1, hm.fa 0, hm.ownI 0 rfl, hm.ownI 1 rfl, trivial⟩) fun z => ?_
  refine wa_done (by kernel_rfl) ?_
  refine nx_then (gw_seq (sr_ (mv_ rfl (ad_ rfl rfl (mv_ rfl (wl_ov (ov_len es151 rfl) rfl (wl_ov (ov_lss rfl rfl) rfl (nn_ ?_))))))))
  refine gw_cond rfl (fun hh => ?_) (fun hh => ?_)
  ·have hin : ((i : Nat) : Int) + 1 < ((sN : Nat) : Int) := by simpa using hh
   clear hh
   obtain ⟨yy, hy⟩ : ∃ x, SS[i + 1]? = some x := ⟨_, List.getElem?_eq_getElem (by omega)⟩
   obtain ⟨u0, u1, u2⟩ := yy
   have hds := drop_some hy
   dsimp only at hds
   rw [hds.1, hds.2] at hRR
   refine gd (fun wz => Blk wz g1 142 [.int .i64 2, .string s1, .int .i64 s2] ∧ (SlOld evEnc 5 105 w.heap.size none eA en el) wz ∧ wz.ownsRow w.heap.size 61 4 (.slice oA k oc) k (ol.flatMap trEnc) ∧ wz.ownsRow w.heap.size 142 3 (.slice (some ⟨bs, 0, none⟩) sN c1) sN (SS.flatMap saEnc) ∧ True) mixed (fun _ hm => ⟨hm.bl 1, hm.fa 0, hm.ownI 0 rfl, hm.ownI 1 rfl, trivial⟩) fun z => ?_
   refine wt 0 16 1 rfl z (ov_move rfl) ?_
   refine wt 1 16 3 rfl z (ov_move rfl) ?_
   refine wt 2 16 7 rfl z (ov_add rfl rfl (by omega) (by omega)) ?_
   refine wa_set 43 (v' := .int .i64 (((i + 1) : Nat) : Int)) rfl (congrArg (Value.int .i64) (by omega)) ?_
   refine wt 3 16 15 rfl z (ov_index (j := (i + 1)) es151 rfl rfl (by omega)) ?_
   refine wt 4 16 31 rfl z (ov_field fo142_2 rfl rfl) ?_
   refine wt 5 16 63 rfl z (ov_elem1 (k := 2) (v := .int .i64 u2) sc3 rfl (fun _ hm => (SlT.ofOwn sa_len (hm.2.2.2.1) hsl)) hy rfl rfl) ?_
   refine wt 6 16 127 rfl z (ov_move rfl) ?_
   refine wt 7 16 255 rfl z (ov_move rfl) ?_
   refine wt 8 16 511 rfl z (ov_add rfl rfl (by omega) (by omega)) ?_
   refine wa_set 49 (v' := .int .i64 (((i + 1) : Nat) : Int)) rfl (congrArg (Value.int .i64) (by omega)) ?_
   refine wt 9 16 1023 rfl z (ov_index (j := (i + 1)) es151 rfl rfl (by omega)) ?_
   refine wt 10 16 2047 rfl z (ov_field fo142_1 rfl rfl) ?_
   refine wt 11 16 4095 rfl z (ov_elem1 (k := 1) (v := .string u1) sc9 rfl (fun _ hm => (SlT.ofOwn sa_len (hm.2.2.2.1) hsl)) hy rfl rfl) ?_
   refine wt 12 16 8191 rfl z (ov_field fo61_1 rfl rfl) ?_
   refine wa1 13 rfl ?_
   refine wl_store 0 sc3 rfl rfl rfl rfl rfl rfl ?_
   refine wl_nil ?_
   refine nw 16 16383 (fun _ hm => ⟨hm.bl 1, hm.fa 0, hm.ownI 0 rfl, hm.ownI 1 rfl, trivial⟩) fun z => ?_
   refine wt 14 16 32767 rfl z (ov_field fo61_3 rfl rfl) ?_
   refine wa1 15 rfl ?_
   refine wl_store 0 sc9 rfl rfl rfl rfl rfl rfl ?_
   refine wl_nil ?_
   refine nw 16 65535 (fun _ hm => ⟨hm.bl 1, hm.fa 0, hm.ownI 0 rfl, hm.ownI 1 rfl, trivial⟩) fun z => ?_
   refine wa_done (by kernel_rfl) ?_
   refine nx_then (gw_region (mv_ rfl ?_))
   refine wl_ov (ov_loads rz61 rfl (fun _ hm => hm.blkI 0 rfl) rfl rfl) rfl ?_
   refine wl_buildSlice (e := 61) (cs := [.int .i64 s2, .int .i64 u2, .string v1, .string u1]) rfl (by kernel_rfl) rfl fun g3 => ?_
   refine wl_append (news := [.int .i64 s2, .int .i64 u2, .string v1, .string u1]) 0 0 ap49 rfl rfl rfl rfl rfl rfl rfl (by omega) (by unfold maxLen; omega) rfl rfl fun v2 hv2 => ?_
   refine wl_look (R := ∃ A cc, v2 = .slice A (k + 1) cc) (fun wx hm => own_slice (hm.ownI 0 rfl)) ?_
   rintro ⟨A3, c3, rfl⟩
   have hxs : ol.flatMap trEnc ++ ([.int .i64 s2, .int .i64 u2, .string v1, .string u1] : List Value) = (ol ++ [(⟨s2, u2, v1, u1⟩ : Tr)]).flatMap trEnc := by simp [trEnc]
   rw [hxs]
   refine sg_ rfl (wl_nil (nx_blk_nrm (nx_then (gw_region (ad_ rfl rfl (mv_ rfl (wl_nil ?_)))))))
   exact nx_round (i + 1, k + 1, A3, c3, ol ++ [(⟨s2, u2, v1, u1⟩ : Tr)]) ⟨by dsimp only; omega, by dsimp only; omega, by simp [hol], by dsimp only; rw [hsp, List.append_assoc]; exact hRR⟩ (by dsimp only; omega) ⟨rfl, rfl, rfl, rfl, rfl, (some_int (by omega)), trivial⟩ (fun _ hm => hm.pick [] [0, 1] [0] rfl rfl)
  have hin : ¬ (((i : Nat) : Int) + 1 < ((sN : Nat) : Int)) := by simpa using hh
  clear hh
  refine gw_skip (nx_then (gw_region ?_))
  have hds := drop_none (l := SS) (i := i + 1) (by omega)
  rw [hds.1, hds.2] at hRR
  refine mv_ rfl ?_
  refine wl_ov (ov_loads rz61 rfl (fun _ hm => hm.blkI 0 rfl) rfl rfl) rfl ?_
  refine wl_buildSlice (e := 61) (cs := [.int .i64 s2, .int .i64 (-1), .string v1, .string ⟨#[]⟩]) rfl (by kernel_rfl) rfl fun g4 => ?_
  refine wl_append (news := [.int .i64 s2, .int .i64 (-1), .string v1, .string ⟨#[]⟩]) 0 0 ap49 rfl rfl rfl rfl rfl rfl rfl (by omega) (by unfold maxLen; omega) rfl rfl fun v2 hv2 => ?_
  refine wl_look (R := ∃ A cc, v2 = .slice A (k + 1) cc) (fun wx hm => own_slice (hm.ownI 0 rfl)) ?_
  rintro ⟨A3, c3, rfl⟩
  have hxs : ol.flatMap trEnc ++ ([.int .i64 s2, .int .i64 (-1), .string v1, .string ⟨#[]⟩] : List Value) = (ol ++ [(⟨s2, -1, v1, ⟨#[]⟩⟩ : Tr)]).flatMap trEnc := by simp [trEnc]
  rw [hxs]
  refine sg_ rfl (wl_nil (nx_blk_nrm (nx_then (gw_region (ad_ rfl rfl (mv_ rfl (wl_nil ?_)))))))
  exact nx_round (i + 1, k + 1, A3, c3, ol ++ [(⟨s2, -1, v1, ⟨#[]⟩⟩ : Tr)]) ⟨by dsimp only; omega, by dsimp only; omega, by simp [hol], by dsimp only; rw [hsp, List.append_assoc]; exact hRR⟩ (by dsimp only; omega) ⟨rfl, rfl, rfl, rfl, rfl, (some_int (by omega)), trivial⟩ (fun _ hm => hm.pick [] [0, 1] [0] rfl rfl)
 have hi : ¬ (((i : Nat) : Int) < ((sN : Nat) : Int)) := by simpa using hh
 clear hh
 refine gw_exit ?_
 refine nx_then_exit (nx_then_exit ?_)
 refine nx_blk_here ?_
 refine nx_then (sr_ ?_)
 have hall : ol = R := by rw [← hRR, List.drop_eq_nil_of_le (by omega)]; exact (List.append_nil _).symm
 refine mv_ rfl (sg_ rfl (nn_ ?_))
 refine gw_ret ?_
 refine nx_ret1 rfl rfl fun wx hm => ?_
 exact ⟨oA, k, oc, rfl, by rw [← hall]; exact SlT.ofOwn tr_len (hm.ownI 0 rfl) hol, hm.g⟩
def tpE (sl : List St) (cl : List Cs) (vl : List Vh) (pl : List Pl) (el : List Ev) (vk : ByteArray) : Int := firstE [evsE sl cl vl pl el, whenE (decide (ixP (vhP vk) vl 0 < 0)) 8]
theorem trips_any (sl : List St) (cl : List Cs) (vl : List Vh) (pl : List Pl) (sA cA vA pA : Option Addr) (sn sc cn cc vn vc pn pc : Nat) (el : List Ev) (eA : Option Addr) (en ec : Nat) (vk : ByteArray) (w : World) (hs : SlT stEnc 15 156 w sA sn sl) (hc : SlT csEnc 2 158 w cA cn cl) (hv : SlT vhEnc 2 69 w vA vn vl) (hp : SlT plEnc 3 164 w pA pn pl) (hsok : ∀ x ∈ sl, StOk x) (hcok : ∀ x ∈ cl, CsOk x) (hvok : ∀ x ∈ vl, VhOk x) (hpok : ∀ x ∈ pl, PlOk x) (hsn : sn ≤ 1000) (hcn : cn ≤ 1000) (hvn : vn ≤ 1000) (hpn : pn ≤ 1000) (hl : SlT evEnc 5 105 w eA en el) (heok : ∀ x ∈ el, EvOk x) (hen : en ≤ 100000) (hen2 : en ≤ 1000) :
  Calls Tryz.prog 15 #[.agg #[.slice sA sn sc, .slice cA cn cc, .slice vA vn vc, .slice pA pn pc], .slice eA en ec, .string vk] w (fun e w' => ∃ (A : Option Addr) (k c : Nat), e = .returned (.tuple #[.slice A k c, .int .i64 (tpE sl cl vl pl el vk)]) ∧ (tpE sl cl vl pl el vk = 0 → SlT trEnc 4 61 w' A k (tripsR el vk)) ∧ (tpE sl cl vl pl el vk ≠ 0 → A = none ∧ k = 0 ∧ c = 0) ∧ w.grownBy w' none) := by
 refine gw_enter ⟨79, w, none, []⟩ Tryz.func15 rfl Tryz.ntmps15 rfl (mem0 (X := [SlOld stEnc 15 156 w.heap.size none sA sn sl, SlOld csEnc 2 158 w.heap.size none cA cn cl, SlOld vhEnc 2 69 w.heap.size none vA vn vl, SlOld plEnc 3 164 w.heap.size none pA pn pl, SlOld evEnc 5 105 w.heap.size none eA en el]) (allF_cons hs.old (allF_cons hc.old (allF_cons hv.old (allF_cons hp.old (allF_cons hl.old allF_nil))))) (allL_cons SlOld.lasts (allL_cons SlOld.lasts (allL_cons SlOld.lasts (allL_cons SlOld.lasts (allL_cons SlOld.lasts allL_nil)))))) ?_
 refine sr_ ?_
 have hell := hl.len
 obtain ⟨FE, hFE⟩ : ∃ z, z = evsE sl cl vl pl el := ⟨_, rfl⟩
 obtain ⟨TE, hTE⟩ : ∃ z, z = tpE sl cl vl pl el vk := ⟨_, rfl⟩
 rw [← hTE]
 have hT0 : TE = firstE [FE, whenE (decide (ixP (vhP vk) vl 0 < 0)) 8] := by rw [hTE, hFE]; rfl
 obtain ⟨R, hR⟩ : ∃ z, z = tripsR el vk := ⟨_, rfl⟩
 rw [← hR]
 have hR0 : trP vk el sa0 [] = R := by rw [hR]; exact trips_eq el
 refine wl_box rfl rfl rfl fun g1 => ?_
 refine sg_ rfl (sg_ rfl (nn_ (gw_seq (sr_ ?_))))
 refine wl_ov (ov_loads rz31 rfl (fun _ hm => hm.blkI 0 rfl) rfl rfl) rfl ?_
 refine mv_ rfl ?_
 refine wl_callv (v := .int .i64 FE) rfl cb42 rfl rfl (fun wx hm => (by rw [hFE]; exact check2_any sl cl vl pl sA cA vA pA sn sc cn cc vn vc pn pc el eA en ec wx (hm.fact 0 rfl).1 (hm.fact 1 rfl).1 (hm.fact 2 rfl).1 (hm.fact 3 rfl).1 hsok hcok hvok hpok hsn hcn hvn hpn (hm.fact 4 rfl).1 heok (by omega))) ?_
 refine sg_ rfl (nn_ (sr_ (mv_ rfl (wl_ov (ov_neq rfl rfl) rfl (nn_ ?_)))))
 refine gw_cond rfl (fun hh => ?_) (fun hh => ?_)
 ·have h1 : ¬ (FE = 0) := by simpa using hh
  clear hh
  refine sr_ ?_
  have h2 : FE ≠ 0 := by simpa using h1
  have h3 : TE = FE := by rw [hT0]; exact fe_hd h2
  refine mv_ rfl (sg_ rfl (sg_ rfl (nn_ ?_)))
  refine gw_ret ?_
  refine nx_then_ret ?_
  refine nx_ret2 rfl rfl rfl fun wx hm => ?_
  exact ⟨none, 0, 0, by rw [h3], fun h => absurd h (by rw [h3]; exact h2), fun _ => ⟨rfl, rfl, rfl⟩, hm.g⟩
 have h1 : FE = 0 := by simpa using hh
 clear hh
 refine gw_skip (nx_then (gw_seq (sr_ ?_)))
 have h2 : FE = 0 := by simpa using h1
 have hrise : Rise vl := fleet_rise (evs_ok (hFE.symm.trans h2)).1
 have hT1 : TE = whenE (decide (ixP (vhP vk) vl 0 < 0)) 8 := by rw [hT0, h2]; exact fe_right
 refine wl_ov (ov_loads rz31 rfl (fun _ hm => hm.blkI 0 rfl) rfl rfl) rfl ?_
 refine mv_ rfl ?_
 refine wl_callv rfl cb68 rfl rfl (fun wx hm => (vehicleAt_any vl sA cA vA pA sn sc cn cc vn vc pn pc vk wx (hm.fact 2 rfl).1 (by omega) hrise)) ?_
 refine wl_ov (ov_lss rfl rfl) rfl (nn_ ?_)
 refine gw_cond rfl (fun hh => ?_) (fun hh => ?_)
 ·have h3 : ixP (vhP vk) vl 0 < 0 := by simpa using hh
  clear hh
  refine sr_ ?_
  have h4 : TE = 8 := by rw [hT1, decide_eq_true (show ixP (vhP vk) vl 0 < 0 by omega)]; rfl
  refine sg_ rfl (sg_ rfl (nn_ ?_))
  refine gw_ret ?_
  refine nx_then_ret ?_
  refine nx_ret2 rfl rfl rfl fun wx hm => ?_
  exact ⟨none, 0, 0, by rw [h4], fun h => absurd h (by rw [h4]; decide), fun _ => ⟨rfl, rfl, rfl⟩, hm.g⟩
 have h3 : ¬ (ixP (vhP vk) vl 0 < 0) := by simpa using hh
 clear hh
 refine gw_skip (nx_then (sr_ ?_))
 have h4 : TE = 0 := by rw [hT1, decide_eq_false (show ¬ ixP (vhP vk) vl 0 < 0 by omega)]; rfl
 refine wl_nilOwn 61 4 ?_
 refine sg_ rfl (nn_ (sr_ ?_))
 refine wl_alloc zc142 rfl fun g2 => ?_
 refine nn_ (gw_seq (sr_ (mv_ rfl (wl_ov (ov_len es32 rfl) rfl (mv_ rfl (nn_ (gw_block ?_)))))))
 refine gw_loop (γ := Nat × Int × ByteArray × Int × Nat × Option Addr × Nat × List Tr) (fun gg => gg.1 ≤ en ∧ gg.2.2.2.2.1 ≤ gg.1 ∧ gg.2.2.2.2.2.2.2.length = gg.2.2.2.2.1 ∧ trP vk (el.drop gg.1) ⟨gg.2.1, gg.2.2.1, gg.2.2.2.1⟩ gg.2.2.2.2.2.2.2 = R ∧ (gg.2.1 = 2 → 1 ≤ gg.2.2.2.2.1)) (fun gg => [(2, .string vk), (6, .slice none 0 0), (7, .int .i64 0), (9, .slice gg.2.2.2.2.2.1 gg.2.2.2.2.1 gg.2.2.2.2.2.2.1), (10, .pointer (some ⟨g2, 0, none⟩)), (26, .slice eA en ec), (27, .int .i64 ((en : Nat) : Int)), (28, .int .i64 ((gg.1 : Nat) : Int))]) (fun gg => fun _ => True) (fun gg => [(g2, 142, [.int .i64 gg.2.1, .string gg.2.2.1, .int .i64 gg.2.2.2.1]), (g1, 31, [.slice sA sn sc, .slice cA cn cc, .slice vA vn vc, .slice pA pn pc])]) (fun gg => [⟨.slice gg.2.2.2.2.2.1 gg.2.2.2.2.1 gg.2.2.2.2.2.2.1, 61, 4, gg.2.2.2.2.1, gg.2.2.2.2.2.2.2.flatMap trEnc⟩]) (fun gg => [SlOld stEnc 15 156 w.heap.size none sA sn sl, SlOld csEnc 2 158 w.heap.size none cA cn cl, SlOld vhEnc 2 69 w.heap.size none vA vn vl, SlOld plEnc 3 164 w.heap.size none pA pn pl, SlOld evEnc 5 105 w.heap.size none eA en el]) (fun gg => en - gg.1) (0, 0, ⟨#[]⟩, 0, 0, none, 0, []) ⟨Nat.zero_le _, Nat.le_refl _, rfl, hR0, (fun h => by cases h)⟩ ⟨rfl, rfl, rfl, rfl, rfl, rfl, rfl, rfl, trivial⟩ (fun _ hm => hm.pick [0, 1] [0] [0, 1, 2, 3, 4] rfl rfl) ?_
 rintro ⟨i, q0, q1, q2, k, oA, oc, ol⟩ hinv
 replace hinv : i ≤ en ∧ k ≤ i ∧ ol.length = k ∧ trP vk (el.drop i) ⟨q0, q1, q2⟩ ol = R ∧ (q0 = 2 → 1 ≤ k) := hinv
 dsimp only
 refine sr_ ?_
 obtain ⟨hi0, hki, hol, hRR, hq2⟩ := hinv
 refine wl_ov (ov_lss rfl rfl) rfl (nn_ (gw_seq ?_))
 refine gw_cond rfl (fun hh => ?_) (fun hh => ?_)
 ·have hi : ((i : Nat) : Int) < ((en : Nat) : Int) := by simpa using hh
  clear hh
  refine gw_skip (nx_then (gw_seq (gw_block (sr_ ?_))))
  obtain ⟨be, oe, hA, _, _⟩ := hl.get (by omega)
  subst hA
  obtain ⟨x, hx⟩ : ∃ x, el[i]? = some x := ⟨_, List.getElem?_eq_getElem (by omega)⟩
  obtain ⟨e0, e1, e2, e3, e4⟩ := x
  rw [trP_at hx] at hRR
  refine wl_ov (ov_index (j := i) es32 rfl rfl (by omega)) rfl ?_
  refine wl_ov (ov_elem (vs := [.int .i64 e0, .string e1, .string e2, .int .i64 e3, .string e4]) rz105 rfl (fun _ hm => (hm.fact 4 rfl).1) hx rfl rfl) rfl ?_
  refine wl_alloc zc105 rfl fun g3 => ?_
  refine wl_stores (cs' := [.int .i64 e0, .string e1, .string e2, .int .i64 e3, .string e4]) 0 rz105 rfl rfl rfl rfl rfl rfl rfl rfl ?_
  refine nn_ (gw_seq (sr_ (fd_ fo105_1 rfl rfl (lk_ sc9 0 rfl rfl rfl (mv_ rfl (wl_ov (ov_sneq rfl rfl) rfl (nn_ ?_)))))))
  refine gw_cond rfl (fun hh => ?_) (fun hh => ?_)
  ·have hv : (e1.toList == vk.toList) = false := by simpa using hh
   clear hh
   refine gw_exit ?_
   refine nx_then_exit ?_
   refine nx_blk_here ?_
   refine nx_then (gw_region ?_)
   rw [trP_skip hv] at hRR
   refine ad_ rfl rfl (mv_ rfl (wl_nil ?_))
   exact nx_round (i + 1, q0, q1, q2, k, oA, oc, ol) ⟨by dsimp only; omega, by dsimp only; omega, hol, hRR, hq2⟩ (by dsimp only; omega) ⟨rfl, rfl, rfl, rfl, rfl, rfl, rfl, (some_int (by omega)), trivial⟩ (fun _ hm => hm.pick [1, 2] [0] [0, 1, 2, 3, 4] rfl rfl)
  have hv : (e1.toList == vk.toList) = true := by simpa using hh
  clear hh
  refine gw_skip (nx_then (sr_ ?_))
  obtain ⟨T0, hT0⟩ : ∃ z, z = stepS ⟨q0, q1, q2⟩ (⟨e0, e1, e2, e3, e4⟩ : Ev) := ⟨_, rfl⟩
  obtain ⟨t0, t1, t2⟩ := T0
  refine wl_ov (ov_loads rz142 rfl (fun _ hm => hm.blkI 1 rfl) rfl rfl) rfl ?_
  refine wl_ov (ov_loads rz105 rfl (fun _ hm => hm.blkI 0 rfl) rfl rfl) rfl ?_
  refine wl_callv (v := .tuple #[.agg #[.int .i64 t0, .string t1, .int .i64 t2], .bool (goodB ⟨q0, q1, q2⟩ (⟨e0, e1, e2, e3, e4⟩ : Ev))]) rfl cb72 rfl rfl (fun wx hm => (by have h := follow_any q0 q1 q2 e0 e1 e2 e3 e4 wx; rw [← hT0] at h; exact h)) ?_
  refine mv_ rfl (wl_ov (ov_extract rfl rfl) rfl (wl_ov (ov_extract rfl rfl) rfl ?_))
  refine wl_alloc zc142 rfl fun g4 => ?_
  refine wl_stores (cs' := [.int .i64 t0, .string t1, .int .i64 t2]) 0 rz142 rfl rfl rfl rfl rfl rfl rfl rfl ?_
  refine sg_ rfl (nn_ (gw_seq (gw_block (sr_ (mv_ rfl (wl_ov (ov_un_not rfl) rfl (sg_ rfl (nn_ ?_))))))))
  refine gw_cond rfl (fun hh => ?_) (fun hh => ?_)
  ·have hg : (goodB ⟨q0, q1, q2⟩ (⟨e0, e1, e2, e3, e4⟩ : Ev)) = false := by simpa using hh
   clear hh
   refine gw_skip (nx_blk_nrm (nx_then (gw_region ?_)))
   rw [trP_bad hv hg, ← hT0] at hRR
   have hqq : t0 = 2 → 1 ≤ k := fun e => hq2 (by have h := hT0; unfold stepS at h; rw [if_neg (by rw [hg]; decide)] at h; injection h with h _ _; omega)
   refine wl_ov (ov_loads rz142 rfl (fun _ hm => hm.blkI 0 rfl) rfl rfl) rfl ?_
   refine wl_stores (cs' := [.int .i64 t0, .string t1, .int .i64 t2]) 2 rz142 rfl rfl rfl rfl rfl rfl rfl rfl ?_
   refine wl_nil (nx_blk_nrm (nx_then (gw_region (ad_ rfl rfl (mv_ rfl (wl_nil ?_))))))
   exact nx_round (i + 1, t0, t1, t2, k, oA, oc, ol) ⟨by dsimp only; omega, by dsimp only; omega, hol, hRR, hqq⟩ (by dsimp only; omega) ⟨rfl, rfl, rfl, rfl, rfl, rfl, rfl, (some_int (by omega)), trivial⟩ (fun _ hm => hm.pick [2, 3] [0] [0, 1, 2, 3, 4] rfl rfl)
  have hg : (goodB ⟨q0, q1, q2⟩ (⟨e0, e1, e2, e3, e4⟩ : Ev)) = true := by simpa using hh
  clear hh
  refine sr_ (fd_ fo105_3 rfl rfl (lk_ sc3 1 rfl rfl rfl (wl_ov (ov_eql rfl rfl) rfl (sg_ rfl (nn_ ?_)))))
  refine gw_cond rfl (fun hh => ?_) (fun hh => ?_)
  ·have hk2 : e3 = 2 := by simpa using hh
   clear hh
   refine gw_region ?_
   rw [trP_two hv hg (show e3 = 2 by omega), ← hT0] at hRR
   dsimp only at hRR
   refine mv_ rfl (fd_ fo105_0 rfl rfl (lk_ sc3 1 rfl rfl rfl (fd_ fo105_2 rfl rfl (lk_ sc9 1 rfl rfl rfl ?_))))
   refine wl_ov (ov_build (cs := [.int .i64 e0, .int .i64 (-1), .string e2, .string ⟨#[]⟩]) rfl (by kernel_rfl)) rfl ?_
   refine wl_buildSlice (e := 61) (cs := [.int .i64 e0, .int .i64 (-1), .string e2, .string ⟨#[]⟩]) rfl (by kernel_rfl) rfl fun g5 => ?_
   refine wl_append (news := [.int .i64 e0, .int .i64 (-1), .string e2, .string ⟨#[]⟩]) 0 0 ap49 rfl rfl rfl rfl rfl rfl rfl (by omega) (by unfold maxLen; omega) rfl rfl fun v2 hv2 => ?_
   refine wl_look (R := ∃ A cc, v2 = .slice A (k + 1) cc) (fun wx hm => own_slice (hm.ownI 0 rfl)) ?_
   rintro ⟨A3, c3, rfl⟩
   have hxs : ol.flatMap trEnc ++ ([.int .i64 e0, .int .i64 (-1), .string e2, .string ⟨#[]⟩] : List Value) = (ol ++ [(⟨e0, -1, e2, ⟨#[]⟩⟩ : Tr)]).flatMap trEnc := by simp [trEnc]
   rw [hxs]
   refine sg_ rfl (wl_nil (nx_blk_nrm (nx_then (gw_region ?_))))
   refine wl_ov (ov_loads rz142 rfl (fun _ hm => hm.blkI 1 rfl) rfl rfl) rfl ?_
   refine wl_stores (cs' := [.int .i64 t0, .string t1, .int .i64 t2]) 3 rz142 rfl rfl rfl rfl rfl rfl rfl rfl ?_
   refine wl_nil (nx_blk_nrm (nx_then (gw_region (ad_ rfl rfl (mv_ rfl (wl_nil ?_))))))
   exact nx_round (i + 1, t0, t1, t2, k + 1, A3, c3, ol ++ [(⟨e0, -1, e2, ⟨#[]⟩⟩ : Tr)]) ⟨by dsimp only; omega, by dsimp only; omega, by simp [hol], hRR, (fun _ => by dsimp only; omega)⟩ (by dsimp only; omega) ⟨rfl, rfl, rfl, rfl, rfl, rfl, rfl, (some_int (by omega)), trivial⟩ (fun _ hm => hm.pick [3, 4] [0] [0, 1, 2, 3, 4] rfl rfl)
  have hk2 : ¬ (e3 = 2) := by simpa using hh
  clear hh
  refine sr_ (fd_ fo105_3 rfl rfl (lk_ sc3 1 rfl rfl rfl (wl_ov (ov_eql rfl rfl) rfl (sg_ rfl (nn_ ?_)))))
  refine gw_cond rfl (fun hh => ?_) (fun hh => ?_)
  ·have hk3 : e3 = 3 := by simpa using hh
   clear hh
   refine sr_ ?_
   have hk1 : 1 ≤ k := hq2 (good_three hg (show e3 = 3 by omega)).1
   obtain ⟨rr, hlast⟩ : ∃ z, ol[k - 1]? = some z := ⟨_, List.getElem?_eq_getElem (by omega)⟩
   obtain ⟨r0, r1, r2, r3⟩ := rr
   rw [trP_three hv hg (show e3 = 3 by omega) (by rw [hol]; exact hlast), ← hT0, hol] at hRR
   dsimp only at hRR
   have hk2 : k - 1 < k := by omega
   refine wl_look (R := ∃ g, oA = some ⟨g, 0, none⟩) (fun wx hm => own_addr (hm.ownI 0 rfl) (by omega)) ?_
   rintro ⟨bo, rfl⟩
   refine mv_ rfl (mv_ rfl (wl_ov (ov_len es49 rfl) rfl ?_))
   refine wl_ov (ov_sub rfl rfl (by omega) (by omega)) rfl ?_
   refine wl_set 64 (v' := .int .i64 (((k - 1) : Nat) : Int)) rfl (congrArg (Value.int .i64) (by omega)) ?_
   refine wl_ov (ov_index (j := (k - 1)) es49 rfl rfl (by omega)) rfl ?_
   refine sg_ rfl (nn_ ?_)
   refine gd (fun wz => Blk wz g4 142 [.int .i64 t0, .string t1, .int .i64 t2] ∧ Blk wz g3 105 [.int .i64 e0, .string e1, .string e2, .int .i64 e3, .string e4] ∧ Blk wz g2 142 [.int .i64 q0, .string q1, .int .i64 q2] ∧ Blk wz g1 31 [.slice sA sn sc, .slice cA cn cc, .slice vA vn vc, .slice pA pn pc] ∧ (SlOld stEnc 15 156 w.heap.size none sA sn sl) wz ∧ (SlOld csEnc 2 158 w.heap.size none cA cn cl) wz ∧ (SlOld vhEnc 2 69 w.heap.size none vA vn vl) wz ∧ (SlOld plEnc 3 164 w.heap.size none pA pn pl) wz ∧ (SlOld evEnc 5 105 w.heap.size none (some ⟨be, oe, none⟩) en el) wz ∧ True) mixed (fun _ hm => ⟨hm.bl 0, hm.bl 1, hm.bl 2, hm.bl 3, hm.fa 0, hm.fa 1, hm.fa 2, hm.fa 3, hm.fa 4, trivial⟩) fun z => ?_
   refine wt 0 12 1 rfl z (ov_move rfl) ?_
   refine wt 1 12 3 rfl z (ov_move rfl) ?_
   refine wt 2 12 7 rfl z (ov_field fo105_0 rfl rfl) ?_
   refine wt 3 12 15 rfl z (ov_load sc3 rfl (fun _ hm => hm.2.1) rfl) ?_
   refine wt 4 12 31 rfl z (ov_field fo105_2 rfl rfl) ?_
   refine wt 5 12 63 rfl z (ov_load sc9 rfl (fun _ hm => hm.2.1) rfl) ?_
   refine wt 6 12 127 rfl z (ov_nilcheck rfl) ?_
   refine wt 7 12 255 rfl z (ov_field fo61_1 rfl rfl) ?_
   refine wa1 8 rfl ?_
   refine wl_storeE (l := ol) (j := (k - 1)) (r := 1) (el := ⟨r0, r1, r2, r3⟩) (el' := ⟨r0, e0, r2, r3⟩) 0 sc3 rfl rfl rfl rfl tr_len rfl hlast hol (by decide) rfl rfl ?_
   refine wl_nil ?_
   refine nw 12 511 (fun _ hm => ⟨hm.bl 0, hm.bl 1, hm.bl 2, hm.bl 3, hm.fa 0, hm.fa 1, hm.fa 2, hm.fa 3, hm.fa 4, trivial⟩) fun z => ?_
   refine wt 9 12 1023 rfl z (ov_nilcheck rfl) ?_
   refine wt 10 12 2047 rfl z (ov_field fo61_3 rfl rfl) ?_
   refine wa1 11 rfl ?_
   refine wl_storeE (l := (ol.set (k - 1) ⟨r0, e0, r2, r3⟩)) (j := (k - 1)) (r := 3) (el := ⟨r0, e0, r2, r3⟩) (el' := ⟨r0, e0, r2, e2⟩) 0 sc9 rfl rfl rfl rfl tr_len rfl (by rw [List.getElem?_set_self (by omega)]) (by rw [List.length_set]; exact hol) (by decide) rfl rfl ?_
   refine wl_nil ?_
   refine nw 12 4095 (fun _ hm => ⟨hm.bl 0, hm.bl 1, hm.bl 2, hm.bl 3, hm.fa 0, hm.fa 1, hm.fa 2, hm.fa 3, hm.fa 4, trivial⟩) fun z => ?_
   refine wa_done (by kernel_rfl) ?_
   refine nx_blk_nrm (nx_then (gw_region ?_))
   refine wl_ov (ov_loads rz142 rfl (fun _ hm => hm.blkI 0 rfl) rfl rfl) rfl ?_
   refine wl_stores (cs' := [.int .i64 t0, .string t1, .int .i64 t2]) 2 rz142 rfl rfl rfl rfl rfl rfl rfl rfl ?_
   refine wl_nil (nx_blk_nrm (nx_then (gw_region (ad_ rfl rfl (mv_ rfl (wl_nil ?_))))))
   have hss : ((ol.set (k - 1) ⟨r0, e0, r2, r3⟩).set (k - 1) ⟨r0, e0, r2, e2⟩).flatMap trEnc = (ol.set (k - 1) ⟨r0, e0, r2, e2⟩).flatMap trEnc := by rw [List.set_set]
   rw [hss]
   exact nx_round (i + 1, t0, t1, t2, k, some ⟨bo, 0, none⟩, oc, ol.set (k - 1) ⟨r0, e0, r2, e2⟩) ⟨by dsimp only; omega, by dsimp only; omega, by simp [hol], hRR, fun _ => hk1⟩ (by dsimp only; omega) ⟨rfl, rfl, rfl, rfl, rfl, rfl, rfl, (some_int (by omega)), trivial⟩ (fun _ hm => hm.pick [2, 3] [0] [0, 1, 2, 3, 4] rfl rfl)
  have hk3 : ¬ (e3 = 3) := by simpa using hh
  clear hh
  refine gw_skip (nx_blk_nrm (nx_then (gw_region ?_)))
  rw [trP_more hv hg (show e3 ≠ 2 by omega) (show e3 ≠ 3 by omega), ← hT0] at hRR
  have hqq : t0 = 2 → 1 ≤ k := fun e => by
   have h := (good_more hg (show e3 ≠ 2 by omega) (show e3 ≠ 3 by omega)).2
   rw [← step_good hg, ← hT0] at h
   exact absurd e h
  refine wl_ov (ov_loads rz142 rfl (fun _ hm => hm.blkI 0 rfl) rfl rfl) rfl ?_
  refine wl_stores (cs' := [.int .i64 t0, .string t1, .int .i64 t2]) 2 rz142 rfl rfl rfl rfl rfl rfl rfl rfl ?_
  refine wl_nil (nx_blk_nrm (nx_then (gw_region (ad_ rfl rfl (mv_ rfl (wl_nil ?_))))))
  exact nx_round (i + 1, t0, t1, t2, k, oA, oc, ol) ⟨by dsimp only; omega, by dsimp only; omega, hol, hRR, hqq⟩ (by dsimp only; omega) ⟨rfl, rfl, rfl, rfl, rfl, rfl, rfl, (some_int (by omega)), trivial⟩ (fun _ hm => hm.pick [2, 3] [0] [0, 1, 2, 3, 4] rfl rfl)
 have hi : ¬ (((i : Nat) : Int) < ((en : Nat) : Int)) := by simpa using hh
 clear hh
 refine gw_exit ?_
 refine nx_then_exit (nx_then_exit ?_)
 refine nx_blk_here ?_
 refine nx_then (sr_ ?_)
 have hall : ol = R := by rw [List.drop_eq_nil_of_le (by omega)] at hRR; exact hRR
 refine mv_ rfl (sg_ rfl (sg_ rfl (nn_ ?_)))
 refine gw_ret ?_
 refine nx_ret2 rfl rfl rfl fun wx hm => ?_
 exact ⟨oA, k, oc, by rw [h4], fun _ => by rw [← hall]; exact SlT.ofOwn tr_len (hm.ownI 0 rfl) hol, fun h => absurd h4 h, hm.g⟩
end Go.Proofs.YtdoooppeiphefaaGreatDoor
namespace Go.Proofs.YtdoooppeiphefaaGreatDoor
open Go.RowKit
def siE (sl : List St) (cl : List Cs) (vl : List Vh) (pl : List Pl) (el : List Ev) (vk : ByteArray) (a b : Int) : Int := firstE [evsE sl cl vl pl el, whenE (decide (ixP (vhP vk) vl 0 < 0)) 8, windowE a b]
theorem veh_at {vl : List Vh} {k : ByteArray} (h : 0 ≤ ixP (vhP k) vl 0) : ∃ (i : Nat) (y : Vh), vl[i]? = some y ∧ y.key = k := by
  obtain ⟨y, hy, hp⟩ := ixP_get h
  exact ⟨_, y, hy, bytes_eqb.1 hp⟩
theorem spentIn_any (sl : List St) (cl : List Cs) (vl : List Vh) (pl : List Pl) (sA cA vA pA : Option Addr) (sn sc cn cc vn vc pn pc : Nat) (el : List Ev) (eA : Option Addr) (en ec : Nat) (vk : ByteArray) (a b : Int) (w : World) (hs : SlT stEnc 15 156 w sA sn sl) (hc : SlT csEnc 2 158 w cA cn cl) (hv : SlT vhEnc 2 69 w vA vn vl) (hp : SlT plEnc 3 164 w pA pn pl) (hsok : ∀ x ∈ sl, StOk x) (hcok : ∀ x ∈ cl, CsOk x) (hvok : ∀ x ∈ vl, VhOk x) (hpok : ∀ x ∈ pl, PlOk x) (hsn : sn ≤ 1000) (hcn : cn ≤ 1000) (hvn : vn ≤ 1000) (hpn : pn ≤ 1000) (hl : SlT evEnc 5 105 w eA en el) (heok : ∀ x ∈ el, EvOk x) (hen : en ≤ 100000) (hen2 : en ≤ 1000) :
  Calls Tryz.prog 13 #[.agg #[.slice sA sn sc, .slice cA cn cc, .slice vA vn vc, .slice pA pn pc], .slice eA en ec, .string vk, .agg #[.int .i64 a, .int .i64 b]] w (fun e w' => (siE sl cl vl pl el vk a b = 0 → e = .returned (.tuple #[.agg #[.int .i64 (spT a b el vk 0), .int .i64 (spT a b el vk 1), .int .i64 (spT a b el vk 2), .int .i64 (spT a b el vk 3), .int .i64 (spT a b el vk 4), .int .i64 (spT a b el vk 5)], .int .i64 0])) ∧ (siE sl cl vl pl el vk a b ≠ 0 → e = .returned (.tuple #[.agg #[.int .i64 0, .int .i64 0, .int .i64 0, .int .i64 0, .int .i64 0, .int .i64 0], .int .i64 (siE sl cl vl pl el vk a b)])) ∧ w.grownBy w' none) := by
 refine gw_enter ⟨40, w, none, []⟩ Tryz.func13 rfl Tryz.ntmps13 rfl (mem0 (X := [SlOld stEnc 15 156 w.heap.size none sA sn sl, SlOld csEnc 2 158 w.heap.size none cA cn cl, SlOld vhEnc 2 69 w.heap.size none vA vn vl, SlOld plEnc 3 164 w.heap.size none pA pn pl, SlOld evEnc 5 105 w.heap.size none eA en el]) (allF_cons hs.old (allF_cons hc.old (allF_cons hv.old (allF_cons hp.old (allF_cons hl.old allF_nil))))) (allL_cons SlOld.lasts (allL_cons SlOld.lasts (allL_cons SlOld.lasts (allL_cons SlOld.lasts (allL_cons SlOld.lasts allL_nil)))))) ?_
 refine sr_ ?_
 obtain ⟨FE, hFE⟩ : ∃ z, z = evsE sl cl vl pl el := ⟨_, rfl⟩
 obtain ⟨TE, hTE⟩ : ∃ z, z = siE sl cl vl pl el vk a b := ⟨_, rfl⟩
 rw [← hTE]
 have hT0 : TE = firstE [FE, whenE (decide (ixP (vhP vk) vl 0 < 0)) 8, windowE a b] := by rw [hTE, hFE]; rfl
 refine wl_box rfl rfl rfl fun g1 => ?_
 refine wl_box rfl rfl rfl fun g2 => ?_
 refine wl_alloc zc42 rfl fun g3 => ?_
 refine sg_ rfl (nn_ (gw_seq (sr_ ?_)))
 refine wl_ov (ov_loads rz31 rfl (fun _ hm => hm.blkI 2 rfl) rfl rfl) rfl ?_
 refine mv_ rfl ?_
 refine wl_callv (v := .int .i64 FE) rfl cb42 rfl rfl (fun wx hm => (by rw [hFE]; exact check2_any sl cl vl pl sA cA vA pA sn sc cn cc vn vc pn pc el eA en ec wx (hm.fact 0 rfl).1 (hm.fact 1 rfl).1 (hm.fact 2 rfl).1 (hm.fact 3 rfl).1 hsok hcok hvok hpok hsn hcn hvn hpn (hm.fact 4 rfl).1 heok (by omega))) ?_
 refine sg_ rfl (nn_ (sr_ (mv_ rfl (wl_ov (ov_neq rfl rfl) rfl (nn_ ?_)))))
 refine gw_cond rfl (fun hh => ?_) (fun hh => ?_)
 ·have h1 : ¬ (FE = 0) := by simpa using hh
  clear hh
  refine sr_ ?_
  have h2 : FE ≠ 0 := by simpa using h1
  have h3 : TE = FE := by rw [hT0]; exact fe_hd h2
  refine wl_ov (ov_build (cs := [.int .i64 0, .int .i64 0, .int .i64 0, .int .i64 0, .int .i64 0, .int .i64 0]) rfl (by kernel_rfl)) rfl ?_
  refine mv_ rfl ?_
  refine wl_stores (cs' := [.int .i64 0, .int .i64 0, .int .i64 0, .int .i64 0, .int .i64 0, .int .i64 0]) 0 rz42 rfl rfl rfl rfl rfl rfl rfl rfl ?_
  refine sg_ rfl (nn_ ?_)
  refine gw_ret ?_
  refine nx_then_ret ?_
  refine nx_retct 0 rfl rz42 rfl rfl rfl rfl fun wx hm => ?_
  exact ⟨fun h => absurd h (by rw [h3]; exact h2), fun _ => by rw [h3], hm.g⟩
 have h1 : FE = 0 := by simpa using hh
 clear hh
 refine gw_skip (nx_then (gw_seq (gw_seq ?_)))
 have h2 : FE = 0 := by simpa using h1
 obtain ⟨hf0, hl0⟩ := evs_ok (hFE.symm.trans h2)
 obtain ⟨_, hfine, _⟩ := log_ok hl0
 have hrise : Rise vl := fleet_rise hf0
 have hT1 : TE = firstE [whenE (decide (ixP (vhP vk) vl 0 < 0)) 8, windowE a b] := by rw [hT0, h2]; exact fe_tl
 refine gd (fun wz => Blk wz g3 42 [.int .i64 0, .int .i64 0, .int .i64 0, .int .i64 0, .int .i64 0, .int .i64 0] ∧ Blk wz g2 39 [.int .i64 a, .int .i64 b] ∧ Blk wz g1 31 [.slice sA sn sc, .slice cA cn cc, .slice vA vn vc, .slice pA pn pc] ∧ (SlOld stEnc 15 156 w.heap.size none sA sn sl) wz ∧ (SlOld csEnc 2 158 w.heap.size none cA cn cl) wz ∧ (SlOld vhEnc 2 69 w.heap.size none vA vn vl) wz ∧ (SlOld plEnc 3 164 w.heap.size none pA pn pl) wz ∧ (SlOld evEnc 5 105 w.heap.size none eA en el) wz ∧ True) mixed (fun _ hm => ⟨hm.bl 0, hm.bl 1, hm.bl 2, hm.fa 0, hm.fa 1, hm.fa 2, hm.fa 3, hm.fa 4, trivial⟩) fun z => ?_
 refine wt 0 10 1 rfl z (ov_loads rz31 rfl (fun _ hm => hm.2.2.1) rfl rfl) ?_
 refine wt 1 10 3 rfl z (ov_move rfl) ?_
 refine wt 5 10 35 rfl z (ov_loads rz39 rfl (fun _ hm => hm.2.1) rfl rfl) ?_
 refine wa1 2 rfl ?_
 refine wl_callv rfl cb68 rfl rfl (fun wx hm => (vehicleAt_any vl sA cA vA pA sn sc cn cc vn vc pn pc vk wx (hm.fact 2 rfl).1 (by omega) hrise)) ?_
 refine wl_nil ?_
 refine nw 10 39 (fun _ hm => ⟨hm.bl 0, hm.bl 1, hm.bl 2, hm.fa 0, hm.fa 1, hm.fa 2, hm.fa 3, hm.fa 4, trivial⟩) fun z => ?_
 refine wt 3 10 47 rfl z (ov_lss rfl rfl) ?_
 refine wa1 4 rfl ?_
 refine wl_callw rfl cb67 rfl rfl (fun wx hm => (when_any _ _ wx)) ?_
 refine wl_nil ?_
 refine nw 10 63 (fun _ hm => ⟨hm.bl 0, hm.bl 1, hm.bl 2, hm.fa 0, hm.fa 1, hm.fa 2, hm.fa 3, hm.fa 4, trivial⟩) fun z => ?_
 refine wa1 6 rfl ?_
 refine wl_callv rfl cb69 rfl rfl (fun wx hm => (window_any _ _ wx)) ?_
 refine wl_nil ?_
 refine nw 10 127 (fun _ hm => ⟨hm.bl 0, hm.bl 1, hm.bl 2, hm.fa 0, hm.fa 1, hm.fa 2, hm.fa 3, hm.fa 4, trivial⟩) fun z => ?_
 refine wa1 7 rfl ?_
 refine wl_buildSlice (e := 33) (cs := [.int .i64 (whenE (decide (ixP (vhP vk) vl 0 < 0)) 8), .int .i64 (windowE a b)]) rfl (by kernel_rfl) rfl fun g4 => ?_
 refine wl_nil ?_
 refine nw 10 255 (fun _ hm => ⟨hm.bl 1, hm.bl 2, hm.bl 3, hm.fa 0, hm.fa 1, hm.fa 2, hm.fa 3, hm.fa 4, trivial⟩) fun z => ?_
 refine wa1 8 rfl ?_
 refine wl_callw rfl cb66 rfl rfl (fun wx hm => (first_any [whenE (decide (ixP (vhP vk) vl 0 < 0)) 8, windowE a b] _ _ _ wx (hm.blkI 0 rfl) (by simp))) ?_
 refine wl_nil ?_
 refine nw 10 511 (fun _ hm => ⟨hm.bl 1, hm.bl 2, hm.bl 3, hm.fa 0, hm.fa 1, hm.fa 2, hm.fa 3, hm.fa 4, trivial⟩) fun z => ?_
 refine wt 9 10 1023 rfl z (ov_assign rfl) ?_
 refine wa_done (by kernel_rfl) ?_
 refine nx_then (sr_ (mv_ rfl (wl_ov (ov_neq rfl rfl) rfl (nn_ ?_))))
 refine gw_cond rfl (fun hh => ?_) (fun hh => ?_)
 ·have h3 : ¬ (firstE [whenE (decide (ixP (vhP vk) vl 0 < 0)) 8, windowE a b] = 0) := by simpa using hh
  clear hh
  refine sr_ ?_
  have h4 : TE ≠ 0 := by rw [hT1]; simpa using h3
  refine wl_ov (ov_build (cs := [.int .i64 0, .int .i64 0, .int .i64 0, .int .i64 0, .int .i64 0, .int .i64 0]) rfl (by kernel_rfl)) rfl ?_
  refine mv_ rfl ?_
  refine wl_stores (cs' := [.int .i64 0, .int .i64 0, .int .i64 0, .int .i64 0, .int .i64 0, .int .i64 0]) 1 rz42 rfl rfl rfl rfl rfl rfl rfl rfl ?_
  refine sg_ rfl (nn_ ?_)
  refine gw_ret ?_
  refine nx_then_ret ?_
  refine nx_retct 1 rfl rz42 rfl rfl rfl rfl fun wx hm => ?_
  exact ⟨fun h => absurd h h4, fun _ => by rw [hT1], hm.g⟩
 have h3 : firstE [whenE (decide (ixP (vhP vk) vl 0 < 0)) 8, windowE a b] = 0 := by simpa using hh
 clear hh
 refine gw_skip (nx_then (sr_ ?_))
 have h4 : TE = 0 := by rw [hT1]; simpa using h3
 have hfa := fe_all (hT1.symm.trans h4)
 have hck := hfa (whenE (decide (ixP (vhP vk) vl 0 < 0)) 8) (by simp)
 have hix : 0 ≤ ixP (vhP vk) vl 0 := by
  by_cases h : ixP (vhP vk) vl 0 < 0
  ·rw [decide_eq_true h] at hck; cases hck
  omega
 obtain ⟨ha0, hab, hb0⟩ := windowE_ok (hfa (windowE a b) (by simp))
 obtain ⟨iv, yv, hyv, hyk⟩ := veh_at hix
 refine wl_ov (ov_loads rz31 rfl (fun _ hm => hm.blkI 3 rfl) rfl rfl) rfl ?_
 refine mv_ rfl ?_
 refine wl_ov (ov_loads rz39 rfl (fun _ hm => hm.blkI 2 rfl) rfl rfl) rfl ?_
 refine wl_callG (γ := Nat × PMap × (ByteArray → Int → Int) × Nat) (val := fun g => .map (some g.1)) (φ := fun g => g.2.1 vk = some (some g.2.2.2) ∧ ∀ j, g.2.2.1 vk j = spT a b el vk j) (K' := fun _ => (fun _ => True)) (L' := fun g => (g.2.2.2, 42, six (g.2.2.1 vk)) :: [(g4, 33, [.int .i64 (whenE (decide (ixP (vhP vk) vl 0 < 0)) 8), .int .i64 (windowE a b)]), (g3, 42, [.int .i64 0, .int .i64 0, .int .i64 0, .int .i64 0, .int .i64 0, .int .i64 0]), (g2, 39, [.int .i64 a, .int .i64 b]), (g1, 31, [.slice sA sn sc, .slice cA cn cc, .slice vA vn vc, .slice pA pn pc])]) (O' := fun _ => []) (X' := fun g => (MapF encP 0 g.1 g.2.1) :: [SlOld stEnc 15 156 w.heap.size none sA sn sl, SlOld csEnc 2 158 w.heap.size none cA cn cl, SlOld vhEnc 2 69 w.heap.size none vA vn vl, SlOld plEnc 3 164 w.heap.size none pA pn pl, SlOld evEnc 5 105 w.heap.size none eA en el]) rfl cb70 rfl rfl (fun wx hm => (spent_any vl sA cA vA pA sn sc cn cc vn vc pn pc el eA en ec a b wx (hm.fact 2 rfl).1 (hm.fact 4 rfl).1 heok (fun x hx => (hfine x hx).veh) hrise ha0 hab hb0 hen2 (by omega)).mono fun e w' ⟨m, p, H, he, hM, hF, hd, _, hs, hg⟩ => by
  obtain ⟨gv, hgv⟩ := hd iv yv hyv
  rw [hyk] at hgv
  have h1 := hF _ _ hgv
  exact ⟨(m, p, H, gv), he, ⟨hgv, fun j => by have h := hs iv yv hyv j; rw [hyk] at h; exact h⟩, ((hm.gain hg h1.1 h1.2).also MapF.lasts2 hM)⟩) ?_
 rintro ⟨m1, p, H, gv⟩ ⟨hgv, hHs⟩
 dsimp only at hgv hHs ⊢
 refine mv_ rfl ?_
 refine wl_ov (ov_lookF (enc := encP) (k := 9) (e := 137) none (by kernel_rfl) (by kernel_rfl) (by kernel_rfl) rfl rfl (fun _ hm => (hm.fact 0 rfl))) rfl ?_
 refine wl_set 37 (v' := .pointer (some ⟨gv, 0, none⟩)) rfl ((show encP ((p vk).getD none) = .pointer (some ⟨gv, 0, none⟩) by rw [hgv]; rfl)) ?_
 refine wl_ov (ov_nilcheck rfl) rfl ?_
 refine wl_ov (ov_loads rz42 rfl (fun _ hm => hm.blkI 0 rfl) rfl rfl) rfl ?_
 refine wl_stores (cs' := [.int .i64 (H vk 0), .int .i64 (H vk 1), .int .i64 (H vk 2), .int .i64 (H vk 3), .int .i64 (H vk 4), .int .i64 (H vk 5)]) 2 rz42 rfl rfl rfl rfl rfl rfl rfl rfl ?_
 refine sg_ rfl (nn_ ?_)
 refine gw_ret ?_
 refine nx_retct 2 rfl rz42 rfl rfl rfl rfl fun wx hm => ?_
 exact ⟨fun _ => by rw [hHs 0, hHs 1, hHs 2, hHs 3, hHs 4, hHs 5], fun h => absurd h4 h, hm.g⟩
end Go.Proofs.YtdoooppeiphefaaGreatDoor
namespace Go.Proofs.YtdoooppeiphefaaGreatDoor
open Go.RowKit
set_option maxRecDepth 100000 in
theorem same_trip_neq (x0 : Int) (x1 : Int) (x2 : ByteArray) (x3 : ByteArray) (w : World) : (binOp .neq 61 (.agg #[.int .i64 x0, .int .i64 x1, .string x2, .string x3]) (.agg #[.int .i64 x0, .int .i64 x1, .string x2, .string x3])).run Tryz.prog w = .ok (.bool false) w := by
  have hS : Tryz.prog.underlying 61 = some (.struct (Tryz.prog.fieldsOf 61)) := by kernel_rfl
  have hp : Tryz.prog.stoodInHeld 61 = false := by kernel_rfl
  rw [run_neq_struct, show (10000 : Nat) = 9999 + 1 from rfl, run_equalIn_agg w 9999 61 _ _ hS hp]
  simp only [Program.fieldsOf, Tryz.underlying61]
  have u3 := Tryz.underlying3
  have u9 := Tryz.underlying9
  clear hS hp
  go_simp
theorem guard_trip : Tryz.prog.eqGuardType Tryz.prog.depth 61 = false := by kernel_rfl
set_option maxRecDepth 100000 in
theorem same_spent_neq (x0 : Int) (x1 : Int) (x2 : Int) (x3 : Int) (x4 : Int) (x5 : Int) (w : World) : (binOp .neq 42 (.agg #[.int .i64 x0, .int .i64 x1, .int .i64 x2, .int .i64 x3, .int .i64 x4, .int .i64 x5]) (.agg #[.int .i64 x0, .int .i64 x1, .int .i64 x2, .int .i64 x3, .int .i64 x4, .int .i64 x5])).run Tryz.prog w = .ok (.bool false) w := by
  have hS : Tryz.prog.underlying 42 = some (.struct (Tryz.prog.fieldsOf 42)) := by kernel_rfl
  have hp : Tryz.prog.stoodInHeld 42 = false := by kernel_rfl
  rw [run_neq_struct, show (10000 : Nat) = 9999 + 1 from rfl, run_equalIn_agg w 9999 42 _ _ hS hp]
  simp only [Program.fieldsOf, Tryz.underlying42]
  have u3 := Tryz.underlying3
  have u9 := Tryz.underlying9
  clear hS hp
  go_simp
theorem guard_spent : Tryz.prog.eqGuardType Tryz.prog.depth 42 = false := by kernel_rfl
set_option maxRecDepth 100000 in
theorem same_frac_neq (x0 : Int) (x1 : Int) (w : World) : (binOp .neq 46 (.agg #[.int .i64 x0, .int .i64 x1]) (.agg #[.int .i64 x0, .int .i64 x1])).run Tryz.prog w = .ok (.bool false) w := by
  have hS : Tryz.prog.underlying 46 = some (.struct (Tryz.prog.fieldsOf 46)) := by kernel_rfl
  have hp : Tryz.prog.stoodInHeld 46 = false := by kernel_rfl
  rw [run_neq_struct, show (10000 : Nat) = 9999 + 1 from rfl, run_equalIn_agg w 9999 46 _ _ hS hp]
  simp only [Program.fieldsOf, Tryz.underlying46]
  have u3 := Tryz.underlying3
  have u9 := Tryz.underlying9
  clear hS hp
  go_simp
theorem guard_frac : Tryz.prog.eqGuardType Tryz.prog.depth 46 = false := by kernel_rfl
theorem equal_trips (l : List Tr) (A1 A2 : Option Addr) (n c1 c2 : Nat) (w : World) (h1 : SlT trEnc 4 61 w A1 n l) (h2 : SlT trEnc 4 61 w A2 n l) (hn : n ≤ 1000000) :
  Calls Tryz.prog 22 #[.slice A1 n c1, .slice A2 n c2] w (fun e w' => e = .returned (.bool true) ∧ w.grownBy w' none) := by
 refine gw_enter ⟨26, w, none, []⟩ Tryz.func22 rfl Tryz.ntmps22 rfl (mem0 (X := [SlOld trEnc 4 61 w.heap.size none A1 n l, SlOld trEnc 4 61 w.heap.size none A2 n l]) (allF_cons h1.old (allF_cons h2.old allF_nil)) (allL_cons SlOld.lasts (allL_cons SlOld.lasts allL_nil))) ?_
 refine sr_ ?_
 have hlen := h1.len
 refine sg_ rfl (nn_ (gw_seq (sr_ (mv_ rfl (wl_ov (ov_len es49 rfl) rfl (mv_ rfl (wl_ov (ov_len es49 rfl) rfl (wl_ov (ov_neq rfl rfl) rfl ?_))))))))
 refine wl_set 10 (v' := .bool false) rfl (congrArg Value.bool (by simp)) ?_
 refine nn_ (cf_ rfl (gw_skip (nx_then (gw_seq (sr_ (mv_ rfl (wl_ov (ov_len es49 rfl) rfl (mv_ rfl (nn_ (gw_block ?_))))))))))
 refine gw_loop (γ := Nat) (fun (k : Nat) => k ≤ n) (fun (k : Nat) => [(0, .slice A1 n c1), (1, .slice A2 n c2), (12, .int .i64 ((n : Nat) : Int)), (13, .int .i64 ((k : Nat) : Int))]) (fun (k : Nat) => fun _ => True) (fun (k : Nat) => []) (fun (k : Nat) => []) (fun (k : Nat) => [SlOld trEnc 4 61 w.heap.size none A1 n l, SlOld trEnc 4 61 w.heap.size none A2 n l]) (fun (k : Nat) => n - k) 0 (Nat.zero_le _) ⟨rfl, rfl, rfl, rfl, trivial⟩ (fun _ hm => hm.pick [] [] [0, 1] rfl rfl) ?_
 intro k hinv
 replace hinv : k ≤ n := hinv
 refine sr_ (wl_ov (ov_lss rfl rfl) rfl (nn_ (gw_seq ?_)))
 refine gw_cond rfl (fun hh => ?_) (fun hh => ?_)
 ·have hk : ((k : Nat) : Int) < ((n : Nat) : Int) := by simpa using hh
  clear hh
  refine gw_skip (nx_then (gw_seq (gw_block (sr_ ?_))))
  obtain ⟨b1, o1, hA, _, _⟩ := h1.get (by omega)
  subst hA
  obtain ⟨b2, o2, hA, _, _⟩ := h2.get (by omega)
  subst hA
  obtain ⟨x, hx⟩ : ∃ x, l[k]? = some x := ⟨_, List.getElem?_eq_getElem (by omega)⟩
  obtain ⟨r0, r1, r2, r3⟩ := x
  refine mv_ rfl (sg_ rfl (nn_ (gw_seq ?_)))
  refine gd (fun wz => (SlOld trEnc 4 61 w.heap.size none (some ⟨b1, o1, none⟩) n l) wz ∧ (SlOld trEnc 4 61 w.heap.size none (some ⟨b2, o2, none⟩) n l) wz ∧ True) mixed (fun _ hm => ⟨hm.fa 0, hm.fa 1, trivial⟩) fun z => ?_
  refine wt 0 9 1 rfl z (ov_move rfl) ?_
  refine wt 1 9 3 rfl z (ov_move rfl) ?_
  refine wt 2 9 7 rfl z (ov_index (j := k) es49 rfl rfl (by omega)) ?_
  refine wt 3 9 15 rfl z (ov_elem (vs := [.int .i64 r0, .int .i64 r1, .string r2, .string r3]) rz61 rfl (fun _ hm => (hm.1).1) hx rfl rfl) ?_
  refine wt 4 9 31 rfl z (ov_move rfl) ?_
  refine wt 5 9 63 rfl z (ov_move rfl) ?_
  refine wt 6 9 127 rfl z (ov_index (j := k) es49 rfl rfl (by omega)) ?_
  refine wt 7 9 255 rfl z (ov_elem (vs := [.int .i64 r0, .int .i64 r1, .string r2, .string r3]) rz61 rfl (fun _ hm => (hm.2.1).1) hx rfl rfl) ?_
  refine wt 8 9 511 rfl z (ov_bin rfl rfl (cmp_agg guard_trip (fun wx => same_trip_neq r0 r1 r2 r3 wx))) ?_
  refine wa_done (by kernel_rfl) ?_
  refine nx_then (cf_ rfl (gw_skip (nx_blk_nrm (nx_then (gw_region (ad_ rfl rfl (mv_ rfl (wl_nil ?_))))))))
  exact nx_round (k + 1) (by omega) (by omega) ⟨rfl, rfl, rfl, (some_int (by omega)), trivial⟩ (fun _ hm => hm.pick [] [] [0, 1] rfl rfl)
 have hk : ¬ (((k : Nat) : Int) < ((n : Nat) : Int)) := by simpa using hh
 clear hh
 refine gw_exit ?_
 refine nx_then_exit (nx_then_exit ?_)
 refine nx_blk_here ?_
 refine nx_then (sr_ (sg_ rfl (nn_ ?_)))
 refine gw_ret ?_
 refine nx_ret1 rfl rfl fun wx hm => ?_
 exact ⟨rfl, hm.g⟩
end Go.Proofs.YtdoooppeiphefaaGreatDoor
namespace Go.Proofs.YtdoooppeiphefaaGreatDoor
open Go.RowKit
def IfZ (E : Int) (P : Prop) : Prop := E = 0 → P
theorem IfZ.get {P : Prop} (h : IfZ 0 P) : P := h rfl
theorem Lasts2.ifz {N : Nat} {row : Option Nat} {Tt : List TypeId} {E : Int} {X : World → Prop} (h : Lasts2 N row Tt X) : Lasts2 N row Tt (fun w => IfZ E (X w)) :=
  ⟨fun w w' hg hx hc => h.gr w w' hg (hx hc), fun w w' r T cs h1 h2 h3 h4 hx hc => h.st w w' r T cs h1 h2 h3 h4 (hx hc)⟩
theorem use_two {n : Int} : (if n = 0 then (8 : Int) else 0) = whenE (!decide (n ≠ 0)) 8 := by
  by_cases h : n = 0
  · rw [if_pos h, decide_eq_false (fun e => e h)]; rfl
  · rw [if_neg h, decide_eq_true h]; rfl
theorem tripsR_len {el : List Ev} {v : ByteArray} : (tripsR el v).length ≤ el.length + 1 := by
  have h1 := trR_len (stages el v) ⟨#[]⟩
  have h2 : (stages el v).length ≤ el.length + 1 := Nat.succ_le_succ stgs_len
  unfold tripsR
  omega
theorem logTimes_walk (a0 : Option Addr) (len0 cap0 : Nat) (z0 : List Int) (w : World) (hR : RowIn w a0 len0 cap0 z0) :
  Calls Tryz.prog 3 #[.slice a0 len0 cap0] w fun e w' => e = .returned (.bool true) ∧ Below w.heap.size w w' := by
 refine gw_enter ⟨151, w, none, []⟩ Tryz.func3 rfl Tryz.ntmps3 rfl (mem0 (X := []) allF_nil allL_nil) ?_
 refine sr_ (sg_ rfl (nn_ (sr_ (mv_ rfl ?_))))
 refine wl_ov (ov_build (cs := [.slice a0 len0 cap0, .int .i64 0]) rfl (by kernel_rfl)) rfl ?_
 refine wl_box rfl rfl rfl fun sb => ?_
 refine sg_ rfl (nn_ (sr_ (mv_ rfl (mv_ rfl ?_))))
 refine wl_law [156, 158, 69, 164, 105] hR 0 rfl fun w1 B hg1 hsb => ?_
 refine wl_got (γ := Int) (val := fun v => .int .i64 v) (φ := fun v => 0 ≤ v ∧ (v ≤ 14 ∨ v = 0)) rfl cb10 rfl rfl rfl rfl (fun wx hm => (range_any _ _ wx B sb _ hm.k (by omega) (by omega) (by omega) (by omega) (by omega))) fun v1 hv1 => ?_
 obtain ⟨q, hq⟩ := Int.eq_ofNat_of_zero_le (show 0 ≤ v1 by omega)
 have hq20 : q ≤ 20 := by omega
 subst hq
 refine wl_calls (γ := Option Addr × Option Addr × Option Addr × Option Addr × Nat × Nat × Nat × Nat × Nat × Nat × Nat × List St × List Cs × List Vh × List Pl × Option Addr × Nat × Nat × List Ev) (val := (fun g => .tuple #[.agg #[.slice g.1 g.2.2.2.2.1 g.2.2.2.2.2.1, .slice g.2.1 4 g.2.2.2.2.2.2.1, .slice g.2.2.1 g.2.2.2.2.2.2.2.1 g.2.2.2.2.2.2.2.2.1, .slice g.2.2.2.1 g.2.2.2.2.2.2.2.2.2.1 g.2.2.2.2.2.2.2.2.2.2.1], .slice g.2.2.2.2.2.2.2.2.2.2.2.2.2.2.2.1 g.2.2.2.2.2.2.2.2.2.2.2.2.2.2.2.2.1 g.2.2.2.2.2.2.2.2.2.2.2.2.2.2.2.2.2.1, .int .i64 (evsE g.2.2.2.2.2.2.2.2.2.2.2.1 g.2.2.2.2.2.2.2.2.2.2.2.2.1 g.2.2.2.2.2.2.2.2.2.2.2.2.2.1 g.2.2.2.2.2.2.2.2.2.2.2.2.2.2.1 g.2.2.2.2.2.2.2.2.2.2.2.2.2.2.2.2.2.2)])) (φ := (fun g => (FlOk g.2.2.2.2.2.2.2.2.2.2.2.1 g.2.2.2.2.2.2.2.2.2.2.2.2.1 g.2.2.2.2.2.2.2.2.2.2.2.2.2.1 g.2.2.2.2.2.2.2.2.2.2.2.2.2.2.1 g.2.2.2.2.1 g.2.2.2.2.2.2.2.1 g.2.2.2.2.2.2.2.2.2.1 ∧ ShapeA g.2.2.2.1 g.2.2.2.2.2.2.2.2.2.1 g.2.2.2.2.2.2.2.2.2.2.1 ∧ g.2.2.2.2.2.2.2.2.2.1 ≤ g.2.2.2.2.2.2.2.2.2.2.1) ∧ (g.2.2.2.2.2.2.2.2.2.2.2.2.2.2.2.2.2.2.length = g.2.2.2.2.2.2.2.2.2.2.2.2.2.2.2.2.1 ∧ (∀ x ∈ g.2.2.2.2.2.2.2.2.2.2.2.2.2.2.2.2.2.2, EvOk x) ∧ g.2.2.2.2.2.2.2.2.2.2.2.2.2.2.2.2.1 ≤ q) ∧ ShapeA g.2.2.2.2.2.2.2.2.2.2.2.2.2.2.2.1 g.2.2.2.2.2.2.2.2.2.2.2.2.2.2.2.2.1 g.2.2.2.2.2.2.2.2.2.2.2.2.2.2.2.2.2.1 ∧ g.2.2.2.2.2.2.2.2.2.2.2.2.2.2.2.2.1 ≤ g.2.2.2.2.2.2.2.2.2.2.2.2.2.2.2.2.2.1)) (Y := (fun g => fun wy => SlT stEnc 15 156 wy g.1 g.2.2.2.2.1 g.2.2.2.2.2.2.2.2.2.2.2.1 ∧ SlT csEnc 2 158 wy g.2.1 4 g.2.2.2.2.2.2.2.2.2.2.2.2.1 ∧ SlT vhEnc 2 69 wy g.2.2.1 g.2.2.2.2.2.2.2.1 g.2.2.2.2.2.2.2.2.2.2.2.2.2.1 ∧ SlT plEnc 3 164 wy g.2.2.2.1 g.2.2.2.2.2.2.2.2.2.1 g.2.2.2.2.2.2.2.2.2.2.2.2.2.2.1 ∧ SlT evEnc 5 105 wy g.2.2.2.2.2.2.2.2.2.2.2.2.2.2.2.1 g.2.2.2.2.2.2.2.2.2.2.2.2.2.2.2.2.1 g.2.2.2.2.2.2.2.2.2.2.2.2.2.2.2.2.2.2)) (m' := 0 + 2000) rfl cb9 rfl rfl rfl rfl (fun wx hm => (scene_any q wx B sb _ hm.k (by omega) (by omega)).mono fun _ _ ⟨sA, cA, vA, pA, sn, sc, cc, vn, vc, pn, pc, sl, cl, vl, pl, eA, en, ec, el, he, hok, hel, hS, hg, ho, h1, h2, h3, h4⟩ => ⟨(sA, cA, vA, pA, sn, sc, cc, vn, vc, pn, pc, sl, cl, vl, pl, eA, en, ec, el), he, ⟨hok, hel, own_shape ho, own_cap ho⟩, hS.more (by omega), hg, h1, h2, h3, h4, SlT.ofOwn ev_len ho hel.1⟩) (fun _ => (SlT.lasts2 rfl).and_ ((SlT.lasts2 rfl).and_ ((SlT.lasts2 rfl).and_ ((SlT.lasts2 rfl).and_ (SlT.lasts2 rfl))))) ?_
 rintro ⟨sA, cA, vA, pA, sn, sc, cc, vn, vc, pn, pc, sl, cl, vl, pl, eA, en, ec, el⟩ hsc
 dsimp only at hsc ⊢
 obtain ⟨⟨⟨⟨hsok, hsn10⟩, hcok, ⟨hvB, hvn10⟩, hpB, hpn10⟩, hsh, hpnc⟩, ⟨hell, heok, henq⟩, hesh, henc⟩ := hsc
 have hvok : ∀ x ∈ vl, VhOk x := fun x hx => vhB_ok (hvB x hx)
 have hpok : ∀ x ∈ pl, PlOk x := fun x hx => plB_ok (hpB x hx)
 refine mv_ rfl (wl_ov (ov_extract rfl rfl) rfl (wl_ov (ov_extract rfl rfl) rfl (wl_ov (ov_extract rfl rfl) rfl ?_)))
 refine wl_alloc zc31 rfl fun g2 => ?_
 refine wl_stores (cs' := [.slice sA sn sc, .slice cA 4 cc, .slice vA vn vc, .slice pA pn pc]) 0 rz31 rfl rfl rfl rfl rfl rfl rfl rfl ?_
 refine sg_ rfl (sg_ rfl (nn_ (sr_ (mv_ rfl ?_))))
 refine wl_calls (γ := ByteArray) (val := (fun g => .string g)) (φ := (fun g => g.size ≤ 100)) (Y := (fun g => fun _ => True)) (m' := 0 + 2000 + 1) rfl cb11 rfl rfl rfl rfl (fun wx hm => (gvehicleKey_any wx B sb _ hm.k (by omega)).mono fun _ _ ⟨v, he, hv, hS, hg⟩ => ⟨v, he, hv, hS, hg, trivial⟩) (fun _ => Lasts2.true_) ?_
 rintro kv hkv
 refine mv_ rfl ?_
 refine wl_calls (γ := Int × Int) (val := (fun g => .agg #[.int .i64 g.1, .int .i64 g.2])) (φ := (fun g => (-2000000000000000 ≤ g.1 ∧ g.1 ≤ 2000000000000000) ∧ (-2000000000000000 ≤ g.2 ∧ g.2 ≤ 2000000000000000))) (Y := (fun g => fun _ => True)) (m' := 0 + 2000 + 1 + 20) rfl cb12 rfl rfl rfl rfl (fun wx hm => (gwindow_any wx B sb _ hm.k (by omega)).mono fun _ _ ⟨a, b, he, h1, h2, hS, hg⟩ => ⟨(a, b), he, ⟨h1, h2⟩, hS, hg, trivial⟩) (fun _ => Lasts2.true_) ?_
 rintro ⟨a, b⟩ hwin
 dsimp only at hwin ⊢
 refine wl_alloc zc39 rfl fun g5 => ?_
 refine sg_ rfl ?_
 refine wl_stores (cs' := [.int .i64 a, .int .i64 b]) 0 rz39 rfl rfl rfl rfl rfl rfl rfl rfl ?_
 refine nn_ (sr_ ?_)
 refine wl_ov (ov_loads rz31 rfl (fun _ hm => hm.blkI 1 rfl) rfl rfl) rfl ?_
 refine mv_ rfl (mv_ rfl ?_)
 refine wl_ov (ov_loads rz39 rfl (fun _ hm => hm.blkI 0 rfl) rfl rfl) rfl ?_
 refine wl_nest none [61] fun w2 hm_w2 => ⟨_, _, _, _, mem0 (X := [BlkOld w2.heap.size none g5 39 [.int .i64 a, .int .i64 b], BlkOld w2.heap.size none g2 31 [.slice sA sn sc, .slice cA 4 cc, .slice vA vn vc, .slice pA pn pc], SlOld stEnc 15 156 w2.heap.size none sA sn sl, SlOld csEnc 2 158 w2.heap.size none cA 4 cl, SlOld vhEnc 2 69 w2.heap.size none vA vn vl, SlOld plEnc 3 164 w2.heap.size none pA pn pl, SlOld evEnc 5 105 w2.heap.size none eA en el]) (allF_cons (hm_w2.blkI 0 rfl).old (allF_cons (hm_w2.blkI 1 rfl).old (allF_cons (SlT.old (hm_w2.fact 2 rfl).1) (allF_cons (SlT.old (hm_w2.fact 2 rfl).2.1) (allF_cons (SlT.old (hm_w2.fact 2 rfl).2.2.1) (allF_cons (SlT.old (hm_w2.fact 2 rfl).2.2.2.1) (allF_cons (SlT.old (hm_w2.fact 2 rfl).2.2.2.2) allF_nil))))))) (allL_cons BlkOld.lasts (allL_cons BlkOld.lasts (allL_cons SlOld.lasts (allL_cons SlOld.lasts (allL_cons SlOld.lasts (allL_cons SlOld.lasts (allL_cons SlOld.lasts allL_nil))))))), ?_⟩
 obtain ⟨FE, hFE⟩ : ∃ z, z = evsE sl cl vl pl el := ⟨_, rfl⟩
 obtain ⟨E1, hE1⟩ : ∃ z, z = siE sl cl vl pl el kv a b := ⟨_, rfl⟩
 obtain ⟨E2, hE2⟩ : ∃ z, z = usE sl cl vl pl el a b := ⟨_, rfl⟩
 obtain ⟨E3, hE3⟩ : ∃ z, z = tpE sl cl vl pl el kv := ⟨_, rfl⟩
 have hone : E1 = firstE [FE, whenE (decide (ixP (vhP kv) vl 0 < 0)) 8, windowE a b] := by rw [hE1, hFE]; rfl
 have htwo : E2 = firstE [FE, windowE a b] := by rw [hE2, hFE]; rfl
 have hthree : E3 = firstE [FE, whenE (decide (ixP (vhP kv) vl 0 < 0)) 8] := by rw [hE3, hFE]; rfl
 rw [← hFE]
 refine wl_callx (γ := Int × Int × Int × Int × Int × Int) (val := (fun g => .tuple #[.agg #[.int .i64 g.1, .int .i64 g.2.1, .int .i64 g.2.2.1, .int .i64 g.2.2.2.1, .int .i64 g.2.2.2.2.1, .int .i64 g.2.2.2.2.2], .int .i64 E1])) (φ := (fun g => (E1 = 0 → g.1 = spT a b el kv 0 ∧ g.2.1 = spT a b el kv 1 ∧ g.2.2.1 = spT a b el kv 2 ∧ g.2.2.2.1 = spT a b el kv 3 ∧ g.2.2.2.2.1 = spT a b el kv 4 ∧ g.2.2.2.2.2 = spT a b el kv 5) ∧ (E1 ≠ 0 → g.1 = 0 ∧ g.2.1 = 0 ∧ g.2.2.1 = 0 ∧ g.2.2.2.1 = 0 ∧ g.2.2.2.2.1 = 0 ∧ g.2.2.2.2.2 = 0))) (Y := (fun g => fun _ => True)) rfl cb13 rfl rfl (fun wx hm => (by have h := spentIn_any sl cl vl pl sA cA vA pA sn sc 4 cc vn vc pn pc el eA en ec kv a b wx (hm.fact 2 rfl).1 (hm.fact 3 rfl).1 (hm.fact 4 rfl).1 (hm.fact 5 rfl).1 hsok hcok hvok hpok (by omega) (by omega) (by omega) (by omega) (hm.fact 6 rfl).1 heok (by omega) (by omega); rw [← hE1] at h; refine h.mono ?_; rintro e w3 ⟨h1, h2, hg⟩; by_cases h0 : E1 = 0; exact ⟨(spT a b el kv 0, spT a b el kv 1, spT a b el kv 2, spT a b el kv 3, spT a b el kv 4, spT a b el kv 5), (h1 h0).trans (by rw [h0]), ⟨fun _ => ⟨rfl, rfl, rfl, rfl, rfl, rfl⟩, fun h => absurd h0 h⟩, hg, trivial⟩; exact ⟨(0, 0, 0, 0, 0, 0), h2 h0, ⟨fun h => absurd h h0, fun _ => ⟨rfl, rfl, rfl, rfl, rfl, rfl⟩⟩, hg, trivial⟩)) (fun _ => Lasts2.true_) ?_
 rintro ⟨q0, q1, q2, q3, q4, q5⟩ hsi
 dsimp only at hsi ⊢
 refine mv_ rfl (wl_ov (ov_extract rfl rfl) rfl (wl_ov (ov_extract rfl rfl) rfl ?_))
 refine wl_alloc zc42 rfl fun g7 => ?_
 refine wl_stores (cs' := [.int .i64 q0, .int .i64 q1, .int .i64 q2, .int .i64 q3, .int .i64 q4, .int .i64 q5]) 0 rz42 rfl rfl rfl rfl rfl rfl rfl rfl ?_
 refine sg_ rfl (nn_ (sr_ ?_))
 refine wl_ov (ov_loads (vs := [.slice sA sn sc, .slice cA 4 cc, .slice vA vn vc, .slice pA pn pc]) rz31 rfl (fun _ hm => (hm.fact 2 rfl).2) rfl rfl) rfl ?_
 refine mv_ rfl ?_
 refine wl_ov (ov_loads (vs := [.int .i64 a, .int .i64 b]) rz39 rfl (fun _ hm => (hm.fact 1 rfl).2) rfl rfl) rfl ?_
 refine wl_callx (γ := Int × Int × Int) (val := (fun g => .tuple #[.agg #[.int .i64 g.1, .int .i64 g.2.1], .int .i64 g.2.2])) (φ := (fun g => (E2 = 0 → g.1 = (useN a b el vl).num ∧ g.2.1 = (useN a b el vl).den ∧ g.2.2 = if useA a b el vl = 0 then 8 else 0) ∧ (E2 ≠ 0 → g.1 = 0 ∧ g.2.1 = 0 ∧ g.2.2 = E2))) (Y := (fun g => fun _ => True)) rfl cb14 rfl rfl (fun wx hm => (by have h := use_any sl cl vl pl sA cA vA pA sn sc 4 cc vn vc pn pc el eA en ec a b wx (hm.fact 3 rfl).1 (hm.fact 4 rfl).1 (hm.fact 5 rfl).1 (hm.fact 6 rfl).1 hsok hcok hvok hpok (by omega) (by omega) (by omega) (by omega) (hm.fact 7 rfl).1 heok (by omega) (by omega); rw [← hE2] at h; refine h.mono ?_; rintro e w3 ⟨h1, h2, hg⟩; by_cases h0 : E2 = 0; exact ⟨((useN a b el vl).num, (useN a b el vl).den, if useA a b el vl = 0 then 8 else 0), h1 h0, ⟨fun _ => ⟨rfl, rfl, rfl⟩, fun h => absurd h0 h⟩, hg, trivial⟩; exact ⟨(0, 0, E2), h2 h0, ⟨fun h => absurd h h0, fun _ => ⟨rfl, rfl, rfl⟩⟩, hg, trivial⟩)) (fun _ => Lasts2.true_) ?_
 rintro ⟨u0, u1, u2⟩ hus
 dsimp only at hus ⊢
 refine mv_ rfl (wl_ov (ov_extract rfl rfl) rfl (wl_ov (ov_extract rfl rfl) rfl ?_))
 refine wl_alloc zc46 rfl fun g9 => ?_
 refine wl_stores (cs' := [.int .i64 u0, .int .i64 u1]) 0 rz46 rfl rfl rfl rfl rfl rfl rfl rfl ?_
 refine sg_ rfl (nn_ (sr_ ?_))
 refine wl_ov (ov_loads (vs := [.slice sA sn sc, .slice cA 4 cc, .slice vA vn vc, .slice pA pn pc]) rz31 rfl (fun _ hm => (hm.fact 3 rfl).2) rfl rfl) rfl ?_
 refine mv_ rfl (mv_ rfl ?_)
 refine wl_callx (γ := Option Addr × Nat × Nat) (val := (fun g => .tuple #[.slice g.1 g.2.1 g.2.2, .int .i64 E3])) (φ := (fun g => E3 ≠ 0 → g.1 = none ∧ g.2.1 = 0 ∧ g.2.2 = 0)) (Y := (fun g => fun wy => IfZ E3 (SlT trEnc 4 61 wy g.1 g.2.1 (tripsR el kv)))) rfl cb15 rfl rfl (fun wx hm => (by have h := trips_any sl cl vl pl sA cA vA pA sn sc 4 cc vn vc pn pc el eA en ec kv wx (hm.fact 4 rfl).1 (hm.fact 5 rfl).1 (hm.fact 6 rfl).1 (hm.fact 7 rfl).1 hsok hcok hvok hpok (by omega) (by omega) (by omega) (by omega) (hm.fact 8 rfl).1 heok (by omega) (by omega); rw [← hE3] at h; exact h.mono fun _ _ ⟨A, k, c, he, h1, h2, hg⟩ => ⟨(A, k, c), he, h2, hg, h1⟩)) (fun _ => (SlT.lasts2 rfl).ifz) ?_
 rintro ⟨tA, tk, tc⟩ htp
 dsimp only at htp ⊢
 refine mv_ rfl (wl_ov (ov_extract rfl rfl) rfl (wl_ov (ov_extract rfl rfl) rfl (sg_ rfl (sg_ rfl (nn_ (sr_ ?_))))))
 refine wl_ov (ov_loads (vs := [.slice sA sn sc, .slice cA 4 cc, .slice vA vn vc, .slice pA pn pc]) rz31 rfl (fun _ hm => (hm.fact 4 rfl).2) rfl rfl) rfl ?_
 refine mv_ rfl ?_
 refine wl_callv rfl cb17 rfl rfl (fun wx hm => (rVehicleAt_any vl sA cA vA pA sn sc 4 cc vn vc pn pc kv wx (hm.fact 7 rfl).1 (by omega))) ?_
 refine wl_ov (ov_lss rfl rfl) rfl ?_
 refine wl_callw rfl cb16 rfl rfl (fun wx hm => (rwhen_any _ _ wx)) ?_
 refine sg_ rfl (nn_ ?_)
 refine gw_cut (γ := Unit) (I := (fun (uu : Unit) => True)) (S' := (fun (uu : Unit) => [(2, .bool false), (4, .pointer (some ⟨g2, 0, none⟩)), (5, .slice eA en ec), (7, .string kv), (8, .pointer (some ⟨g5, 0, none⟩)), (9, .pointer (some ⟨g7, 0, none⟩)), (10, .int .i64 E1), (11, .pointer (some ⟨g9, 0, none⟩)), (12, .int .i64 u2), (13, .slice tA tk tc), (14, .int .i64 E3), (16, .int .i64 E1), (17, .int .i64 E2), (18, .int .i64 E3)])) (K' := (fun (uu : Unit) => fun _ => True)) (L' := (fun (uu : Unit) => [(g9, 46, [.int .i64 u0, .int .i64 u1]), (g7, 42, [.int .i64 q0, .int .i64 q1, .int .i64 q2, .int .i64 q3, .int .i64 q4, .int .i64 q5])])) (O' := (fun (uu : Unit) => [])) (X' := (fun (uu : Unit) => [fun wy => IfZ E3 (SlT trEnc 4 61 wy tA tk (tripsR el kv)), fun _ => True, fun _ => True, BlkOld w2.heap.size none g5 39 [.int .i64 a, .int .i64 b], BlkOld w2.heap.size none g2 31 [.slice sA sn sc, .slice cA 4 cc, .slice vA vn vc, .slice pA pn pc], SlOld stEnc 15 156 w2.heap.size none sA sn sl, SlOld csEnc 2 158 w2.heap.size none cA 4 cl, SlOld vhEnc 2 69 w2.heap.size none vA vn vl, SlOld plEnc 3 164 w2.heap.size none pA pn pl, SlOld evEnc 5 105 w2.heap.size none eA en el])) ?_ ?_
 ·refine gd (fun wz => Blk wz g9 46 [.int .i64 u0, .int .i64 u1] ∧ Blk wz g7 42 [.int .i64 q0, .int .i64 q1, .int .i64 q2, .int .i64 q3, .int .i64 q4, .int .i64 q5] ∧ (fun wy => IfZ E3 (SlT trEnc 4 61 wy tA tk (tripsR el kv))) wz ∧ (fun _ => True) wz ∧ (fun _ => True) wz ∧ (BlkOld w2.heap.size none g5 39 [.int .i64 a, .int .i64 b]) wz ∧ (BlkOld w2.heap.size none g2 31 [.slice sA sn sc, .slice cA 4 cc, .slice vA vn vc, .slice pA pn pc]) wz ∧ (SlOld stEnc 15 156 w2.heap.size none sA sn sl) wz ∧ (SlOld csEnc 2 158 w2.heap.size none cA 4 cl) wz ∧ (SlOld vhEnc 2 69 w2.heap.size none vA vn vl) wz ∧ (SlOld plEnc 3 164 w2.heap.size none pA pn pl) wz ∧ (SlOld evEnc 5 105 w2.heap.size none eA en el) wz ∧ True) mixed (fun _ hm => ⟨hm.bl 0, hm.bl 1, hm.fa 0, hm.fa 1, hm.fa 2, hm.fa 3, hm.fa 4, hm.fa 5, hm.fa 6, hm.fa 7, hm.fa 8, hm.fa 9, trivial⟩) fun z => ?_
  refine wt 0 18 1 rfl z (ov_move rfl) ?_
  refine wt 1 18 3 rfl z (ov_move rfl) ?_
  refine wt 2 18 7 rfl z (ov_loads (vs := [.int .i64 a, .int .i64 b]) rz39 rfl (fun _ hm => (hm.2.2.2.2.2.1).2) rfl rfl) ?_
  refine wt 6 18 71 rfl z (ov_move rfl) ?_
  refine wt 7 18 199 rfl z (ov_loads (vs := [.int .i64 a, .int .i64 b]) rz39 rfl (fun _ hm => (hm.2.2.2.2.2.1).2) rfl rfl) ?_
  refine wt 11 18 2247 rfl z (ov_move rfl) ?_
  refine wt 12 18 6343 rfl z (ov_move rfl) ?_
  refine wa_all [3, 13] (by kernel_rfl) rfl ⟨⟨_, rfl, ?_⟩, ⟨_, rfl, ?_⟩, trivial⟩
  ·refine wl_callv rfl cb19 rfl rfl (fun wx hm => (windowFault_any _ _ wx)) ?_
   refine wl_nil ?_
   refine nw 18 6351 (fun _ hm => ⟨hm.bl 0, hm.bl 1, hm.fa 0, hm.fa 1, hm.fa 2, hm.fa 3, hm.fa 4, hm.fa 5, hm.fa 6, hm.fa 7, hm.fa 8, hm.fa 9, trivial⟩) fun z => ?_
   refine wa_all [4, 13] (by kernel_rfl) rfl ⟨⟨_, rfl, ?_⟩, ⟨_, rfl, ?_⟩, trivial⟩
   ·refine wl_buildSlice (e := 33) (cs := [.int .i64 FE, .int .i64 (whenE (decide (ixP (vhP kv) vl 0 < 0)) 8), .int .i64 (windowE a b)]) rfl (by kernel_rfl) rfl fun g10 => ?_
    refine wl_nil ?_
    refine nw 18 6367 (fun _ hm => ⟨hm.bl 1, hm.bl 2, hm.fa 0, hm.fa 1, hm.fa 2, hm.fa 3, hm.fa 4, hm.fa 5, hm.fa 6, hm.fa 7, hm.fa 8, hm.fa 9, trivial⟩) fun z => ?_
    refine wa_all [5, 13] (by kernel_rfl) rfl ⟨⟨_, rfl, ?_⟩, ⟨_, rfl, ?_⟩, trivial⟩
    ·refine wl_callw (v := .int .i64 E1) rfl cb18 rfl rfl (fun wx hm => (by have h := errs_any [FE, whenE (decide (ixP (vhP kv) vl 0 < 0)) 8, windowE a b] g10 3 _ wx (hm.blkI 0 rfl) (by simp); rw [← hone] at h; exact h)) ?_
     refine wl_nil ?_
     refine nw 18 6399 (fun _ hm => ⟨hm.bl 1, hm.bl 2, hm.fa 0, hm.fa 1, hm.fa 2, hm.fa 3, hm.fa 4, hm.fa 5, hm.fa 6, hm.fa 7, hm.fa 8, hm.fa 9, trivial⟩) fun z => ?_
     refine wa_all [8, 13] (by kernel_rfl) rfl ⟨⟨_, rfl, ?_⟩, ⟨_, rfl, ?_⟩, trivial⟩
     ·refine wl_callv rfl cb19 rfl rfl (fun wx hm => (windowFault_any _ _ wx)) ?_
      refine wl_nil ?_
      refine nw 18 6655 (fun _ hm => ⟨hm.bl 1, hm.bl 2, hm.fa 0, hm.fa 1, hm.fa 2, hm.fa 3, hm.fa 4, hm.fa 5, hm.fa 6, hm.fa 7, hm.fa 8, hm.fa 9, trivial⟩) fun z => ?_
      refine wa_all [9, 13] (by kernel_rfl) rfl ⟨⟨_, rfl, ?_⟩, ⟨_, rfl, ?_⟩, trivial⟩
      ·refine wl_buildSlice (e := 33) (cs := [.int .i64 FE, .int .i64 (windowE a b)]) rfl (by kernel_rfl) rfl fun g11 => ?_
       refine wl_nil ?_
       refine nw 18 7167 (fun _ hm => ⟨hm.bl 2, hm.bl 3, hm.fa 0, hm.fa 1, hm.fa 2, hm.fa 3, hm.fa 4, hm.fa 5, hm.fa 6, hm.fa 7, hm.fa 8, hm.fa 9, trivial⟩) fun z => ?_
       refine wa_all [10, 13] (by kernel_rfl) rfl ⟨⟨_, rfl, ?_⟩, ⟨_, rfl, ?_⟩, trivial⟩
       ·refine wl_callw (v := .int .i64 E2) rfl cb18 rfl rfl (fun wx hm => (by have h := errs_any [FE, windowE a b] g11 2 _ wx (hm.blkI 0 rfl) (by simp); rw [← htwo] at h; exact h)) ?_
        refine wl_nil ?_
        refine nw 18 8191 (fun _ hm => ⟨hm.bl 2, hm.bl 3, hm.fa 0, hm.fa 1, hm.fa 2, hm.fa 3, hm.fa 4, hm.fa 5, hm.fa 6, hm.fa 7, hm.fa 8, hm.fa 9, trivial⟩) fun z => ?_
        refine wa1 13 rfl ?_
        refine wl_buildSlice (e := 33) (cs := [.int .i64 FE, .int .i64 (whenE (decide (ixP (vhP kv) vl 0 < 0)) 8)]) rfl (by kernel_rfl) rfl fun g12 => ?_
        refine wl_nil ?_
        refine nw 18 16383 (fun _ hm => ⟨hm.bl 3, hm.bl 4, hm.fa 0, hm.fa 1, hm.fa 2, hm.fa 3, hm.fa 4, hm.fa 5, hm.fa 6, hm.fa 7, hm.fa 8, hm.fa 9, trivial⟩) fun z => ?_
        refine wa1 14 rfl ?_
        refine wl_callw (v := .int .i64 E3) rfl cb18 rfl rfl (fun wx hm => (by have h := errs_any [FE, whenE (decide (ixP (vhP kv) vl 0 < 0)) 8] g12 2 _ wx (hm.blkI 0 rfl) (by simp); rw [← hthree] at h; exact h)) ?_
        refine wl_nil ?_
        refine nw 18 32767 (fun _ hm => ⟨hm.bl 3, hm.bl 4, hm.fa 0, hm.fa 1, hm.fa 2, hm.fa 3, hm.fa 4, hm.fa 5, hm.fa 6, hm.fa 7, hm.fa 8, hm.fa 9, trivial⟩) fun z => ?_
        refine wt 15 18 65535 rfl z (ov_assign rfl) ?_
        refine wt 16 18 131071 rfl z (ov_assign rfl) ?_
        refine wt 17 18 262143 rfl z (ov_assign rfl) ?_
        refine wa_done (by kernel_rfl) ?_
        exact nx_meet () trivial ⟨rfl, rfl, rfl, rfl, rfl, rfl, rfl, rfl, rfl, rfl, rfl, rfl, rfl, rfl, trivial⟩ (fun _ hm => hm.pick [3, 4] [] [0, 1, 2, 3, 4, 5, 6, 7, 8, 9] rfl rfl)
       refine wl_buildSlice (e := 33) (cs := [.int .i64 FE, .int .i64 (whenE (decide (ixP (vhP kv) vl 0 < 0)) 8)]) rfl (by kernel_rfl) rfl fun g13 => ?_
       refine wl_nil ?_
       refine nw 18 15359 (fun _ hm => ⟨hm.bl 3, hm.bl 4, hm.fa 0, hm.fa 1, hm.fa 2, hm.fa 3, hm.fa 4, hm.fa 5, hm.fa 6, hm.fa 7, hm.fa 8, hm.fa 9, trivial⟩) fun z => ?_
       refine wa1 10 rfl ?_
       refine wl_callw (v := .int .i64 E2) rfl cb18 rfl rfl (fun wx hm => (by have h := errs_any [FE, windowE a b] g11 2 _ wx (hm.blkI 1 rfl) (by simp); rw [← htwo] at h; exact h)) ?_
       refine wl_nil ?_
       refine nw 18 16383 (fun _ hm => ⟨hm.bl 3, hm.bl 4, hm.fa 0, hm.fa 1, hm.fa 2, hm.fa 3, hm.fa 4, hm.fa 5, hm.fa 6, hm.fa 7, hm.fa 8, hm.fa 9, trivial⟩) fun z => ?_
       refine wa1 14 rfl ?_
       refine wl_callw (v := .int .i64 E3) rfl cb18 rfl rfl (fun wx hm => (by have h := errs_any [FE, whenE (decide (ixP (vhP kv) vl 0 < 0)) 8] g13 2 _ wx (hm.blkI 0 rfl) (by simp); rw [← hthree] at h; exact h)) ?_
       refine wl_nil ?_
       refine nw 18 32767 (fun _ hm => ⟨hm.bl 3, hm.bl 4, hm.fa 0, hm.fa 1, hm.fa 2, hm.fa 3, hm.fa 4, hm.fa 5, hm.fa 6, hm.fa 7, hm.fa 8, hm.fa 9, trivial⟩) fun z => ?_
       refine wt 15 18 65535 rfl z (ov_assign rfl) ?_
       refine wt 16 18 131071 rfl z (ov_assign rfl) ?_
       refine wt 17 18 262143 rfl z (ov_assign rfl) ?_
       refine wa_done (by kernel_rfl) ?_
       exact nx_meet () trivial ⟨rfl, rfl, rfl, rfl, rfl, rfl, rfl, rfl, rfl, rfl, rfl, rfl, rfl, rfl, trivial⟩ (fun _ hm => hm.pick [3, 4] [] [0, 1, 2, 3, 4, 5, 6, 7, 8, 9] rfl rfl)
      refine wl_buildSlice (e := 33) (cs := [.int .i64 FE, .int .i64 (whenE (decide (ixP (vhP kv) vl 0 < 0)) 8)]) rfl (by kernel_rfl) rfl fun g14 => ?_
      refine wl_nil ?_
      refine nw 18 14847 (fun _ hm => ⟨hm.bl 2, hm.bl 3, hm.fa 0, hm.fa 1, hm.fa 2, hm.fa 3, hm.fa 4, hm.fa 5, hm.fa 6, hm.fa 7, hm.fa 8, hm.fa 9, trivial⟩) fun z => ?_
      refine wa1 9 rfl ?_
      refine wl_buildSlice (e := 33) (cs := [.int .i64 FE, .int .i64 (windowE a b)]) rfl (by kernel_rfl) rfl fun g15 => ?_
      refine wl_nil ?_
      refine nw 18 15359 (fun _ hm => ⟨hm.bl 3, hm.bl 4, hm.fa 0, hm.fa 1, hm.fa 2, hm.fa 3, hm.fa 4, hm.fa 5, hm.fa 6, hm.fa 7, hm.fa 8, hm.fa 9, trivial⟩) fun z => ?_
      refine wa1 10 rfl ?_
      refine wl_callw (v := .int .i64 E2) rfl cb18 rfl rfl (fun wx hm => (by have h := errs_any [FE, windowE a b] g15 2 _ wx (hm.blkI 0 rfl) (by simp); rw [← htwo] at h; exact h)) ?_
      refine wl_nil ?_
      refine nw 18 16383 (fun _ hm => ⟨hm.bl 3, hm.bl 4, hm.fa 0, hm.fa 1, hm.fa 2, hm.fa 3, hm.fa 4, hm.fa 5, hm.fa 6, hm.fa 7, hm.fa 8, hm.fa 9, trivial⟩) fun z => ?_
      refine wa1 14 rfl ?_
      refine wl_callw (v := .int .i64 E3) rfl cb18 rfl rfl (fun wx hm => (by have h := errs_any [FE, whenE (decide (ixP (vhP kv) vl 0 < 0)) 8] g14 2 _ wx (hm.blkI 1 rfl) (by simp); rw [← hthree] at h; exact h)) ?_
      refine wl_nil ?_
      refine nw 18 32767 (fun _ hm => ⟨hm.bl 3, hm.bl 4, hm.fa 0, hm.fa 1, hm.fa 2, hm.fa 3, hm.fa 4, hm.fa 5, hm.fa 6, hm.fa 7, hm.fa 8, hm.fa 9, trivial⟩) fun z => ?_
      refine wt 15 18 65535 rfl z (ov_assign rfl) ?_
      refine wt 16 18 131071 rfl z (ov_assign rfl) ?_
      refine wt 17 18 262143 rfl z (ov_assign rfl) ?_
      refine wa_done (by kernel_rfl) ?_
      exact nx_meet () trivial ⟨rfl, rfl, rfl, rfl, rfl, rfl, rfl, rfl, rfl, rfl, rfl, rfl, rfl, rfl, trivial⟩ (fun _ hm => hm.pick [3, 4] [] [0, 1, 2, 3, 4, 5, 6, 7, 8, 9] rfl rfl)
     refine wl_buildSlice (e := 33) (cs := [.int .i64 FE, .int .i64 (whenE (decide (ixP (vhP kv) vl 0 < 0)) 8)]) rfl (by kernel_rfl) rfl fun g16 => ?_
     refine wl_nil ?_
     refine nw 18 14591 (fun _ hm => ⟨hm.bl 2, hm.bl 3, hm.fa 0, hm.fa 1, hm.fa 2, hm.fa 3, hm.fa 4, hm.fa 5, hm.fa 6, hm.fa 7, hm.fa 8, hm.fa 9, trivial⟩) fun z => ?_
     refine wa1 8 rfl ?_
     refine wl_callv rfl cb19 rfl rfl (fun wx hm => (windowFault_any _ _ wx)) ?_
     refine wl_nil ?_
     refine nw 18 14847 (fun _ hm => ⟨hm.bl 2, hm.bl 3, hm.fa 0, hm.fa 1, hm.fa 2, hm.fa 3, hm.fa 4, hm.fa 5, hm.fa 6, hm.fa 7, hm.fa 8, hm.fa 9, trivial⟩) fun z => ?_
     refine wa1 9 rfl ?_
     refine wl_buildSlice (e := 33) (cs := [.int .i64 FE, .int .i64 (windowE a b)]) rfl (by kernel_rfl) rfl fun g17 => ?_
     refine wl_nil ?_
     refine nw 18 15359 (fun _ hm => ⟨hm.bl 3, hm.bl 4, hm.fa 0, hm.fa 1, hm.fa 2, hm.fa 3, hm.fa 4, hm.fa 5, hm.fa 6, hm.fa 7, hm.fa 8, hm.fa 9, trivial⟩) fun z => ?_
     refine wa1 10 rfl ?_
     refine wl_callw (v := .int .i64 E2) rfl cb18 rfl rfl (fun wx hm => (by have h := errs_any [FE, windowE a b] g17 2 _ wx (hm.blkI 0 rfl) (by simp); rw [← htwo] at h; exact h)) ?_
     refine wl_nil ?_
     refine nw 18 16383 (fun _ hm => ⟨hm.bl 3, hm.bl 4, hm.fa 0, hm.fa 1, hm.fa 2, hm.fa 3, hm.fa 4, hm.fa 5, hm.fa 6, hm.fa 7, hm.fa 8, hm.fa 9, trivial⟩) fun z => ?_
     refine wa1 14 rfl ?_
     refine wl_callw (v := .int .i64 E3) rfl cb18 rfl rfl (fun wx hm => (by have h := errs_any [FE, whenE (decide (ixP (vhP kv) vl 0 < 0)) 8] g16 2 _ wx (hm.blkI 1 rfl) (by simp); rw [← hthree] at h; exact h)) ?_
     refine wl_nil ?_
     refine nw 18 32767 (fun _ hm => ⟨hm.bl 3, hm.bl 4, hm.fa 0, hm.fa 1, hm.fa 2, hm.fa 3, hm.fa 4, hm.fa 5, hm.fa 6, hm.fa 7, hm.fa 8, hm.fa 9, trivial⟩) fun z => ?_
     refine wt 15 18 65535 rfl z (ov_assign rfl) ?_
     refine wt 16 18 131071 rfl z (ov_assign rfl) ?_
     refine wt 17 18 262143 rfl z (ov_assign rfl) ?_
     refine wa_done (by kernel_rfl) ?_
     exact nx_meet () trivial ⟨rfl, rfl, rfl, rfl, rfl, rfl, rfl, rfl, rfl, rfl, rfl, rfl, rfl, rfl, trivial⟩ (fun _ hm => hm.pick [3, 4] [] [0, 1, 2, 3, 4, 5, 6, 7, 8, 9] rfl rfl)
    refine wl_buildSlice (e := 33) (cs := [.int .i64 FE, .int .i64 (whenE (decide (ixP (vhP kv) vl 0 < 0)) 8)]) rfl (by kernel_rfl) rfl fun g18 => ?_
    refine wl_nil ?_
    refine nw 18 14559 (fun _ hm => ⟨hm.bl 2, hm.bl 3, hm.fa 0, hm.fa 1, hm.fa 2, hm.fa 3, hm.fa 4, hm.fa 5, hm.fa 6, hm.fa 7, hm.fa 8, hm.fa 9, trivial⟩) fun z => ?_
    refine wa1 5 rfl ?_
    refine wl_callw (v := .int .i64 E1) rfl cb18 rfl rfl (fun wx hm => (by have h := errs_any [FE, whenE (decide (ixP (vhP kv) vl 0 < 0)) 8, windowE a b] g10 3 _ wx (hm.blkI 1 rfl) (by simp); rw [← hone] at h; exact h)) ?_
    refine wl_nil ?_
    refine nw 18 14591 (fun _ hm => ⟨hm.bl 2, hm.bl 3, hm.fa 0, hm.fa 1, hm.fa 2, hm.fa 3, hm.fa 4, hm.fa 5, hm.fa 6, hm.fa 7, hm.fa 8, hm.fa 9, trivial⟩) fun z => ?_
    refine wa1 8 rfl ?_
    refine wl_callv rfl cb19 rfl rfl (fun wx hm => (windowFault_any _ _ wx)) ?_
    refine wl_nil ?_
    refine nw 18 14847 (fun _ hm => ⟨hm.bl 2, hm.bl 3, hm.fa 0, hm.fa 1, hm.fa 2, hm.fa 3, hm.fa 4, hm.fa 5, hm.fa 6, hm.fa 7, hm.fa 8, hm.fa 9, trivial⟩) fun z => ?_
    refine wa1 9 rfl ?_
    refine wl_buildSlice (e := 33) (cs := [.int .i64 FE, .int .i64 (windowE a b)]) rfl (by kernel_rfl) rfl fun g19 => ?_
    refine wl_nil ?_
    refine nw 18 15359 (fun _ hm => ⟨hm.bl 3, hm.bl 4, hm.fa 0, hm.fa 1, hm.fa 2, hm.fa 3, hm.fa 4, hm.fa 5, hm.fa 6, hm.fa 7, hm.fa 8, hm.fa 9, trivial⟩) fun z => ?_
    refine wa1 10 rfl ?_
    refine wl_callw (v := .int .i64 E2) rfl cb18 rfl rfl (fun wx hm => (by have h := errs_any [FE, windowE a b] g19 2 _ wx (hm.blkI 0 rfl) (by simp); rw [← htwo] at h; exact h)) ?_
    refine wl_nil ?_
    refine nw 18 16383 (fun _ hm => ⟨hm.bl 3, hm.bl 4, hm.fa 0, hm.fa 1, hm.fa 2, hm.fa 3, hm.fa 4, hm.fa 5, hm.fa 6, hm.fa 7, hm.fa 8, hm.fa 9, trivial⟩) fun z => ?_
    refine wa1 14 rfl ?_
    refine wl_callw (v := .int .i64 E3) rfl cb18 rfl rfl (fun wx hm => (by have h := errs_any [FE, whenE (decide (ixP (vhP kv) vl 0 < 0)) 8] g18 2 _ wx (hm.blkI 1 rfl) (by simp); rw [← hthree] at h; exact h)) ?_
    refine wl_nil ?_
    refine nw 18 32767 (fun _ hm => ⟨hm.bl 3, hm.bl 4, hm.fa 0, hm.fa 1, hm.fa 2, hm.fa 3, hm.fa 4, hm.fa 5, hm.fa 6, hm.fa 7, hm.fa 8, hm.fa 9, trivial⟩) fun z => ?_
    refine wt 15 18 65535 rfl z (ov_assign rfl) ?_
    refine wt 16 18 131071 rfl z (ov_assign rfl) ?_
    refine wt 17 18 262143 rfl z (ov_assign rfl) ?_
    refine wa_done (by kernel_rfl) ?_
    exact nx_meet () trivial ⟨rfl, rfl, rfl, rfl, rfl, rfl, rfl, rfl, rfl, rfl, rfl, rfl, rfl, rfl, trivial⟩ (fun _ hm => hm.pick [3, 4] [] [0, 1, 2, 3, 4, 5, 6, 7, 8, 9] rfl rfl)
   refine wl_buildSlice (e := 33) (cs := [.int .i64 FE, .int .i64 (whenE (decide (ixP (vhP kv) vl 0 < 0)) 8)]) rfl (by kernel_rfl) rfl fun g20 => ?_
   refine wl_nil ?_
   refine nw 18 14543 (fun _ hm => ⟨hm.bl 1, hm.bl 2, hm.fa 0, hm.fa 1, hm.fa 2, hm.fa 3, hm.fa 4, hm.fa 5, hm.fa 6, hm.fa 7, hm.fa 8, hm.fa 9, trivial⟩) fun z => ?_
   refine wa1 4 rfl ?_
   refine wl_buildSlice (e := 33) (cs := [.int .i64 FE, .int .i64 (whenE (decide (ixP (vhP kv) vl 0 < 0)) 8), .int .i64 (windowE a b)]) rfl (by kernel_rfl) rfl fun g21 => ?_
   refine wl_nil ?_
   refine nw 18 14559 (fun _ hm => ⟨hm.bl 2, hm.bl 3, hm.fa 0, hm.fa 1, hm.fa 2, hm.fa 3, hm.fa 4, hm.fa 5, hm.fa 6, hm.fa 7, hm.fa 8, hm.fa 9, trivial⟩) fun z => ?_
   refine wa1 5 rfl ?_
   refine wl_callw (v := .int .i64 E1) rfl cb18 rfl rfl (fun wx hm => (by have h := errs_any [FE, whenE (decide (ixP (vhP kv) vl 0 < 0)) 8, windowE a b] g21 3 _ wx (hm.blkI 0 rfl) (by simp); rw [← hone] at h; exact h)) ?_
   refine wl_nil ?_
   refine nw 18 14591 (fun _ hm => ⟨hm.bl 2, hm.bl 3, hm.fa 0, hm.fa 1, hm.fa 2, hm.fa 3, hm.fa 4, hm.fa 5, hm.fa 6, hm.fa 7, hm.fa 8, hm.fa 9, trivial⟩) fun z => ?_
   refine wa1 8 rfl ?_
   refine wl_callv rfl cb19 rfl rfl (fun wx hm => (windowFault_any _ _ wx)) ?_
   refine wl_nil ?_
   refine nw 18 14847 (fun _ hm => ⟨hm.bl 2, hm.bl 3, hm.fa 0, hm.fa 1, hm.fa 2, hm.fa 3, hm.fa 4, hm.fa 5, hm.fa 6, hm.fa 7, hm.fa 8, hm.fa 9, trivial⟩) fun z => ?_
   refine wa1 9 rfl ?_
   refine wl_buildSlice (e := 33) (cs := [.int .i64 FE, .int .i64 (windowE a b)]) rfl (by kernel_rfl) rfl fun g22 => ?_
   refine wl_nil ?_
   refine nw 18 15359 (fun _ hm => ⟨hm.bl 3, hm.bl 4, hm.fa 0, hm.fa 1, hm.fa 2, hm.fa 3, hm.fa 4, hm.fa 5, hm.fa 6, hm.fa 7, hm.fa 8, hm.fa 9, trivial⟩) fun z => ?_
   refine wa1 10 rfl ?_
   refine wl_callw (v := .int .i64 E2) rfl cb18 rfl rfl (fun wx hm => (by have h := errs_any [FE, windowE a b] g22 2 _ wx (hm.blkI 0 rfl) (by simp); rw [← htwo] at h; exact h)) ?_
   refine wl_nil ?_
   refine nw 18 16383 (fun _ hm => ⟨hm.bl 3, hm.bl 4, hm.fa 0, hm.fa 1, hm.fa 2, hm.fa 3, hm.fa 4, hm.fa 5, hm.fa 6, hm.fa 7, hm.fa 8, hm.fa 9, trivial⟩) fun z => ?_
   refine wa1 14 rfl ?_
   refine wl_callw (v := .int .i64 E3) rfl cb18 rfl rfl (fun wx hm => (by have h := errs_any [FE, whenE (decide (ixP (vhP kv) vl 0 < 0)) 8] g20 2 _ wx (hm.blkI 2 rfl) (by simp); rw [← hthree] at h; exact h)) ?_
   refine wl_nil ?_
   refine nw 18 32767 (fun _ hm => ⟨hm.bl 3, hm.bl 4, hm.fa 0, hm.fa 1, hm.fa 2, hm.fa 3, hm.fa 4, hm.fa 5, hm.fa 6, hm.fa 7, hm.fa 8, hm.fa 9, trivial⟩) fun z => ?_
   refine wt 15 18 65535 rfl z (ov_assign rfl) ?_
   refine wt 16 18 131071 rfl z (ov_assign rfl) ?_
   refine wt 17 18 262143 rfl z (ov_assign rfl) ?_
   refine wa_done (by kernel_rfl) ?_
   exact nx_meet () trivial ⟨rfl, rfl, rfl, rfl, rfl, rfl, rfl, rfl, rfl, rfl, rfl, rfl, rfl, rfl, trivial⟩ (fun _ hm => hm.pick [3, 4] [] [0, 1, 2, 3, 4, 5, 6, 7, 8, 9] rfl rfl)
  refine wl_buildSlice (e := 33) (cs := [.int .i64 FE, .int .i64 (whenE (decide (ixP (vhP kv) vl 0 < 0)) 8)]) rfl (by kernel_rfl) rfl fun g23 => ?_
  refine wl_nil ?_
  refine nw 18 14535 (fun _ hm => ⟨hm.bl 1, hm.bl 2, hm.fa 0, hm.fa 1, hm.fa 2, hm.fa 3, hm.fa 4, hm.fa 5, hm.fa 6, hm.fa 7, hm.fa 8, hm.fa 9, trivial⟩) fun z => ?_
  refine wa1 3 rfl ?_
  refine wl_callv rfl cb19 rfl rfl (fun wx hm => (windowFault_any _ _ wx)) ?_
  refine wl_nil ?_
  refine nw 18 14543 (fun _ hm => ⟨hm.bl 1, hm.bl 2, hm.fa 0, hm.fa 1, hm.fa 2, hm.fa 3, hm.fa 4, hm.fa 5, hm.fa 6, hm.fa 7, hm.fa 8, hm.fa 9, trivial⟩) fun z => ?_
  refine wa1 4 rfl ?_
  refine wl_buildSlice (e := 33) (cs := [.int .i64 FE, .int .i64 (whenE (decide (ixP (vhP kv) vl 0 < 0)) 8), .int .i64 (windowE a b)]) rfl (by kernel_rfl) rfl fun g24 => ?_
  refine wl_nil ?_
  refine nw 18 14559 (fun _ hm => ⟨hm.bl 2, hm.bl 3, hm.fa 0, hm.fa 1, hm.fa 2, hm.fa 3, hm.fa 4, hm.fa 5, hm.fa 6, hm.fa 7, hm.fa 8, hm.fa 9, trivial⟩) fun z => ?_
  refine wa1 5 rfl ?_
  refine wl_callw (v := .int .i64 E1) rfl cb18 rfl rfl (fun wx hm => (by have h := errs_any [FE, whenE (decide (ixP (vhP kv) vl 0 < 0)) 8, windowE a b] g24 3 _ wx (hm.blkI 0 rfl) (by simp); rw [← hone] at h; exact h)) ?_
  refine wl_nil ?_
  refine nw 18 14591 (fun _ hm => ⟨hm.bl 2, hm.bl 3, hm.fa 0, hm.fa 1, hm.fa 2, hm.fa 3, hm.fa 4, hm.fa 5, hm.fa 6, hm.fa 7, hm.fa 8, hm.fa 9, trivial⟩) fun z => ?_
  refine wa1 8 rfl ?_
  refine wl_callv rfl cb19 rfl rfl (fun wx hm => (windowFault_any _ _ wx)) ?_
  refine wl_nil ?_
  refine nw 18 14847 (fun _ hm => ⟨hm.bl 2, hm.bl 3, hm.fa 0, hm.fa 1, hm.fa 2, hm.fa 3, hm.fa 4, hm.fa 5, hm.fa 6, hm.fa 7, hm.fa 8, hm.fa 9, trivial⟩) fun z => ?_
  refine wa1 9 rfl ?_
  refine wl_buildSlice (e := 33) (cs := [.int .i64 FE, .int .i64 (windowE a b)]) rfl (by kernel_rfl) rfl fun g25 => ?_
  refine wl_nil ?_
  refine nw 18 15359 (fun _ hm => ⟨hm.bl 3, hm.bl 4, hm.fa 0, hm.fa 1, hm.fa 2, hm.fa 3, hm.fa 4, hm.fa 5, hm.fa 6, hm.fa 7, hm.fa 8, hm.fa 9, trivial⟩) fun z => ?_
  refine wa1 10 rfl ?_
  refine wl_callw (v := .int .i64 E2) rfl cb18 rfl rfl (fun wx hm => (by have h := errs_any [FE, windowE a b] g25 2 _ wx (hm.blkI 0 rfl) (by simp); rw [← htwo] at h; exact h)) ?_
  refine wl_nil ?_
  refine nw 18 16383 (fun _ hm => ⟨hm.bl 3, hm.bl 4, hm.fa 0, hm.fa 1, hm.fa 2, hm.fa 3, hm.fa 4, hm.fa 5, hm.fa 6, hm.fa 7, hm.fa 8, hm.fa 9, trivial⟩) fun z => ?_
  refine wa1 14 rfl ?_
  refine wl_callw (v := .int .i64 E3) rfl cb18 rfl rfl (fun wx hm => (by have h := errs_any [FE, whenE (decide (ixP (vhP kv) vl 0 < 0)) 8] g23 2 _ wx (hm.blkI 2 rfl) (by simp); rw [← hthree] at h; exact h)) ?_
  refine wl_nil ?_
  refine nw 18 32767 (fun _ hm => ⟨hm.bl 3, hm.bl 4, hm.fa 0, hm.fa 1, hm.fa 2, hm.fa 3, hm.fa 4, hm.fa 5, hm.fa 6, hm.fa 7, hm.fa 8, hm.fa 9, trivial⟩) fun z => ?_
  refine wt 15 18 65535 rfl z (ov_assign rfl) ?_
  refine wt 16 18 131071 rfl z (ov_assign rfl) ?_
  refine wt 17 18 262143 rfl z (ov_assign rfl) ?_
  refine wa_done (by kernel_rfl) ?_
  exact nx_meet () trivial ⟨rfl, rfl, rfl, rfl, rfl, rfl, rfl, rfl, rfl, rfl, rfl, rfl, rfl, rfl, trivial⟩ (fun _ hm => hm.pick [3, 4] [] [0, 1, 2, 3, 4, 5, 6, 7, 8, 9] rfl rfl)
 intro uu hinv
 replace hinv : True := hinv
 refine sr_ ?_
 by_cases h1 : E1 = 0
 ·subst h1
  have hall := fe_all hone.symm
  have hfe : FE = 0 := hall FE (by simp)
  have hwz : windowE a b = 0 := hall (windowE a b) (by simp)
  have hvz : whenE (decide (ixP (vhP kv) vl 0 < 0)) 8 = 0 := hall (whenE (decide (ixP (vhP kv) vl 0 < 0)) 8) (by simp)
  have hz2 : E2 = 0 := by rw [htwo, hfe, hwz]; rfl
  have hz3 : E3 = 0 := by rw [hthree, hfe, hvz]; rfl
  subst hz2
  subst hz3
  obtain ⟨hf0, hl0⟩ := evs_ok (hFE.symm.trans hfe)
  obtain ⟨ha0, hab, hb0⟩ := windowE_ok hwz
  obtain ⟨rfl, rfl, rfl, rfl, rfl, rfl⟩ := hsi.1 rfl
  obtain ⟨rfl, rfl, hu2⟩ := hus.1 rfl
  rw [use_two] at hu2
  subst hu2
  refine wl_ov (ov_build (cs := [.int .i64 0, .int .i64 0]) rfl (by kernel_rfl)) rfl ?_
  refine wl_alloc zc46 rfl fun g26 => ?_
  refine wl_stores (cs' := [.int .i64 0, .int .i64 0]) 0 rz46 rfl rfl rfl rfl rfl rfl rfl rfl ?_
  refine nn_ (gw_seq (sr_ (mv_ rfl (wl_ov (ov_eql rfl rfl) rfl ?_))))
  refine wl_set 81 (v' := .bool true) rfl (congrArg Value.bool (by decide)) ?_
  refine nn_ (ct_ rfl (sr_ ?_))
  refine wl_ov (ov_loads (vs := [.slice sA sn sc, .slice cA 4 cc, .slice vA vn vc, .slice pA pn pc]) rz31 rfl (fun _ hm => (hm.fact 4 rfl).2) rfl rfl) rfl ?_
  refine mv_ rfl ?_
  refine wl_ov (ov_loads (vs := [.int .i64 a, .int .i64 b]) rz39 rfl (fun _ hm => (hm.fact 3 rfl).2) rfl rfl) rfl ?_
  refine wl_callv rfl cb20 rfl rfl (fun wx hm => (useOf_any vl sA cA vA pA sn sc 4 cc vn vc pn pc el eA en ec a b wx (hm.fact 7 rfl).1 (hm.fact 9 rfl).1 heok (by omega) (by omega) ha0 hab hb0)) ?_
  refine mv_ rfl (wl_ov (ov_extract rfl rfl) rfl (wl_ov (ov_extract rfl rfl) rfl ?_))
  refine wl_alloc zc46 rfl fun g27 => ?_
  refine wl_stores (cs' := [.int .i64 ((useN a b el vl).num), .int .i64 ((useN a b el vl).den)]) 0 rz46 rfl rfl rfl rfl rfl rfl rfl rfl ?_
  refine sg_ rfl (nn_ ?_)
  refine gd (fun wz => Blk wz g27 46 [.int .i64 ((useN a b el vl).num), .int .i64 ((useN a b el vl).den)] ∧ Blk wz g9 46 [.int .i64 ((useN a b el vl).num), .int .i64 ((useN a b el vl).den)] ∧ Blk wz g7 42 [.int .i64 (spT a b el kv 0), .int .i64 (spT a b el kv 1), .int .i64 (spT a b el kv 2), .int .i64 (spT a b el kv 3), .int .i64 (spT a b el kv 4), .int .i64 (spT a b el kv 5)] ∧ (fun wy => IfZ 0 (SlT trEnc 4 61 wy tA tk (tripsR el kv))) wz ∧ (fun _ => True) wz ∧ (fun _ => True) wz ∧ (BlkOld w2.heap.size none g5 39 [.int .i64 a, .int .i64 b]) wz ∧ (BlkOld w2.heap.size none g2 31 [.slice sA sn sc, .slice cA 4 cc, .slice vA vn vc, .slice pA pn pc]) wz ∧ (SlOld stEnc 15 156 w2.heap.size none sA sn sl) wz ∧ (SlOld csEnc 2 158 w2.heap.size none cA 4 cl) wz ∧ (SlOld vhEnc 2 69 w2.heap.size none vA vn vl) wz ∧ (SlOld plEnc 3 164 w2.heap.size none pA pn pl) wz ∧ (SlOld evEnc 5 105 w2.heap.size none eA en el) wz ∧ True) mixed (fun _ hm => ⟨hm.bl 0, hm.bl 2, hm.bl 3, hm.fa 0, hm.fa 1, hm.fa 2, hm.fa 3, hm.fa 4, hm.fa 5, hm.fa 6, hm.fa 7, hm.fa 8, hm.fa 9, trivial⟩) fun z => ?_
  refine wt 0 6 1 rfl z (ov_loads rz46 rfl (fun _ hm => hm.1) rfl rfl) ?_
  refine wt 1 6 3 rfl z (ov_move rfl) ?_
  refine wt 2 6 7 rfl z (ov_un_not rfl) ?_
  refine wa1 3 rfl ?_
  refine wl_callw rfl cb16 rfl rfl (fun wx hm => (rwhen_any _ _ wx)) ?_
  refine wl_nil ?_
  refine nw 6 15 (fun _ hm => ⟨hm.bl 0, hm.bl 2, hm.bl 3, hm.fa 0, hm.fa 1, hm.fa 2, hm.fa 3, hm.fa 4, hm.fa 5, hm.fa 6, hm.fa 7, hm.fa 8, hm.fa 9, trivial⟩) fun z => ?_
  refine wa1 4 rfl ?_
  refine wl_stores (cs' := [.int .i64 ((useN a b el vl).num), .int .i64 ((useN a b el vl).den)]) 1 rz46 rfl rfl rfl rfl rfl rfl rfl rfl ?_
  refine wl_nil ?_
  refine nw 6 31 (fun _ hm => ⟨hm.bl 0, hm.bl 2, hm.bl 3, hm.fa 0, hm.fa 1, hm.fa 2, hm.fa 3, hm.fa 4, hm.fa 5, hm.fa 6, hm.fa 7, hm.fa 8, hm.fa 9, trivial⟩) fun z => ?_
  refine wt 5 6 63 rfl z (ov_assign rfl) ?_
  refine wa_done (by kernel_rfl) ?_
  refine nx_then (gw_seq (sr_ (mv_ rfl (mv_ rfl (wl_ov (ov_neq rfl rfl) rfl ?_)))))
  refine wl_set 95 (v' := .bool false) rfl (congrArg Value.bool (by decide)) ?_
  refine mv_ rfl (wl_guard_on rfl rfl rfl (mv_ rfl (wl_guard_on rfl rfl rfl (mv_ rfl (wl_guard_on rfl rfl rfl (wl_ov (ov_neq rfl rfl) rfl ?_))))))
  refine wl_set 99 (v' := .bool false) rfl (congrArg Value.bool (by simp)) ?_
  refine pf_ rfl rfl (mv_ rfl (wl_guard_on rfl rfl rfl (mv_ rfl (wl_guard_on rfl rfl rfl (mv_ rfl (wl_guard_on rfl rfl rfl (wl_ov (ov_neq rfl rfl) rfl ?_)))))))
  refine wl_set 104 (v' := .bool false) rfl (congrArg Value.bool (by decide)) ?_
  refine pf_ rfl rfl (mv_ rfl (wl_guard_on rfl rfl rfl ?_))
  refine wl_ov (ov_loads rz46 rfl (fun _ hm => hm.blkI 2 rfl) rfl rfl) rfl ?_
  refine wl_guard_on rfl rfl rfl ?_
  refine wl_ov (ov_loads rz46 rfl (fun _ hm => hm.blkI 1 rfl) rfl rfl) rfl ?_
  refine wl_guard_on rfl rfl rfl ?_
  refine wl_ov (ov_bin rfl rfl (cmp_agg guard_frac (fun wx => same_frac_neq ((useN a b el vl).num) ((useN a b el vl).den) wx))) rfl ?_
  refine pf_ rfl rfl (mv_ rfl (wl_guard_on rfl rfl rfl (mv_ rfl (wl_guard_on rfl rfl rfl (wl_ov (ov_neq rfl rfl) rfl ?_)))))
  refine wl_set 113 (v' := .bool false) rfl (congrArg Value.bool (by decide)) ?_
  refine wl_guard_on rfl rfl rfl (mv_ rfl (goff rfl rfl rfl (goff rfl rfl rfl (goff rfl rfl rfl (wl_guard_on rfl rfl rfl (pf_ rfl rfl (pf_ rfl rfl (nn_ (cf_ rfl (gw_skip (nx_then (gw_seq ?_))))))))))))
  refine gw_seq ?_
  refine gd (fun wz => Blk wz g27 46 [.int .i64 ((useN a b el vl).num), .int .i64 ((useN a b el vl).den)] ∧ Blk wz g26 46 [.int .i64 ((useN a b el vl).num), .int .i64 ((useN a b el vl).den)] ∧ Blk wz g9 46 [.int .i64 ((useN a b el vl).num), .int .i64 ((useN a b el vl).den)] ∧ Blk wz g7 42 [.int .i64 (spT a b el kv 0), .int .i64 (spT a b el kv 1), .int .i64 (spT a b el kv 2), .int .i64 (spT a b el kv 3), .int .i64 (spT a b el kv 4), .int .i64 (spT a b el kv 5)] ∧ (fun wy => IfZ 0 (SlT trEnc 4 61 wy tA tk (tripsR el kv))) wz ∧ (fun _ => True) wz ∧ (fun _ => True) wz ∧ (BlkOld w2.heap.size none g5 39 [.int .i64 a, .int .i64 b]) wz ∧ (BlkOld w2.heap.size none g2 31 [.slice sA sn sc, .slice cA 4 cc, .slice vA vn vc, .slice pA pn pc]) wz ∧ (SlOld stEnc 15 156 w2.heap.size none sA sn sl) wz ∧ (SlOld csEnc 2 158 w2.heap.size none cA 4 cl) wz ∧ (SlOld vhEnc 2 69 w2.heap.size none vA vn vl) wz ∧ (SlOld plEnc 3 164 w2.heap.size none pA pn pl) wz ∧ (SlOld evEnc 5 105 w2.heap.size none eA en el) wz ∧ True) mixed (fun _ hm => ⟨hm.bl 0, hm.bl 1, hm.bl 2, hm.bl 3, hm.fa 0, hm.fa 1, hm.fa 2, hm.fa 3, hm.fa 4, hm.fa 5, hm.fa 6, hm.fa 7, hm.fa 8, hm.fa 9, trivial⟩) fun z => ?_
  refine wt 0 19 1 rfl z (ov_move rfl) ?_
  refine wt 1 19 3 rfl z (ov_neq rfl rfl) ?_
  refine wa_set 121 (v' := .bool false) rfl (congrArg Value.bool (by decide)) ?_
  refine wt 2 19 7 rfl z (ov_move rfl) ?_
  refine wtf 3 19 15 rfl rfl rfl z ?_
  refine wtf 4 19 31 rfl rfl rfl z ?_
  refine wtf 5 19 63 rfl rfl rfl z ?_
  refine wt 6 19 127 rfl z (ov_pick_f rfl rfl) ?_
  refine wt 7 19 255 rfl z (ov_move rfl) ?_
  refine wto 8 19 511 rfl rfl rfl z (ov_move rfl) ?_
  refine wto 9 19 1023 rfl rfl rfl z (ov_eql rfl rfl) ?_
  refine wa_set 129 (v' := .bool true) rfl (congrArg Value.bool (by decide)) ?_
  refine wto 10 19 2047 rfl rfl rfl z (ov_move rfl) ?_
  refine wto 11 19 4095 rfl rfl rfl z (ov_loads rz42 rfl (fun _ hm => hm.2.2.2.1) rfl rfl) ?_
  refine wto 12 19 8191 rfl rfl rfl z (ov_move rfl) ?_
  refine wto 13 19 16383 rfl rfl rfl z (ov_move rfl) ?_
  refine wto 14 19 32767 rfl rfl rfl z (ov_loads (vs := [.int .i64 a, .int .i64 b]) rz39 rfl (fun _ hm => (hm.2.2.2.2.2.2.2.1).2) rfl rfl) ?_
  refine wa1 15 rfl ?_
  refine wl_guard_on rfl rfl rfl ?_
  refine wl_callv rfl cb21 rfl rfl (fun wx hm => (spentOf_any el eA en ec kv a b wx (hm.fact 9 rfl).1 heok (by omega) ha0 hab hb0)) ?_
  refine wl_nil ?_
  refine nw 19 65535 (fun _ hm => ⟨hm.bl 0, hm.bl 1, hm.bl 2, hm.bl 3, hm.fa 0, hm.fa 1, hm.fa 2, hm.fa 3, hm.fa 4, hm.fa 5, hm.fa 6, hm.fa 7, hm.fa 8, hm.fa 9, trivial⟩) fun z => ?_
  refine wto 16 19 131071 rfl rfl rfl z (ov_bin rfl rfl (cmp_agg guard_spent (fun wx => same_spent_neq (spT a b el kv 0) (spT a b el kv 1) (spT a b el kv 2) (spT a b el kv 3) (spT a b el kv 4) (spT a b el kv 5) wx))) ?_
  refine wto 17 19 262143 rfl rfl rfl z (ov_pick_t rfl rfl) ?_
  refine wt 18 19 524287 rfl z (ov_pick_f rfl rfl) ?_
  refine wa_done (by kernel_rfl) ?_
  refine nx_then (cf_ rfl (gw_skip (nx_then (sr_ (mv_ rfl (wl_ov (ov_neq rfl rfl) rfl ?_))))))
  refine wl_set 140 (v' := .bool false) rfl (congrArg Value.bool (by decide)) ?_
  refine mv_ rfl (wl_guard_on rfl rfl rfl (mv_ rfl (wl_guard_on rfl rfl rfl (mv_ rfl (wl_guard_on rfl rfl rfl (mv_ rfl (wl_guard_on rfl rfl rfl ?_)))))))
  refine wl_callx (γ := Option Addr × Nat × Nat) (val := (fun g => .slice g.1 g.2.1 g.2.2)) (φ := (fun g => True)) (Y := (fun g => fun wy => SlT trEnc 4 61 wy g.1 g.2.1 (tripsR el kv))) rfl cb23 rfl rfl (fun wx hm => (tripsOf_any el eA en ec kv wx (hm.fact 9 rfl).1 (by omega)).mono fun _ _ ⟨A, k, c, he, h1, hg⟩ => ⟨(A, k, c), he, trivial, hg, h1⟩) (fun _ => SlT.lasts2 rfl) ?_
  rintro ⟨cA2, ck2, cc2⟩ hphi
  dsimp only
  clear hphi
  refine wl_guard_on rfl rfl rfl ?_
  refine wl_look (R := tk = ck2) (fun wx hm => by have h3 := (hm.fact 1 rfl).get.len; have h4 := ((hm.fact 0 rfl)).len; omega) ?_
  intro hbd
  subst hbd
  refine wl_callv rfl cb22 rfl rfl (fun wx hm => (equal_trips (tripsR el kv) tA cA2 tk tc cc2 wx (hm.fact 1 rfl).get (hm.fact 0 rfl) (by have h3 := ((hm.fact 0 rfl)).len; have h4 := tripsR_len (el := el) (v := kv); omega))) ?_
  refine pf_ rfl rfl (mv_ rfl (wl_guard_on rfl rfl rfl ?_))
  refine wl_callv rfl cb24 rfl rfl (fun wx hm => (lots_any wx)) ?_
  refine pt_ rfl rfl (sg_ rfl (nn_ ?_))
  refine gw_ret ?_
  refine nx_ret1 rfl rfl fun wx hm => ?_
  exact ⟨rfl, law_end hg1 hsb (grow_trans hm_w2.g (grow_weak hm.g))⟩
 by_cases h2 : E2 = 0
 ·subst h2
  have hall := fe_all htwo.symm
  have hfe : FE = 0 := hall FE (by simp)
  have hwz : windowE a b = 0 := hall (windowE a b) (by simp)
  have h3 : E3 ≠ 0 := fun h => h1 (by rw [hone, hfe, hwz, show whenE (decide (ixP (vhP kv) vl 0 < 0)) 8 = 0 from fe_all (hthree.symm.trans h) _ (by simp)]; rfl)
  obtain ⟨hf0, hl0⟩ := evs_ok (hFE.symm.trans hfe)
  obtain ⟨ha0, hab, hb0⟩ := windowE_ok hwz
  obtain ⟨rfl, rfl, rfl, rfl, rfl, rfl⟩ := hsi.2 h1
  obtain ⟨rfl, rfl, hu2⟩ := hus.1 rfl
  rw [use_two] at hu2
  subst hu2
  obtain ⟨rfl, rfl, rfl⟩ := htp h3
  refine wl_ov (ov_build (cs := [.int .i64 0, .int .i64 0]) rfl (by kernel_rfl)) rfl ?_
  refine wl_alloc zc46 rfl fun g28 => ?_
  refine wl_stores (cs' := [.int .i64 0, .int .i64 0]) 0 rz46 rfl rfl rfl rfl rfl rfl rfl rfl ?_
  refine nn_ (gw_seq (sr_ (mv_ rfl (wl_ov (ov_eql rfl rfl) rfl ?_))))
  refine wl_set 81 (v' := .bool true) rfl (congrArg Value.bool (by decide)) ?_
  refine nn_ (ct_ rfl (sr_ ?_))
  refine wl_ov (ov_loads (vs := [.slice sA sn sc, .slice cA 4 cc, .slice vA vn vc, .slice pA pn pc]) rz31 rfl (fun _ hm => (hm.fact 4 rfl).2) rfl rfl) rfl ?_
  refine mv_ rfl ?_
  refine wl_ov (ov_loads (vs := [.int .i64 a, .int .i64 b]) rz39 rfl (fun _ hm => (hm.fact 3 rfl).2) rfl rfl) rfl ?_
  refine wl_callv rfl cb20 rfl rfl (fun wx hm => (useOf_any vl sA cA vA pA sn sc 4 cc vn vc pn pc el eA en ec a b wx (hm.fact 7 rfl).1 (hm.fact 9 rfl).1 heok (by omega) (by omega) ha0 hab hb0)) ?_
  refine mv_ rfl (wl_ov (ov_extract rfl rfl) rfl (wl_ov (ov_extract rfl rfl) rfl ?_))
  refine wl_alloc zc46 rfl fun g29 => ?_
  refine wl_stores (cs' := [.int .i64 ((useN a b el vl).num), .int .i64 ((useN a b el vl).den)]) 0 rz46 rfl rfl rfl rfl rfl rfl rfl rfl ?_
  refine sg_ rfl (nn_ ?_)
  refine gd (fun wz => Blk wz g29 46 [.int .i64 ((useN a b el vl).num), .int .i64 ((useN a b el vl).den)] ∧ Blk wz g9 46 [.int .i64 ((useN a b el vl).num), .int .i64 ((useN a b el vl).den)] ∧ Blk wz g7 42 [.int .i64 0, .int .i64 0, .int .i64 0, .int .i64 0, .int .i64 0, .int .i64 0] ∧ (fun wy => IfZ E3 (SlT trEnc 4 61 wy none 0 (tripsR el kv))) wz ∧ (fun _ => True) wz ∧ (fun _ => True) wz ∧ (BlkOld w2.heap.size none g5 39 [.int .i64 a, .int .i64 b]) wz ∧ (BlkOld w2.heap.size none g2 31 [.slice sA sn sc, .slice cA 4 cc, .slice vA vn vc, .slice pA pn pc]) wz ∧ (SlOld stEnc 15 156 w2.heap.size none sA sn sl) wz ∧ (SlOld csEnc 2 158 w2.heap.size none cA 4 cl) wz ∧ (SlOld vhEnc 2 69 w2.heap.size none vA vn vl) wz ∧ (SlOld plEnc 3 164 w2.heap.size none pA pn pl) wz ∧ (SlOld evEnc 5 105 w2.heap.size none eA en el) wz ∧ True) mixed (fun _ hm => ⟨hm.bl 0, hm.bl 2, hm.bl 3, hm.fa 0, hm.fa 1, hm.fa 2, hm.fa 3, hm.fa 4, hm.fa 5, hm.fa 6, hm.fa 7, hm.fa 8, hm.fa 9, trivial⟩) fun z => ?_
  refine wt 0 6 1 rfl z (ov_loads rz46 rfl (fun _ hm => hm.1) rfl rfl) ?_
  refine wt 1 6 3 rfl z (ov_move rfl) ?_
  refine wt 2 6 7 rfl z (ov_un_not rfl) ?_
  refine wa1 3 rfl ?_
  refine wl_callw rfl cb16 rfl rfl (fun wx hm => (rwhen_any _ _ wx)) ?_
  refine wl_nil ?_
  refine nw 6 15 (fun _ hm => ⟨hm.bl 0, hm.bl 2, hm.bl 3, hm.fa 0, hm.fa 1, hm.fa 2, hm.fa 3, hm.fa 4, hm.fa 5, hm.fa 6, hm.fa 7, hm.fa 8, hm.fa 9, trivial⟩) fun z => ?_
  refine wa1 4 rfl ?_
  refine wl_stores (cs' := [.int .i64 ((useN a b el vl).num), .int .i64 ((useN a b el vl).den)]) 1 rz46 rfl rfl rfl rfl rfl rfl rfl rfl ?_
  refine wl_nil ?_
  refine nw 6 31 (fun _ hm => ⟨hm.bl 0, hm.bl 2, hm.bl 3, hm.fa 0, hm.fa 1, hm.fa 2, hm.fa 3, hm.fa 4, hm.fa 5, hm.fa 6, hm.fa 7, hm.fa 8, hm.fa 9, trivial⟩) fun z => ?_
  refine wt 5 6 63 rfl z (ov_assign rfl) ?_
  refine wa_done (by kernel_rfl) ?_
  refine nx_then (gw_seq (sr_ (mv_ rfl (mv_ rfl (wl_ov (ov_neq rfl rfl) rfl ?_)))))
  refine wl_set 95 (v' := .bool false) rfl (congrArg Value.bool (by simp)) ?_
  refine mv_ rfl (wl_guard_on rfl rfl rfl (mv_ rfl (wl_guard_on rfl rfl rfl (mv_ rfl (wl_guard_on rfl rfl rfl (wl_ov (ov_neq rfl rfl) rfl ?_))))))
  refine wl_set 99 (v' := .bool false) rfl (congrArg Value.bool (by simp)) ?_
  refine pf_ rfl rfl (mv_ rfl (wl_guard_on rfl rfl rfl (mv_ rfl (wl_guard_on rfl rfl rfl (mv_ rfl (wl_guard_on rfl rfl rfl (wl_ov (ov_neq rfl rfl) rfl ?_)))))))
  refine wl_set 104 (v' := .bool false) rfl (congrArg Value.bool (by simp)) ?_
  refine pf_ rfl rfl (mv_ rfl (wl_guard_on rfl rfl rfl ?_))
  refine wl_ov (ov_loads rz46 rfl (fun _ hm => hm.blkI 2 rfl) rfl rfl) rfl ?_
  refine wl_guard_on rfl rfl rfl ?_
  refine wl_ov (ov_loads rz46 rfl (fun _ hm => hm.blkI 1 rfl) rfl rfl) rfl ?_
  refine wl_guard_on rfl rfl rfl ?_
  refine wl_ov (ov_bin rfl rfl (cmp_agg guard_frac (fun wx => same_frac_neq ((useN a b el vl).num) ((useN a b el vl).den) wx))) rfl ?_
  refine pf_ rfl rfl (mv_ rfl (wl_guard_on rfl rfl rfl (mv_ rfl (wl_guard_on rfl rfl rfl (wl_ov (ov_neq rfl rfl) rfl ?_)))))
  refine wl_set 113 (v' := .bool true) rfl (congrArg Value.bool (by rw [decide_eq_false h3]; rfl)) ?_
  refine wl_guard_on rfl rfl rfl (mv_ rfl (wl_guard_on rfl rfl rfl (mv_ rfl (wl_guard_on rfl rfl rfl (wl_ov (ov_len es49 rfl) rfl ?_)))))
  refine wl_set 116 (v' := .int .i64 0) rfl rfl ?_
  refine wl_guard_on rfl rfl rfl ?_
  refine wl_ov (ov_gtr rfl rfl) rfl ?_
  refine wl_set 117 (v' := .bool false) rfl (congrArg Value.bool (by decide)) ?_
  refine wl_guard_on rfl rfl rfl (pt_ rfl rfl (pf_ rfl rfl (nn_ (cf_ rfl (gw_skip (nx_then (gw_seq (gw_seq ?_))))))))
  refine gd (fun wz => Blk wz g29 46 [.int .i64 ((useN a b el vl).num), .int .i64 ((useN a b el vl).den)] ∧ Blk wz g28 46 [.int .i64 ((useN a b el vl).num), .int .i64 ((useN a b el vl).den)] ∧ Blk wz g9 46 [.int .i64 ((useN a b el vl).num), .int .i64 ((useN a b el vl).den)] ∧ Blk wz g7 42 [.int .i64 0, .int .i64 0, .int .i64 0, .int .i64 0, .int .i64 0, .int .i64 0] ∧ (fun wy => IfZ E3 (SlT trEnc 4 61 wy none 0 (tripsR el kv))) wz ∧ (fun _ => True) wz ∧ (fun _ => True) wz ∧ (BlkOld w2.heap.size none g5 39 [.int .i64 a, .int .i64 b]) wz ∧ (BlkOld w2.heap.size none g2 31 [.slice sA sn sc, .slice cA 4 cc, .slice vA vn vc, .slice pA pn pc]) wz ∧ (SlOld stEnc 15 156 w2.heap.size none sA sn sl) wz ∧ (SlOld csEnc 2 158 w2.heap.size none cA 4 cl) wz ∧ (SlOld vhEnc 2 69 w2.heap.size none vA vn vl) wz ∧ (SlOld plEnc 3 164 w2.heap.size none pA pn pl) wz ∧ (SlOld evEnc 5 105 w2.heap.size none eA en el) wz ∧ True) mixed (fun _ hm => ⟨hm.bl 0, hm.bl 1, hm.bl 2, hm.bl 3, hm.fa 0, hm.fa 1, hm.fa 2, hm.fa 3, hm.fa 4, hm.fa 5, hm.fa 6, hm.fa 7, hm.fa 8, hm.fa 9, trivial⟩) fun z => ?_
  refine wt 0 19 1 rfl z (ov_move rfl) ?_
  refine wt 1 19 3 rfl z (ov_neq rfl rfl) ?_
  refine wa_set 121 (v' := .bool true) rfl (congrArg Value.bool (by rw [decide_eq_false h1]; rfl)) ?_
  refine wt 2 19 7 rfl z (ov_move rfl) ?_
  refine wto 3 19 15 rfl rfl rfl z (ov_loads rz42 rfl (fun _ hm => hm.2.2.2.1) rfl rfl) ?_
  refine wto 4 19 31 rfl rfl rfl z (ov_build (cs := [.int .i64 0, .int .i64 0, .int .i64 0, .int .i64 0, .int .i64 0, .int .i64 0]) rfl (by kernel_rfl)) ?_
  refine wto 5 19 63 rfl rfl rfl z (ov_bin rfl rfl (cmp_agg guard_spent (fun wx => same_spent_neq 0 0 0 0 0 0 wx))) ?_
  refine wt 6 19 127 rfl z (ov_pick_t rfl rfl) ?_
  refine wt 7 19 255 rfl z (ov_move rfl) ?_
  refine wto 8 19 511 rfl rfl rfl z (ov_move rfl) ?_
  refine wto 9 19 1023 rfl rfl rfl z (ov_eql rfl rfl) ?_
  refine wa_set 129 (v' := .bool false) rfl (congrArg Value.bool (decide_eq_false h1)) ?_
  refine wto 10 19 2047 rfl rfl rfl z (ov_move rfl) ?_
  refine wtf 11 19 4095 rfl rfl rfl z ?_
  refine wtf 12 19 8191 rfl rfl rfl z ?_
  refine wtf 13 19 16383 rfl rfl rfl z ?_
  refine wtf 14 19 32767 rfl rfl rfl z ?_
  refine wtf 15 19 65535 rfl rfl rfl z ?_
  refine wtf 16 19 131071 rfl rfl rfl z ?_
  refine wto 17 19 262143 rfl rfl rfl z (ov_pick_f rfl rfl) ?_
  refine wt 18 19 524287 rfl z (ov_pick_f rfl rfl) ?_
  refine wa_done (by kernel_rfl) ?_
  refine nx_then (cf_ rfl (gw_skip (nx_then (sr_ (mv_ rfl (wl_ov (ov_neq rfl rfl) rfl ?_))))))
  refine wl_set 140 (v' := .bool true) rfl (congrArg Value.bool (by rw [decide_eq_false h3]; rfl)) ?_
  refine mv_ rfl (goff rfl rfl rfl (goff rfl rfl rfl (goff rfl rfl rfl (goff rfl rfl rfl (goff rfl rfl rfl (pt_ rfl rfl (mv_ rfl (wl_guard_on rfl rfl rfl ?_))))))))
  refine wl_callv rfl cb24 rfl rfl (fun wx hm => (lots_any wx)) ?_
  refine pt_ rfl rfl (sg_ rfl (nn_ ?_))
  refine gw_ret ?_
  refine nx_ret1 rfl rfl fun wx hm => ?_
  exact ⟨rfl, law_end hg1 hsb (grow_trans hm_w2.g (grow_weak hm.g))⟩
 by_cases h3 : E3 = 0
 ·subst h3
  obtain ⟨rfl, rfl, rfl, rfl, rfl, rfl⟩ := hsi.2 h1
  obtain ⟨rfl, rfl, hu2⟩ := hus.2 h2
  subst hu2
  refine wl_ov (ov_build (cs := [.int .i64 0, .int .i64 0]) rfl (by kernel_rfl)) rfl ?_
  refine wl_alloc zc46 rfl fun g30 => ?_
  refine wl_stores (cs' := [.int .i64 0, .int .i64 0]) 0 rz46 rfl rfl rfl rfl rfl rfl rfl rfl ?_
  refine nn_ (gw_seq (sr_ (mv_ rfl (wl_ov (ov_eql rfl rfl) rfl ?_))))
  refine wl_set 81 (v' := .bool false) rfl (congrArg Value.bool (decide_eq_false h2)) ?_
  refine nn_ (cf_ rfl (gw_skip (nx_then (gw_seq (sr_ (mv_ rfl (mv_ rfl (wl_ov (ov_neq rfl rfl) rfl ?_))))))))
  refine wl_set 95 (v' := .bool false) rfl (congrArg Value.bool (by simp)) ?_
  refine mv_ rfl (wl_guard_on rfl rfl rfl (mv_ rfl (wl_guard_on rfl rfl rfl (mv_ rfl (wl_guard_on rfl rfl rfl (wl_ov (ov_neq rfl rfl) rfl ?_))))))
  refine wl_set 99 (v' := .bool false) rfl (congrArg Value.bool (by simp)) ?_
  refine pf_ rfl rfl (mv_ rfl (wl_guard_on rfl rfl rfl (mv_ rfl (wl_guard_on rfl rfl rfl (mv_ rfl (wl_guard_on rfl rfl rfl (wl_ov (ov_neq rfl rfl) rfl ?_)))))))
  refine wl_set 104 (v' := .bool false) rfl (congrArg Value.bool (by decide)) ?_
  refine pf_ rfl rfl (mv_ rfl (wl_guard_on rfl rfl rfl ?_))
  refine wl_ov (ov_loads rz46 rfl (fun _ hm => hm.blkI 1 rfl) rfl rfl) rfl ?_
  refine wl_guard_on rfl rfl rfl ?_
  refine wl_ov (ov_loads rz46 rfl (fun _ hm => hm.blkI 0 rfl) rfl rfl) rfl ?_
  refine wl_guard_on rfl rfl rfl ?_
  refine wl_ov (ov_bin rfl rfl (cmp_agg guard_frac (fun wx => same_frac_neq 0 0 wx))) rfl ?_
  refine pf_ rfl rfl (mv_ rfl (wl_guard_on rfl rfl rfl (mv_ rfl (wl_guard_on rfl rfl rfl (wl_ov (ov_neq rfl rfl) rfl ?_)))))
  refine wl_set 113 (v' := .bool false) rfl (congrArg Value.bool (by decide)) ?_
  refine wl_guard_on rfl rfl rfl (mv_ rfl (goff rfl rfl rfl (goff rfl rfl rfl (goff rfl rfl rfl (wl_guard_on rfl rfl rfl (pf_ rfl rfl (pf_ rfl rfl (nn_ (cf_ rfl (gw_skip (nx_then (gw_seq ?_))))))))))))
  refine gw_seq ?_
  refine gd (fun wz => Blk wz g30 46 [.int .i64 0, .int .i64 0] ∧ Blk wz g9 46 [.int .i64 0, .int .i64 0] ∧ Blk wz g7 42 [.int .i64 0, .int .i64 0, .int .i64 0, .int .i64 0, .int .i64 0, .int .i64 0] ∧ (fun wy => IfZ 0 (SlT trEnc 4 61 wy tA tk (tripsR el kv))) wz ∧ (fun _ => True) wz ∧ (fun _ => True) wz ∧ (BlkOld w2.heap.size none g5 39 [.int .i64 a, .int .i64 b]) wz ∧ (BlkOld w2.heap.size none g2 31 [.slice sA sn sc, .slice cA 4 cc, .slice vA vn vc, .slice pA pn pc]) wz ∧ (SlOld stEnc 15 156 w2.heap.size none sA sn sl) wz ∧ (SlOld csEnc 2 158 w2.heap.size none cA 4 cl) wz ∧ (SlOld vhEnc 2 69 w2.heap.size none vA vn vl) wz ∧ (SlOld plEnc 3 164 w2.heap.size none pA pn pl) wz ∧ (SlOld evEnc 5 105 w2.heap.size none eA en el) wz ∧ True) mixed (fun _ hm => ⟨hm.bl 0, hm.bl 1, hm.bl 2, hm.fa 0, hm.fa 1, hm.fa 2, hm.fa 3, hm.fa 4, hm.fa 5, hm.fa 6, hm.fa 7, hm.fa 8, hm.fa 9, trivial⟩) fun z => ?_
  refine wt 0 19 1 rfl z (ov_move rfl) ?_
  refine wt 1 19 3 rfl z (ov_neq rfl rfl) ?_
  refine wa_set 121 (v' := .bool true) rfl (congrArg Value.bool (by rw [decide_eq_false h1]; rfl)) ?_
  refine wt 2 19 7 rfl z (ov_move rfl) ?_
  refine wto 3 19 15 rfl rfl rfl z (ov_loads rz42 rfl (fun _ hm => hm.2.2.1) rfl rfl) ?_
  refine wto 4 19 31 rfl rfl rfl z (ov_build (cs := [.int .i64 0, .int .i64 0, .int .i64 0, .int .i64 0, .int .i64 0, .int .i64 0]) rfl (by kernel_rfl)) ?_
  refine wto 5 19 63 rfl rfl rfl z (ov_bin rfl rfl (cmp_agg guard_spent (fun wx => same_spent_neq 0 0 0 0 0 0 wx))) ?_
  refine wt 6 19 127 rfl z (ov_pick_t rfl rfl) ?_
  refine wt 7 19 255 rfl z (ov_move rfl) ?_
  refine wto 8 19 511 rfl rfl rfl z (ov_move rfl) ?_
  refine wto 9 19 1023 rfl rfl rfl z (ov_eql rfl rfl) ?_
  refine wa_set 129 (v' := .bool false) rfl (congrArg Value.bool (decide_eq_false h1)) ?_
  refine wto 10 19 2047 rfl rfl rfl z (ov_move rfl) ?_
  refine wtf 11 19 4095 rfl rfl rfl z ?_
  refine wtf 12 19 8191 rfl rfl rfl z ?_
  refine wtf 13 19 16383 rfl rfl rfl z ?_
  refine wtf 14 19 32767 rfl rfl rfl z ?_
  refine wtf 15 19 65535 rfl rfl rfl z ?_
  refine wtf 16 19 131071 rfl rfl rfl z ?_
  refine wto 17 19 262143 rfl rfl rfl z (ov_pick_f rfl rfl) ?_
  refine wt 18 19 524287 rfl z (ov_pick_f rfl rfl) ?_
  refine wa_done (by kernel_rfl) ?_
  refine nx_then (cf_ rfl (gw_skip (nx_then (sr_ (mv_ rfl (wl_ov (ov_neq rfl rfl) rfl ?_))))))
  refine wl_set 140 (v' := .bool false) rfl (congrArg Value.bool (by decide)) ?_
  refine mv_ rfl (wl_guard_on rfl rfl rfl (mv_ rfl (wl_guard_on rfl rfl rfl (mv_ rfl (wl_guard_on rfl rfl rfl (mv_ rfl (wl_guard_on rfl rfl rfl ?_)))))))
  refine wl_callx (γ := Option Addr × Nat × Nat) (val := (fun g => .slice g.1 g.2.1 g.2.2)) (φ := (fun g => True)) (Y := (fun g => fun wy => SlT trEnc 4 61 wy g.1 g.2.1 (tripsR el kv))) rfl cb23 rfl rfl (fun wx hm => (tripsOf_any el eA en ec kv wx (hm.fact 9 rfl).1 (by omega)).mono fun _ _ ⟨A, k, c, he, h1, hg⟩ => ⟨(A, k, c), he, trivial, hg, h1⟩) (fun _ => SlT.lasts2 rfl) ?_
  rintro ⟨cA2, ck2, cc2⟩ hphi
  dsimp only
  clear hphi
  refine wl_guard_on rfl rfl rfl ?_
  refine wl_look (R := tk = ck2) (fun wx hm => by have h3 := (hm.fact 1 rfl).get.len; have h4 := ((hm.fact 0 rfl)).len; omega) ?_
  intro hbd
  subst hbd
  refine wl_callv rfl cb22 rfl rfl (fun wx hm => (equal_trips (tripsR el kv) tA cA2 tk tc cc2 wx (hm.fact 1 rfl).get (hm.fact 0 rfl) (by have h3 := ((hm.fact 0 rfl)).len; have h4 := tripsR_len (el := el) (v := kv); omega))) ?_
  refine pf_ rfl rfl (mv_ rfl (wl_guard_on rfl rfl rfl ?_))
  refine wl_callv rfl cb24 rfl rfl (fun wx hm => (lots_any wx)) ?_
  refine pt_ rfl rfl (sg_ rfl (nn_ ?_))
  refine gw_ret ?_
  refine nx_ret1 rfl rfl fun wx hm => ?_
  exact ⟨rfl, law_end hg1 hsb (grow_trans hm_w2.g (grow_weak hm.g))⟩
 obtain ⟨rfl, rfl, rfl, rfl, rfl, rfl⟩ := hsi.2 h1
 obtain ⟨rfl, rfl, hu2⟩ := hus.2 h2
 subst hu2
 obtain ⟨rfl, rfl, rfl⟩ := htp h3
 refine wl_ov (ov_build (cs := [.int .i64 0, .int .i64 0]) rfl (by kernel_rfl)) rfl ?_
 refine wl_alloc zc46 rfl fun g31 => ?_
 refine wl_stores (cs' := [.int .i64 0, .int .i64 0]) 0 rz46 rfl rfl rfl rfl rfl rfl rfl rfl ?_
 refine nn_ (gw_seq (sr_ (mv_ rfl (wl_ov (ov_eql rfl rfl) rfl ?_))))
 refine wl_set 81 (v' := .bool false) rfl (congrArg Value.bool (decide_eq_false h2)) ?_
 refine nn_ (cf_ rfl (gw_skip (nx_then (gw_seq (sr_ (mv_ rfl (mv_ rfl (wl_ov (ov_neq rfl rfl) rfl ?_))))))))
 refine wl_set 95 (v' := .bool false) rfl (congrArg Value.bool (by simp)) ?_
 refine mv_ rfl (wl_guard_on rfl rfl rfl (mv_ rfl (wl_guard_on rfl rfl rfl (mv_ rfl (wl_guard_on rfl rfl rfl (wl_ov (ov_neq rfl rfl) rfl ?_))))))
 refine wl_set 99 (v' := .bool false) rfl (congrArg Value.bool (by simp)) ?_
 refine pf_ rfl rfl (mv_ rfl (wl_guard_on rfl rfl rfl (mv_ rfl (wl_guard_on rfl rfl rfl (mv_ rfl (wl_guard_on rfl rfl rfl (wl_ov (ov_neq rfl rfl) rfl ?_)))))))
 refine wl_set 104 (v' := .bool false) rfl (congrArg Value.bool (by simp)) ?_
 refine pf_ rfl rfl (mv_ rfl (wl_guard_on rfl rfl rfl ?_))
 refine wl_ov (ov_loads rz46 rfl (fun _ hm => hm.blkI 1 rfl) rfl rfl) rfl ?_
 refine wl_guard_on rfl rfl rfl ?_
 refine wl_ov (ov_loads rz46 rfl (fun _ hm => hm.blkI 0 rfl) rfl rfl) rfl ?_
 refine wl_guard_on rfl rfl rfl ?_
 refine wl_ov (ov_bin rfl rfl (cmp_agg guard_frac (fun wx => same_frac_neq 0 0 wx))) rfl ?_
 refine pf_ rfl rfl (mv_ rfl (wl_guard_on rfl rfl rfl (mv_ rfl (wl_guard_on rfl rfl rfl (wl_ov (ov_neq rfl rfl) rfl ?_)))))
 refine wl_set 113 (v' := .bool true) rfl (congrArg Value.bool (by rw [decide_eq_false h3]; rfl)) ?_
 refine wl_guard_on rfl rfl rfl (mv_ rfl (wl_guard_on rfl rfl rfl (mv_ rfl (wl_guard_on rfl rfl rfl (wl_ov (ov_len es49 rfl) rfl ?_)))))
 refine wl_set 116 (v' := .int .i64 0) rfl rfl ?_
 refine wl_guard_on rfl rfl rfl ?_
 refine wl_ov (ov_gtr rfl rfl) rfl ?_
 refine wl_set 117 (v' := .bool false) rfl (congrArg Value.bool (by decide)) ?_
 refine wl_guard_on rfl rfl rfl (pt_ rfl rfl (pf_ rfl rfl (nn_ (cf_ rfl (gw_skip (nx_then (gw_seq (gw_seq ?_))))))))
 refine gd (fun wz => Blk wz g31 46 [.int .i64 0, .int .i64 0] ∧ Blk wz g9 46 [.int .i64 0, .int .i64 0] ∧ Blk wz g7 42 [.int .i64 0, .int .i64 0, .int .i64 0, .int .i64 0, .int .i64 0, .int .i64 0] ∧ (fun wy => IfZ E3 (SlT trEnc 4 61 wy none 0 (tripsR el kv))) wz ∧ (fun _ => True) wz ∧ (fun _ => True) wz ∧ (BlkOld w2.heap.size none g5 39 [.int .i64 a, .int .i64 b]) wz ∧ (BlkOld w2.heap.size none g2 31 [.slice sA sn sc, .slice cA 4 cc, .slice vA vn vc, .slice pA pn pc]) wz ∧ (SlOld stEnc 15 156 w2.heap.size none sA sn sl) wz ∧ (SlOld csEnc 2 158 w2.heap.size none cA 4 cl) wz ∧ (SlOld vhEnc 2 69 w2.heap.size none vA vn vl) wz ∧ (SlOld plEnc 3 164 w2.heap.size none pA pn pl) wz ∧ (SlOld evEnc 5 105 w2.heap.size none eA en el) wz ∧ True) mixed (fun _ hm => ⟨hm.bl 0, hm.bl 1, hm.bl 2, hm.fa 0, hm.fa 1, hm.fa 2, hm.fa 3, hm.fa 4, hm.fa 5, hm.fa 6, hm.fa 7, hm.fa 8, hm.fa 9, trivial⟩) fun z => ?_
 refine wt 0 19 1 rfl z (ov_move rfl) ?_
 refine wt 1 19 3 rfl z (ov_neq rfl rfl) ?_
 refine wa_set 121 (v' := .bool true) rfl (congrArg Value.bool (by rw [decide_eq_false h1]; rfl)) ?_
 refine wt 2 19 7 rfl z (ov_move rfl) ?_
 refine wto 3 19 15 rfl rfl rfl z (ov_loads rz42 rfl (fun _ hm => hm.2.2.1) rfl rfl) ?_
 refine wto 4 19 31 rfl rfl rfl z (ov_build (cs := [.int .i64 0, .int .i64 0, .int .i64 0, .int .i64 0, .int .i64 0, .int .i64 0]) rfl (by kernel_rfl)) ?_
 refine wto 5 19 63 rfl rfl rfl z (ov_bin rfl rfl (cmp_agg guard_spent (fun wx => same_spent_neq 0 0 0 0 0 0 wx))) ?_
 refine wt 6 19 127 rfl z (ov_pick_t rfl rfl) ?_
 refine wt 7 19 255 rfl z (ov_move rfl) ?_
 refine wto 8 19 511 rfl rfl rfl z (ov_move rfl) ?_
 refine wto 9 19 1023 rfl rfl rfl z (ov_eql rfl rfl) ?_
 refine wa_set 129 (v' := .bool false) rfl (congrArg Value.bool (decide_eq_false h1)) ?_
 refine wto 10 19 2047 rfl rfl rfl z (ov_move rfl) ?_
 refine wtf 11 19 4095 rfl rfl rfl z ?_
 refine wtf 12 19 8191 rfl rfl rfl z ?_
 refine wtf 13 19 16383 rfl rfl rfl z ?_
 refine wtf 14 19 32767 rfl rfl rfl z ?_
 refine wtf 15 19 65535 rfl rfl rfl z ?_
 refine wtf 16 19 131071 rfl rfl rfl z ?_
 refine wto 17 19 262143 rfl rfl rfl z (ov_pick_f rfl rfl) ?_
 refine wt 18 19 524287 rfl z (ov_pick_f rfl rfl) ?_
 refine wa_done (by kernel_rfl) ?_
 refine nx_then (cf_ rfl (gw_skip (nx_then (sr_ (mv_ rfl (wl_ov (ov_neq rfl rfl) rfl ?_))))))
 refine wl_set 140 (v' := .bool true) rfl (congrArg Value.bool (by rw [decide_eq_false h3]; rfl)) ?_
 refine mv_ rfl (goff rfl rfl rfl (goff rfl rfl rfl (goff rfl rfl rfl (goff rfl rfl rfl (goff rfl rfl rfl (pt_ rfl rfl (mv_ rfl (wl_guard_on rfl rfl rfl ?_))))))))
 refine wl_callv rfl cb24 rfl rfl (fun wx hm => (lots_any wx)) ?_
 refine pt_ rfl rfl (sg_ rfl (nn_ ?_))
 refine gw_ret ?_
 refine nx_ret1 rfl rfl fun wx hm => ?_
 exact ⟨rfl, law_end hg1 hsb (grow_trans hm_w2.g (grow_weak hm.g))⟩
end Go.Proofs.YtdoooppeiphefaaGreatDoor
