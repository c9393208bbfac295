/- Several texts as one: Lo Fp -/
import Derived.Test.YtjecbkgjabnmoaaGreatDoorPb
import Derived.Test.YtjecbkgjabnmoaaGreatDoorPa
import Derived.Test.YtjecbkgjabnmoaaGreatDoorPe
set_option maxRecDepth 100000
set_option maxHeartbeats 4000000
namespace Go.Proofs.YtjecbkgjabnmoaaGreatDoor
open Go.RowKit
theorem b_ne_selfL (a : ByteArray) : (!(a.toList == a.toList)) = false := by simp
theorem nanL (a : ByteArray) (w : World) : Calls Tryz.prog 225 #[.string a] w (fun e w' => e = .returned (.bool false) ∧ w.grownBy w' none) := by
 refine gw_enter ⟨6, w, none, []⟩ Tryz.func225 rfl Tryz.ntmps225 rfl (mem0 (X := []) allF_nil allL_nil) ?_
 refine sr_ (sg_ rfl (nn_ (sr_ (mv_ rfl (mv_ rfl (wl_ov (ov_sneq rfl rfl) rfl ?_))))))
 refine wl_set 5 (v' := .bool false) rfl (congrArg Value.bool (b_ne_selfL a)) ?_
 refine sg_ rfl (nn_ ?_)
 refine gw_ret ?_
 refine nx_ret1 rfl rfl fun wx hm => ?_
 exact ⟨rfl, hm.g⟩
theorem cmpL (a b : ByteArray) (w : World) : Calls Tryz.prog 159 #[.string a, .string b] w (fun e w' => e = .returned (.int .i64 (cmpS a b)) ∧ w.grownBy w' none) := by
 refine gw_enter ⟨20, w, none, []⟩ Tryz.func159 rfl Tryz.ntmps159 rfl (mem0 (X := []) allF_nil allL_nil) ?_
 refine sr_ (sg_ rfl (nn_ (sr_ (mv_ rfl ?_))))
 refine wl_callv rfl cb225 rfl rfl (fun wx hm => (nanL _ wx)) ?_
 refine sg_ rfl (nn_ (sr_ (mv_ rfl ?_)))
 refine wl_callv rfl cb225 rfl rfl (fun wx hm => (nanL _ wx)) ?_
 refine sg_ rfl (nn_ (gw_seq (sr_ (mv_ rfl (nn_ (cf_ rfl (gw_skip (nx_then (gw_seq (gw_seq ?_))))))))))
 refine gw_region (mv_ rfl (nn_ (cf_ rfl (gw_skip (nx_then (gw_seq (sr_ (mv_ rfl (mv_ rfl ?_)))))))))
 refine wl_ov (ov_slss rfl rfl) rfl ?_
 refine nn_ ?_
 refine gw_cond rfl (fun hh => ?_) (fun hh => ?_)
 ·have h1 : (Op.bytesLess a.toList b.toList) = true := by simpa using hh
  clear hh
  refine sr_ (sg_ rfl ?_)
  refine wl_set 4 (v' := .int .i64 (-1)) rfl rfl ?_
  refine nn_ ?_
  refine gw_ret ?_
  refine nx_then_ret ?_
  refine nx_ret1 rfl rfl fun wx hm => ?_
  refine ⟨?_, hm.g⟩
  unfold cmpS; rw [if_pos h1]
 have h1 : (Op.bytesLess a.toList b.toList) = false := by simpa using hh
 clear hh
 refine gw_skip (nx_then (gw_seq (sr_ (mv_ rfl (mv_ rfl ?_)))))
 refine wl_ov (ov_sgtr rfl rfl) rfl ?_
 refine nn_ ?_
 refine gw_cond rfl (fun hh => ?_) (fun hh => ?_)
 ·have h2 : (Op.bytesLess a.toList b.toList || a.toList == b.toList) = false := by simpa only [Bool.not_eq_true', Bool.not_eq_false'] using hh
  clear hh
  refine sr_ (sg_ rfl (nn_ ?_))
  refine gw_ret ?_
  refine nx_then_ret ?_
  refine nx_ret1 rfl rfl fun wx hm => ?_
  refine ⟨?_, hm.g⟩
  unfold cmpS; rw [if_neg (by rw [h1]; decide), if_pos h2]
 have h2 : (Op.bytesLess a.toList b.toList || a.toList == b.toList) = true := by simpa only [Bool.not_eq_true', Bool.not_eq_false'] using hh
 clear hh
 refine gw_skip (nx_then (sr_ (sg_ rfl (nn_ ?_))))
 refine gw_ret ?_
 refine nx_ret1 rfl rfl fun wx hm => ?_
 refine ⟨?_, hm.g⟩
 unfold cmpS; rw [if_neg (by rw [h1]; decide), if_neg (by rw [h2]; decide)]
theorem hasL1 (gk : Nat) (w : World) (hk : Blk w gk 9 [.string ⟨#[115]⟩]) : Calls Tryz.prog 191 #[.agg #[.string ⟨#[115]⟩, .int .i64 0, .int .i64 0, .int .i64 0, .int .i64 0, .int .i64 0, .int .i64 0, .int .i64 0, .int .i64 0, .int .i64 0, .int .i64 0, .int .i64 0, .int .i64 0, .int .i64 0, .int .i64 0], .pointer (some ⟨gk, 0, none⟩)] w (fun e w' => e = .returned (.bool true) ∧ w.grownBy w' none) := by
 refine gw_enter ⟨8, w, none, []⟩ Tryz.func191 rfl Tryz.ntmps191 rfl (mem0 (X := [BlkOld w.heap.size none gk 9 [.string ⟨#[115]⟩]]) (allF_cons hk.old allF_nil) (allL_cons BlkOld.lasts allL_nil)) ?_
 refine sr_ ?_
 refine wl_box rfl rfl rfl fun g1 => ?_
 refine sg_ rfl (nn_ (sr_ (fd_ fo140_0 rfl rfl (lk_ sc9 0 rfl rfl rfl ?_))))
 refine wl_ov (ov_load (v := .string ⟨#[115]⟩) sc9 rfl (fun _ hm => (hm.fact 0 rfl).2) rfl) rfl ?_
 refine wl_ov (ov_seql rfl rfl) rfl ?_
 refine wl_set 7 (v' := .bool true) rfl (congrArg Value.bool (by decide +kernel)) ?_
 refine sg_ rfl (nn_ ?_)
 refine gw_ret ?_
 refine nx_ret1 rfl rfl fun wx hm => ?_
 exact ⟨rfl, hm.g⟩
theorem ixL (gs : Nat) (gk : Nat) (w : World) (hbs : Blk w gs 140 [.string ⟨#[115]⟩, .int .i64 0, .int .i64 0, .int .i64 0, .int .i64 0, .int .i64 0, .int .i64 0, .int .i64 0, .int .i64 0, .int .i64 0, .int .i64 0, .int .i64 0, .int .i64 0, .int .i64 0, .int .i64 0]) (hk : Blk w gk 9 [.string ⟨#[115]⟩]) : Calls Tryz.prog 127 #[.slice (some ⟨gs, 0, none⟩) 1 1, .func (.func 191) #[] #[.pointer (some ⟨gk, 0, none⟩)]] w (fun e w' => e = .returned (.int .i64 0) ∧ w.grownBy w' none) := by
 refine gw_enter ⟨19, w, none, []⟩ Tryz.func127 rfl Tryz.ntmps127 rfl (mem0 (X := [BlkOld w.heap.size none gs 140 [.string ⟨#[115]⟩, .int .i64 0, .int .i64 0, .int .i64 0, .int .i64 0, .int .i64 0, .int .i64 0, .int .i64 0, .int .i64 0, .int .i64 0, .int .i64 0, .int .i64 0, .int .i64 0, .int .i64 0, .int .i64 0], BlkOld w.heap.size none gk 9 [.string ⟨#[115]⟩]]) (allF_cons hbs.old (allF_cons hk.old allF_nil)) (allL_cons BlkOld.lasts (allL_cons BlkOld.lasts allL_nil))) ?_
 refine sr_ (sg_ rfl (nn_ (gw_seq (sr_ (mv_ rfl (wl_ov (ov_len es26 rfl) rfl ?_))))))
 refine wl_set 7 (v' := .int .i64 1) rfl rfl ?_
 refine mv_ rfl (nn_ (gw_block ?_))
 refine gw_rounds 4 ?_
 refine gr_next ?_
 refine sr_ (wl_ov (ov_lss rfl rfl) rfl ?_)
 refine wl_set 9 (v' := .bool true) rfl (congrArg Value.bool (by decide)) ?_
 refine nn_ (gw_seq (ct_ rfl (gw_skip (nx_then (gw_seq (gw_block (sr_ (mv_ rfl (sg_ rfl (nn_ ?_))))))))))
 refine sr_ (mv_ rfl (mv_ rfl (mv_ rfl ?_)))
 refine wl_ov (ov_index (j := 0) es26 rfl rfl (by decide)) rfl ?_
 refine wl_ov (ov_loads (vs := [.string ⟨#[115]⟩, .int .i64 0, .int .i64 0, .int .i64 0, .int .i64 0, .int .i64 0, .int .i64 0, .int .i64 0, .int .i64 0, .int .i64 0, .int .i64 0, .int .i64 0, .int .i64 0, .int .i64 0, .int .i64 0]) rz140 rfl (fun _ hm => (hm.fact 0 rfl).2) rfl rfl) rfl ?_
 refine wl_callv rfl cb191 rfl rfl (fun wx hm => (hasL1 gk wx (hm.fact 1 rfl).2)) ?_
 refine nn_ (ct_ rfl (sr_ (mv_ rfl (sg_ rfl (nn_ ?_)))))
 refine gw_ret ?_
 refine nx_blk_ret (nx_then_ret (nx_then_ret (nx_blk_ret (nx_then_ret ?_))))
 refine nx_ret1 rfl rfl fun wx hm => ?_
 exact ⟨rfl, hm.g⟩
theorem cfL (gs : Nat) (gk : Nat) (w : World) (hbs : Blk w gs 140 [.string ⟨#[115]⟩, .int .i64 0, .int .i64 0, .int .i64 0, .int .i64 0, .int .i64 0, .int .i64 0, .int .i64 0, .int .i64 0, .int .i64 0, .int .i64 0, .int .i64 0, .int .i64 0, .int .i64 0, .int .i64 0]) (hk : Blk w gk 9 [.string ⟨#[115]⟩]) : Calls Tryz.prog 190 #[.slice (some ⟨gs, 0, none⟩) 1 1, .func (.func 191) #[] #[.pointer (some ⟨gk, 0, none⟩)]] w (fun e w' => e = .returned (.bool true) ∧ w.grownBy w' none) := by
 refine gw_enter ⟨9, w, none, []⟩ Tryz.func190 rfl Tryz.ntmps190 rfl (mem0 (X := [BlkOld w.heap.size none gs 140 [.string ⟨#[115]⟩, .int .i64 0, .int .i64 0, .int .i64 0, .int .i64 0, .int .i64 0, .int .i64 0, .int .i64 0, .int .i64 0, .int .i64 0, .int .i64 0, .int .i64 0, .int .i64 0, .int .i64 0, .int .i64 0], BlkOld w.heap.size none gk 9 [.string ⟨#[115]⟩]]) (allF_cons hbs.old (allF_cons hk.old allF_nil)) (allL_cons BlkOld.lasts (allL_cons BlkOld.lasts allL_nil))) ?_
 refine sr_ (sg_ rfl (nn_ (sr_ (mv_ rfl (mv_ rfl ?_)))))
 refine wl_callv rfl cb127 rfl rfl (fun wx hm => (ixL gs gk wx (hm.fact 0 rfl).2 (hm.fact 1 rfl).2)) ?_
 refine wl_ov (ov_geq rfl rfl) rfl ?_
 refine wl_set 8 (v' := .bool true) rfl (congrArg Value.bool (by decide)) ?_
 refine sg_ rfl (nn_ ?_)
 refine gw_ret ?_
 refine nx_ret1 rfl rfl fun wx hm => ?_
 exact ⟨rfl, hm.g⟩
theorem hasStL (gs : Nat) (gc : Nat) (gv : Nat) (w : World) (hbs : Blk w gs 140 [.string ⟨#[115]⟩, .int .i64 0, .int .i64 0, .int .i64 0, .int .i64 0, .int .i64 0, .int .i64 0, .int .i64 0, .int .i64 0, .int .i64 0, .int .i64 0, .int .i64 0, .int .i64 0, .int .i64 0, .int .i64 0]) (hbc : Blk w gc 159 [.string ⟨#[99]⟩, .string ⟨#[]⟩]) (hbv : Blk w gv 77 [.string ⟨#[118]⟩, .string ⟨#[99]⟩]) : Calls Tryz.prog 120 #[.agg #[.slice (some ⟨gs, 0, none⟩) 1 1, .slice (some ⟨gc, 0, none⟩) 1 1, .slice (some ⟨gv, 0, none⟩) 1 1, .slice none 0 0], .string ⟨#[115]⟩] w (fun e w' => e = .returned (.bool true) ∧ w.grownBy w' none) := by
 refine gw_enter ⟨9, w, none, []⟩ Tryz.func120 rfl Tryz.ntmps120 rfl (mem0 (X := [BlkOld w.heap.size none gs 140 [.string ⟨#[115]⟩, .int .i64 0, .int .i64 0, .int .i64 0, .int .i64 0, .int .i64 0, .int .i64 0, .int .i64 0, .int .i64 0, .int .i64 0, .int .i64 0, .int .i64 0, .int .i64 0, .int .i64 0, .int .i64 0], BlkOld w.heap.size none gc 159 [.string ⟨#[99]⟩, .string ⟨#[]⟩], BlkOld w.heap.size none gv 77 [.string ⟨#[118]⟩, .string ⟨#[99]⟩]]) (allF_cons hbs.old (allF_cons hbc.old (allF_cons hbv.old allF_nil))) (allL_cons BlkOld.lasts (allL_cons BlkOld.lasts (allL_cons BlkOld.lasts allL_nil)))) ?_
 refine sr_ ?_
 refine wl_box rfl rfl rfl fun g1 => ?_
 refine wl_box rfl rfl rfl fun g2 => ?_
 refine sg_ rfl (nn_ (sr_ (fd_ fo31_0 rfl rfl (lk_ sc26 1 rfl rfl rfl (wl_ov (ov_makeFunc rfl rfl) rfl ?_)))))
 refine wl_callv rfl cb190 rfl rfl (fun wx hm => (cfL gs _ wx (hm.fact 0 rfl).2 (hm.blkI 0 rfl))) ?_
 refine sg_ rfl (nn_ ?_)
 refine gw_ret ?_
 refine nx_ret1 rfl rfl fun wx hm => ?_
 exact ⟨rfl, hm.g⟩
theorem vL1 (w : World) : Calls Tryz.prog 165 #[.agg #[.string ⟨#[118]⟩, .string ⟨#[99]⟩], .string ⟨#[118]⟩] w (fun e w' => e = .returned (.int .i64 0) ∧ w.grownBy w' none) := by
 refine gw_enter ⟨9, w, none, []⟩ Tryz.func165 rfl Tryz.ntmps165 rfl (mem0 (X := []) allF_nil allL_nil) ?_
 refine sr_ ?_
 refine wl_box rfl rfl rfl fun g1 => ?_
 refine sg_ rfl (nn_ (sr_ (fd_ fo77_0 rfl rfl (lk_ sc9 0 rfl rfl rfl (mv_ rfl ?_)))))
 refine wl_callv (v := .int .i64 0) rfl cb159 rfl rfl (fun wx hm => (by have h := cmpL ⟨#[118]⟩ ⟨#[118]⟩ wx; rw [show cmpS ⟨#[118]⟩ ⟨#[118]⟩ = 0 by decide +kernel] at h; exact h)) ?_
 refine sg_ rfl (nn_ ?_)
 refine gw_ret ?_
 refine nx_ret1 rfl rfl fun wx hm => ?_
 exact ⟨rfl, hm.g⟩
theorem bsL (gv : Nat) (w : World) (hbv : Blk w gv 77 [.string ⟨#[118]⟩, .string ⟨#[99]⟩]) : Calls Tryz.prog 164 #[.slice (some ⟨gv, 0, none⟩) 1 1, .string ⟨#[118]⟩, .func (.func 165) #[] #[]] w (fun e w' => e = .returned (.tuple #[.int .i64 0, .bool true]) ∧ w.grownBy w' none) := by
 refine gw_enter ⟨49, w, none, []⟩ Tryz.func164 rfl Tryz.ntmps164 rfl (mem0 (X := [BlkOld w.heap.size none gv 77 [.string ⟨#[118]⟩, .string ⟨#[99]⟩]]) (allF_cons hbv.old allF_nil) (allL_cons BlkOld.lasts allL_nil)) ?_
 refine sr_ (sg_ rfl (sg_ rfl (nn_ (sr_ (mv_ rfl (wl_ov (ov_len es28 rfl) rfl ?_))))))
 refine wl_set 13 (v' := .int .i64 1) rfl rfl ?_
 refine sg_ rfl (nn_ (sr_ (mv_ rfl (sg_ rfl (sg_ rfl (nn_ (gw_seq (gw_block ?_))))))))
 refine gw_rounds 4 ?_
 refine gr_next ?_
 refine gw_seq (sr_ (mv_ rfl (mv_ rfl (wl_ov (ov_lss rfl rfl) rfl ?_))))
 refine wl_set 17 (v' := .bool true) rfl (congrArg Value.bool (by decide)) ?_
 refine nn_ (ct_ rfl (gw_skip (nx_then (gw_block (sr_ (mv_ rfl (mv_ rfl (ad_ rfl rfl ?_))))))))
 refine wl_set 20 (v' := .int .i64 1) rfl rfl ?_
 refine wl_ov (ov_u64 (a := 1) (by kernel_rfl) (by kernel_rfl) rfl (by omega)) rfl ?_
 refine wl_ov (ov_shru1 (a := 1) rfl rfl) rfl ?_
 refine wl_ov (ov_i64 (a := 1 / 2) (by kernel_rfl) (by kernel_rfl) rfl (by omega)) rfl ?_
 refine wl_set 23 (v' := .int .i64 0) rfl rfl ?_
 refine sg_ rfl (nn_ (sr_ (mv_ rfl (mv_ rfl (mv_ rfl ?_)))))
 refine wl_ov (ov_index (j := 0) es28 rfl rfl (by decide)) rfl ?_
 refine wl_ov (ov_loads (vs := [.string ⟨#[118]⟩, .string ⟨#[99]⟩]) rz77 rfl (fun _ hm => (hm.fact 0 rfl).2) rfl rfl) rfl ?_
 refine mv_ rfl ?_
 refine wl_callv rfl cb165 rfl rfl (fun wx hm => (vL1 wx)) ?_
 refine wl_ov (ov_lss rfl rfl) rfl ?_
 refine wl_set 31 (v' := .bool false) rfl (congrArg Value.bool (by decide)) ?_
 refine nn_ (cf_ rfl (gw_region (mv_ rfl (sg_ rfl (wl_nil (nx_blk_nrm ?_))))))
 refine nx_next ?_
 refine gr_next ?_
 refine gw_seq (sr_ (mv_ rfl (mv_ rfl (wl_ov (ov_lss rfl rfl) rfl ?_))))
 refine wl_set 17 (v' := .bool false) rfl (congrArg Value.bool (by decide)) ?_
 refine nn_ (cf_ rfl ?_)
 refine gw_exit ?_
 refine nx_then_exit (nx_then_exit ?_)
 refine nx_blk_here ?_
 refine nx_then (sr_ (mv_ rfl (mv_ rfl (mv_ rfl (wl_ov (ov_lss rfl rfl) rfl ?_)))))
 refine wl_set 38 (v' := .bool true) rfl (congrArg Value.bool (by decide)) ?_
 refine mv_ rfl (wl_guard_on rfl rfl rfl (mv_ rfl (wl_guard_on rfl rfl rfl (mv_ rfl (wl_guard_on rfl rfl rfl (mv_ rfl (wl_guard_on rfl rfl rfl ?_)))))))
 refine wl_ov (ov_index (j := 0) es28 rfl rfl (by decide)) rfl ?_
 refine wl_guard_on rfl rfl rfl ?_
 refine wl_ov (ov_loads (vs := [.string ⟨#[118]⟩, .string ⟨#[99]⟩]) rz77 rfl (fun _ hm => (hm.fact 0 rfl).2) rfl rfl) rfl ?_
 refine wl_guard_on rfl rfl rfl (mv_ rfl (wl_guard_on rfl rfl rfl ?_))
 refine wl_callv rfl cb165 rfl rfl (fun wx hm => (vL1 wx)) ?_
 refine wl_guard_on rfl rfl rfl (wl_ov (ov_eql rfl rfl) rfl ?_)
 refine wl_set 47 (v' := .bool true) rfl (congrArg Value.bool (by decide)) ?_
 refine pt_ rfl rfl (sg_ rfl (sg_ rfl (nn_ ?_)))
 refine gw_ret ?_
 refine nx_ret2 rfl rfl rfl fun wx hm => ?_
 exact ⟨rfl, hm.g⟩
theorem vehL (gs : Nat) (gc : Nat) (gv : Nat) (w : World) (hbs : Blk w gs 140 [.string ⟨#[115]⟩, .int .i64 0, .int .i64 0, .int .i64 0, .int .i64 0, .int .i64 0, .int .i64 0, .int .i64 0, .int .i64 0, .int .i64 0, .int .i64 0, .int .i64 0, .int .i64 0, .int .i64 0, .int .i64 0]) (hbc : Blk w gc 159 [.string ⟨#[99]⟩, .string ⟨#[]⟩]) (hbv : Blk w gv 77 [.string ⟨#[118]⟩, .string ⟨#[99]⟩]) : Calls Tryz.prog 80 #[.agg #[.slice (some ⟨gs, 0, none⟩) 1 1, .slice (some ⟨gc, 0, none⟩) 1 1, .slice (some ⟨gv, 0, none⟩) 1 1, .slice none 0 0], .string ⟨#[118]⟩] w (fun e w' => e = .returned (.int .i64 0) ∧ w.grownBy w' none) := by
 refine gw_enter ⟨17, w, none, []⟩ Tryz.func80 rfl Tryz.ntmps80 rfl (mem0 (X := [BlkOld w.heap.size none gs 140 [.string ⟨#[115]⟩, .int .i64 0, .int .i64 0, .int .i64 0, .int .i64 0, .int .i64 0, .int .i64 0, .int .i64 0, .int .i64 0, .int .i64 0, .int .i64 0, .int .i64 0, .int .i64 0, .int .i64 0, .int .i64 0], BlkOld w.heap.size none gc 159 [.string ⟨#[99]⟩, .string ⟨#[]⟩], BlkOld w.heap.size none gv 77 [.string ⟨#[118]⟩, .string ⟨#[99]⟩]]) (allF_cons hbs.old (allF_cons hbc.old (allF_cons hbv.old allF_nil))) (allL_cons BlkOld.lasts (allL_cons BlkOld.lasts (allL_cons BlkOld.lasts allL_nil)))) ?_
 refine sr_ ?_
 refine wl_box rfl rfl rfl fun g1 => ?_
 refine sg_ rfl (nn_ (sr_ (fd_ fo31_2 rfl rfl (lk_ sc28 0 rfl rfl rfl (mv_ rfl ?_)))))
 refine wl_callv rfl cb164 rfl rfl (fun wx hm => (bsL gv wx (hm.fact 2 rfl).2)) ?_
 refine mv_ rfl (wl_ov (ov_extract rfl rfl) rfl (wl_ov (ov_extract rfl rfl) rfl (sg_ rfl (sg_ rfl (nn_ (gw_seq (sr_ (mv_ rfl (wl_ov (ov_un_not rfl) rfl ?_)))))))))
 refine wl_set 15 (v' := .bool false) rfl (congrArg Value.bool (by decide)) ?_
 refine nn_ (cf_ rfl (gw_skip (nx_then (sr_ (mv_ rfl (sg_ rfl (nn_ ?_)))))))
 refine gw_ret ?_
 refine nx_ret1 rfl rfl fun wx hm => ?_
 exact ⟨rfl, hm.g⟩
theorem oneS_ok : ∀ x ∈ [(⟨⟨#[115]⟩, [0, 0, 0, 0, 0, 0, 0, 0, 0, 0, 0, 0, 0, 0]⟩ : St)], StOk x := fun x hx => by
  rw [List.mem_singleton.1 hx]; exact ⟨rfl, by decide, by decide⟩
theorem oneC_ok : ∀ x ∈ [(⟨⟨#[99]⟩, ⟨#[]⟩⟩ : Cs)], CsOk x := fun x hx => by
  rw [List.mem_singleton.1 hx]; exact ⟨by decide, by decide⟩
theorem oneS_zero : stationsE [(⟨⟨#[115]⟩, [0, 0, 0, 0, 0, 0, 0, 0, 0, 0, 0, 0, 0, 0]⟩ : St)] = 0 := by decide +kernel
theorem oneC_zero : classesE [(⟨⟨#[99]⟩, ⟨#[]⟩⟩ : Cs)] = 0 := by decide +kernel
theorem oneC_ix : ixP (csP ⟨#[99]⟩) [(⟨⟨#[99]⟩, ⟨#[]⟩⟩ : Cs)] 0 = 0 := by decide +kernel
theorem slS {w : World} {g : Nat} (h : Blk w g 140 [.string ⟨#[115]⟩, .int .i64 0, .int .i64 0, .int .i64 0, .int .i64 0, .int .i64 0, .int .i64 0, .int .i64 0, .int .i64 0, .int .i64 0, .int .i64 0, .int .i64 0, .int .i64 0, .int .i64 0, .int .i64 0]) : SlT stEnc 15 140 w (some ⟨g, 0, none⟩) 1 [(⟨⟨#[115]⟩, [0, 0, 0, 0, 0, 0, 0, 0, 0, 0, 0, 0, 0, 0]⟩ : St)] := ⟨rfl, fun _ => ⟨g, 0, _, _, rfl, h, fun i x hx j v hv => by
  match i, hx with
  | 0, hx =>
    simp only [List.getElem?_cons_zero, Option.some.injEq] at hx
    subst hx
    rw [show 0 + 0 * 15 + j = j by omega, List.getElem?_toArray]; exact hv
  | i + 1, hx => simp at hx⟩⟩
theorem platesL (gs : Nat) (gc : Nat) (gv : Nat) (w : World) (hbs : Blk w gs 140 [.string ⟨#[115]⟩, .int .i64 0, .int .i64 0, .int .i64 0, .int .i64 0, .int .i64 0, .int .i64 0, .int .i64 0, .int .i64 0, .int .i64 0, .int .i64 0, .int .i64 0, .int .i64 0, .int .i64 0, .int .i64 0]) (hbc : Blk w gc 159 [.string ⟨#[99]⟩, .string ⟨#[]⟩]) (hbv : Blk w gv 77 [.string ⟨#[118]⟩, .string ⟨#[99]⟩]) : Calls Tryz.prog 99 #[.agg #[.slice (some ⟨gs, 0, none⟩) 1 1, .slice (some ⟨gc, 0, none⟩) 1 1, .slice (some ⟨gv, 0, none⟩) 1 1, .slice none 0 0]] w (fun e w' => e = .returned (.int .i64 0) ∧ w.grownBy w' none) := by
 refine gw_enter ⟨97, w, none, []⟩ Tryz.func99 rfl Tryz.ntmps99 rfl (mem0 (X := [BlkOld w.heap.size none gs 140 [.string ⟨#[115]⟩, .int .i64 0, .int .i64 0, .int .i64 0, .int .i64 0, .int .i64 0, .int .i64 0, .int .i64 0, .int .i64 0, .int .i64 0, .int .i64 0, .int .i64 0, .int .i64 0, .int .i64 0, .int .i64 0], BlkOld w.heap.size none gc 159 [.string ⟨#[99]⟩, .string ⟨#[]⟩], BlkOld w.heap.size none gv 77 [.string ⟨#[118]⟩, .string ⟨#[99]⟩]]) (allF_cons hbs.old (allF_cons hbc.old (allF_cons hbv.old allF_nil))) (allL_cons BlkOld.lasts (allL_cons BlkOld.lasts (allL_cons BlkOld.lasts allL_nil)))) ?_
 refine sr_ ?_
 refine wl_box rfl rfl rfl fun g1 => ?_
 refine sg_ rfl (nn_ (gw_seq (sr_ (fd_ fo31_3 rfl rfl (lk_ sc29 0 rfl rfl rfl (wl_ov (ov_len es29 rfl) rfl ?_))))))
 refine wl_set 10 (v' := .int .i64 0) rfl rfl ?_
 refine wl_ov (ov_gtr rfl rfl) rfl ?_
 refine wl_set 11 (v' := .bool false) rfl (congrArg Value.bool (by decide)) ?_
 refine nn_ (cf_ rfl (gw_skip (nx_then (gw_seq (sr_ (fd_ fo31_3 rfl rfl (lk_ sc29 0 rfl rfl rfl (wl_ov (ov_len es29 rfl) rfl ?_))))))))
 refine wl_set 14 (v' := .int .i64 0) rfl rfl ?_
 refine mv_ rfl (nn_ (gw_block ?_))
 refine gw_rounds 4 ?_
 refine gr_next ?_
 refine sr_ (wl_ov (ov_lss rfl rfl) rfl ?_)
 refine wl_set 16 (v' := .bool false) rfl (congrArg Value.bool (by decide)) ?_
 refine nn_ (gw_seq (cf_ rfl ?_))
 refine gw_exit ?_
 refine nx_then_exit (nx_then_exit ?_)
 refine nx_blk_here ?_
 refine nx_then (sr_ (sg_ rfl (nn_ ?_)))
 refine gw_ret ?_
 refine nx_ret1 rfl rfl fun wx hm => ?_
 exact ⟨rfl, hm.g⟩
theorem fleetL (gs : Nat) (gc : Nat) (gv : Nat) (w : World) (hbs : Blk w gs 140 [.string ⟨#[115]⟩, .int .i64 0, .int .i64 0, .int .i64 0, .int .i64 0, .int .i64 0, .int .i64 0, .int .i64 0, .int .i64 0, .int .i64 0, .int .i64 0, .int .i64 0, .int .i64 0, .int .i64 0, .int .i64 0]) (hbc : Blk w gc 159 [.string ⟨#[99]⟩, .string ⟨#[]⟩]) (hbv : Blk w gv 77 [.string ⟨#[118]⟩, .string ⟨#[99]⟩]) : Calls Tryz.prog 23 #[.agg #[.slice (some ⟨gs, 0, none⟩) 1 1, .slice (some ⟨gc, 0, none⟩) 1 1, .slice (some ⟨gv, 0, none⟩) 1 1, .slice none 0 0]] w (fun e w' => e = .returned (.int .i64 0) ∧ w.grownBy w' none) := by
 refine gw_enter ⟨60, w, none, []⟩ Tryz.func23 rfl Tryz.ntmps23 rfl (mem0 (X := [BlkOld w.heap.size none gs 140 [.string ⟨#[115]⟩, .int .i64 0, .int .i64 0, .int .i64 0, .int .i64 0, .int .i64 0, .int .i64 0, .int .i64 0, .int .i64 0, .int .i64 0, .int .i64 0, .int .i64 0, .int .i64 0, .int .i64 0, .int .i64 0], BlkOld w.heap.size none gc 159 [.string ⟨#[99]⟩, .string ⟨#[]⟩], BlkOld w.heap.size none gv 77 [.string ⟨#[118]⟩, .string ⟨#[99]⟩]]) (allF_cons hbs.old (allF_cons hbc.old (allF_cons hbv.old allF_nil))) (allL_cons BlkOld.lasts (allL_cons BlkOld.lasts (allL_cons BlkOld.lasts allL_nil)))) ?_
 refine sr_ ?_
 refine wl_box rfl rfl rfl fun g1 => ?_
 refine sg_ rfl (nn_ (gw_seq (gw_seq ?_)))
 refine gd (fun wz => Blk wz g1 31 [.slice (some ⟨gs, 0, none⟩) 1 1, .slice (some ⟨gc, 0, none⟩) 1 1, .slice (some ⟨gv, 0, none⟩) 1 1, .slice none 0 0] ∧ (BlkOld w.heap.size none gs 140 [.string ⟨#[115]⟩, .int .i64 0, .int .i64 0, .int .i64 0, .int .i64 0, .int .i64 0, .int .i64 0, .int .i64 0, .int .i64 0, .int .i64 0, .int .i64 0, .int .i64 0, .int .i64 0, .int .i64 0, .int .i64 0]) wz ∧ (BlkOld w.heap.size none gc 159 [.string ⟨#[99]⟩, .string ⟨#[]⟩]) wz ∧ (BlkOld w.heap.size none gv 77 [.string ⟨#[118]⟩, .string ⟨#[99]⟩]) wz ∧ True) mixed (fun _ hm => ⟨hm.bl 0, hm.fa 0, hm.fa 1, hm.fa 2, trivial⟩) fun z => ?_
 refine wt 0 14 1 rfl z (ov_field fo31_0 rfl rfl) ?_
 refine wt 1 14 3 rfl z (ov_load sc26 rfl (fun _ hm => hm.1) rfl) ?_
 refine wt 3 14 11 rfl z (ov_field fo31_1 rfl rfl) ?_
 refine wt 4 14 27 rfl z (ov_load sc27 rfl (fun _ hm => hm.1) rfl) ?_
 refine wt 6 14 91 rfl z (ov_field fo31_2 rfl rfl) ?_
 refine wt 7 14 219 rfl z (ov_load sc28 rfl (fun _ hm => hm.1) rfl) ?_
 refine wt 8 14 475 rfl z (ov_len es28 rfl) ?_
 refine wa_set 14 (v' := .int .i64 1) rfl rfl ?_
 refine wt 9 14 987 rfl z (ov_gtr rfl rfl) ?_
 refine wa_set 15 (v' := .bool false) rfl (congrArg Value.bool (by decide)) ?_
 refine wa1 2 rfl ?_
 refine wl_callv (v := .int .i64 0) rfl cb95 rfl rfl (fun wx hm => (by have h := checkStations_any [(⟨⟨#[115]⟩, [0, 0, 0, 0, 0, 0, 0, 0, 0, 0, 0, 0, 0, 0]⟩ : St)] _ 1 1 wx (slS (hm.fact 0 rfl).2) oneS_ok (by omega); rw [oneS_zero] at h; exact h)) ?_
 refine wl_nil ?_
 refine nw 14 991 (fun _ hm => ⟨hm.bl 0, hm.fa 0, hm.fa 1, hm.fa 2, trivial⟩) fun z => ?_
 refine wa1 5 rfl ?_
 refine wl_callv (v := .int .i64 0) rfl cb96 rfl rfl (fun wx hm => (by have h := checkClasses_any [(⟨⟨#[99]⟩, ⟨#[]⟩⟩ : Cs)] _ 1 1 wx (SlT.ofBlk (l := [(⟨⟨#[99]⟩, ⟨#[]⟩⟩ : Cs)]) cs_len (hm.fact 1 rfl).2) oneC_ok (by omega); rw [oneC_zero] at h; exact h)) ?_
 refine wl_nil ?_
 refine nw 14 1023 (fun _ hm => ⟨hm.bl 0, hm.fa 0, hm.fa 1, hm.fa 2, trivial⟩) fun z => ?_
 refine wa1 10 rfl ?_
 refine wl_callw (v := .int .i64 0) rfl cb79 rfl rfl (fun wx hm => (by have h := when_any false 2 wx; rw [show whenE false 2 = 0 by decide +kernel] at h; exact h)) ?_
 refine wl_nil ?_
 refine nw 14 2047 (fun _ hm => ⟨hm.bl 0, hm.fa 0, hm.fa 1, hm.fa 2, trivial⟩) fun z => ?_
 refine wa1 11 rfl ?_
 refine wl_buildSlice (e := 35) (cs := [.int .i64 0, .int .i64 0, .int .i64 0]) rfl (by kernel_rfl) rfl fun g2 => ?_
 refine wl_nil ?_
 refine nw 14 4095 (fun _ hm => ⟨hm.bl 1, hm.fa 0, hm.fa 1, hm.fa 2, trivial⟩) fun z => ?_
 refine wa1 12 rfl ?_
 refine wl_callw (v := .int .i64 0) rfl cb78 rfl rfl (fun wx hm => (by have h := first_any [0, 0, 0] g2 3 _ wx (hm.blkI 0 rfl) (by simp); rw [show firstE [0, 0, 0] = 0 by decide] at h; exact h)) ?_
 refine wl_nil ?_
 refine nw 14 8191 (fun _ hm => ⟨hm.bl 1, hm.fa 0, hm.fa 1, hm.fa 2, trivial⟩) fun z => ?_
 refine wt 13 14 16383 rfl z (ov_assign rfl) ?_
 refine wa_done (by kernel_rfl) ?_
 refine nx_then (sr_ (mv_ rfl (wl_ov (ov_neq rfl rfl) rfl ?_)))
 refine wl_set 20 (v' := .bool false) rfl (congrArg Value.bool (by decide)) ?_
 refine nn_ (cf_ rfl (gw_skip (nx_then (gw_seq (sr_ (fd_ fo31_2 rfl rfl (lk_ sc28 1 rfl rfl rfl (wl_ov (ov_len es28 rfl) rfl ?_))))))))
 refine wl_set 24 (v' := .int .i64 1) rfl rfl ?_
 refine mv_ rfl (nn_ (gw_block ?_))
 refine gw_rounds 4 ?_
 refine gr_next ?_
 refine sr_ (wl_ov (ov_lss rfl rfl) rfl ?_)
 refine wl_set 26 (v' := .bool true) rfl (congrArg Value.bool (by decide)) ?_
 refine nn_ (gw_seq (ct_ rfl (gw_skip (nx_then (gw_seq (gw_block (sr_ (mv_ rfl ?_))))))))
 refine wl_ov (ov_index (j := 0) es28 rfl rfl (by decide)) rfl ?_
 refine wl_ov (ov_loads (vs := [.string ⟨#[118]⟩, .string ⟨#[99]⟩]) rz77 rfl (fun _ hm => (hm.fact 2 rfl).2) rfl rfl) rfl ?_
 refine wl_alloc zc77 rfl fun g3 => ?_
 refine sg_ rfl ?_
 refine wl_stores (cs' := [.string ⟨#[118]⟩, .string ⟨#[99]⟩]) 0 rz77 rfl rfl rfl rfl rfl rfl rfl rfl ?_
 refine nn_ (gw_block (sr_ (fd_ fo77_0 rfl rfl (lk_ sc9 0 rfl rfl rfl ?_))))
 refine wl_callw (v := .bool true) rfl cb97 rfl rfl (fun wx hm => (by have h := isKey_any ⟨#[118]⟩ wx (by decide); rw [show keyB ⟨#[118]⟩ = true by decide +kernel] at h; exact h)) ?_
 refine wl_ov (ov_un_not rfl) rfl ?_
 refine wl_set 34 (v' := .bool false) rfl (congrArg Value.bool (by decide)) ?_
 refine sg_ rfl (nn_ (cf_ rfl (gw_seq ?_)))
 refine gd (fun wz => Blk wz g3 77 [.string ⟨#[118]⟩, .string ⟨#[99]⟩] ∧ Blk wz g2 35 [.int .i64 0, .int .i64 0, .int .i64 0] ∧ Blk wz g1 31 [.slice (some ⟨gs, 0, none⟩) 1 1, .slice (some ⟨gc, 0, none⟩) 1 1, .slice (some ⟨gv, 0, none⟩) 1 1, .slice none 0 0] ∧ (BlkOld w.heap.size none gs 140 [.string ⟨#[115]⟩, .int .i64 0, .int .i64 0, .int .i64 0, .int .i64 0, .int .i64 0, .int .i64 0, .int .i64 0, .int .i64 0, .int .i64 0, .int .i64 0, .int .i64 0, .int .i64 0, .int .i64 0, .int .i64 0]) wz ∧ (BlkOld w.heap.size none gc 159 [.string ⟨#[99]⟩, .string ⟨#[]⟩]) wz ∧ (BlkOld w.heap.size none gv 77 [.string ⟨#[118]⟩, .string ⟨#[99]⟩]) wz ∧ True) mixed (fun _ hm => ⟨hm.bl 0, hm.bl 1, hm.bl 2, hm.fa 0, hm.fa 1, hm.fa 2, trivial⟩) fun z => ?_
 refine wt 0 15 1 rfl z (ov_move rfl) ?_
 refine wt 1 15 3 rfl z (ov_gtr rfl rfl) ?_
 refine wa_set 37 (v' := .bool false) rfl (congrArg Value.bool (by decide)) ?_
 refine wt 2 15 7 rfl z (ov_move rfl) ?_
 refine wtf 3 15 15 rfl rfl rfl z ?_
 refine wtf 4 15 31 rfl rfl rfl z ?_
 refine wtf 5 15 63 rfl rfl rfl z ?_
 refine wtf 6 15 127 rfl rfl rfl z ?_
 refine wtf 7 15 255 rfl rfl rfl z ?_
 refine wtf 8 15 511 rfl rfl rfl z ?_
 refine wtf 9 15 1023 rfl rfl rfl z ?_
 refine wtf 10 15 2047 rfl rfl rfl z ?_
 refine wtf 11 15 4095 rfl rfl rfl z ?_
 refine wtf 12 15 8191 rfl rfl rfl z ?_
 refine wt 13 15 16383 rfl z (ov_pick_f rfl rfl) ?_
 refine wt 14 15 32767 rfl z (ov_assign rfl) ?_
 refine wa_done (by kernel_rfl) ?_
 refine nx_then (cf_ rfl (sr_ (fd_ fo31_1 rfl rfl (lk_ sc27 2 rfl rfl rfl (fd_ fo77_1 rfl rfl (lk_ sc9 0 rfl rfl rfl ?_))))))
 refine wl_callv (v := .int .i64 0) rfl cb98 rfl rfl (fun wx hm => (by have h := classAt_any [(⟨⟨#[99]⟩, ⟨#[]⟩⟩ : Cs)] _ 1 1 ⟨#[99]⟩ wx (SlT.ofBlk (l := [(⟨⟨#[99]⟩, ⟨#[]⟩⟩ : Cs)]) cs_len (hm.fact 1 rfl).2) (by omega); rw [oneC_ix] at h; exact h)) ?_
 refine wl_ov (ov_lss rfl rfl) rfl ?_
 refine wl_set 56 (v' := .bool false) rfl (congrArg Value.bool (by decide)) ?_
 refine sg_ rfl (nn_ (cf_ rfl (gw_skip (nx_blk_nrm (nx_blk_nrm (nx_then (gw_region (ad_ rfl rfl ?_))))))))
 refine wl_set 57 (v' := .int .i64 1) rfl rfl ?_
 refine mv_ rfl (wl_nil ?_)
 refine nx_next ?_
 refine gr_next ?_
 refine sr_ (wl_ov (ov_lss rfl rfl) rfl ?_)
 refine wl_set 26 (v' := .bool false) rfl (congrArg Value.bool (by decide)) ?_
 refine nn_ (gw_seq (cf_ rfl ?_))
 refine gw_exit ?_
 refine nx_then_exit (nx_then_exit ?_)
 refine nx_blk_here ?_
 refine nx_then (sr_ ?_)
 refine wl_ov (ov_loads rz31 rfl (fun _ hm => hm.blkI 2 rfl) rfl rfl) rfl ?_
 refine wl_callv rfl cb99 rfl rfl (fun wx hm => (platesL gs gc gv wx (hm.fact 0 rfl).2 (hm.fact 1 rfl).2 (hm.fact 2 rfl).2)) ?_
 refine sg_ rfl (nn_ ?_)
 refine gw_ret ?_
 refine nx_ret1 rfl rfl fun wx hm => ?_
 exact ⟨rfl, hm.g⟩
theorem momL (w : World) : Calls Tryz.prog 166 #[.int .i64 5] w (fun e w' => e = .returned (.bool true) ∧ w.grownBy w' none) := by
 refine gw_enter ⟨5, w, none, []⟩ Tryz.func166 rfl Tryz.ntmps166 rfl (mem0 (X := []) allF_nil allL_nil) ?_
 refine sr_ (sg_ rfl (nn_ (sr_ (mv_ rfl ?_))))
 refine wl_callw (v := .bool true) rfl cb126 rfl rfl (fun wx hm => (by have h := in_any 5 0 5761439 wx; rw [show inB 5 0 5761439 = true by decide +kernel] at h; exact h)) ?_
 refine sg_ rfl (nn_ ?_)
 refine gw_ret ?_
 refine nx_ret1 rfl rfl fun wx hm => ?_
 exact ⟨rfl, hm.g⟩
theorem logL (gs : Nat) (gc : Nat) (gv : Nat) (ge : Nat) (w : World) (hbs : Blk w gs 140 [.string ⟨#[115]⟩, .int .i64 0, .int .i64 0, .int .i64 0, .int .i64 0, .int .i64 0, .int .i64 0, .int .i64 0, .int .i64 0, .int .i64 0, .int .i64 0, .int .i64 0, .int .i64 0, .int .i64 0, .int .i64 0]) (hbc : Blk w gc 159 [.string ⟨#[99]⟩, .string ⟨#[]⟩]) (hbv : Blk w gv 77 [.string ⟨#[118]⟩, .string ⟨#[99]⟩]) (hbe : Blk w ge 92 [.int .i64 5, .string ⟨#[118]⟩, .string ⟨#[115]⟩, .int .i64 1, .string ⟨#[]⟩]) : Calls Tryz.prog 132 #[.agg #[.slice (some ⟨gs, 0, none⟩) 1 1, .slice (some ⟨gc, 0, none⟩) 1 1, .slice (some ⟨gv, 0, none⟩) 1 1, .slice none 0 0], .slice (some ⟨ge, 0, none⟩) 1 1] w (fun e w' => e = .returned (.int .i64 0) ∧ w.grownBy w' none) := by
 refine gw_enter ⟨81, w, none, []⟩ Tryz.func132 rfl Tryz.ntmps132 rfl (mem0 (X := [BlkOld w.heap.size none gs 140 [.string ⟨#[115]⟩, .int .i64 0, .int .i64 0, .int .i64 0, .int .i64 0, .int .i64 0, .int .i64 0, .int .i64 0, .int .i64 0, .int .i64 0, .int .i64 0, .int .i64 0, .int .i64 0, .int .i64 0, .int .i64 0], BlkOld w.heap.size none gc 159 [.string ⟨#[99]⟩, .string ⟨#[]⟩], BlkOld w.heap.size none gv 77 [.string ⟨#[118]⟩, .string ⟨#[99]⟩], BlkOld w.heap.size none ge 92 [.int .i64 5, .string ⟨#[118]⟩, .string ⟨#[115]⟩, .int .i64 1, .string ⟨#[]⟩]]) (allF_cons hbs.old (allF_cons hbc.old (allF_cons hbv.old (allF_cons hbe.old allF_nil)))) (allL_cons BlkOld.lasts (allL_cons BlkOld.lasts (allL_cons BlkOld.lasts (allL_cons BlkOld.lasts allL_nil))))) ?_
 refine sr_ ?_
 refine wl_box rfl rfl rfl fun g1 => ?_
 refine sg_ rfl (nn_ (gw_seq (sr_ (mv_ rfl (wl_ov (ov_len es48 rfl) rfl ?_)))))
 refine wl_set 9 (v' := .int .i64 1) rfl rfl ?_
 refine wl_ov (ov_gtr rfl rfl) rfl ?_
 refine wl_set 10 (v' := .bool false) rfl (congrArg Value.bool (by decide)) ?_
 refine nn_ (cf_ rfl (gw_skip (nx_then (gw_seq (sr_ (mv_ rfl (wl_ov (ov_len es48 rfl) rfl ?_)))))))
 refine wl_set 12 (v' := .int .i64 1) rfl rfl ?_
 refine mv_ rfl (nn_ (gw_block ?_))
 refine gw_rounds 4 ?_
 refine gr_next ?_
 refine sr_ (wl_ov (ov_lss rfl rfl) rfl ?_)
 refine wl_set 14 (v' := .bool true) rfl (congrArg Value.bool (by decide)) ?_
 refine nn_ (gw_seq (ct_ rfl (gw_skip (nx_then (gw_seq (gw_block (sr_ (mv_ rfl ?_))))))))
 refine wl_ov (ov_index (j := 0) es48 rfl rfl (by decide)) rfl ?_
 refine wl_ov (ov_loads (vs := [.int .i64 5, .string ⟨#[118]⟩, .string ⟨#[115]⟩, .int .i64 1, .string ⟨#[]⟩]) rz92 rfl (fun _ hm => (hm.fact 3 rfl).2) rfl rfl) rfl ?_
 refine wl_alloc zc92 rfl fun g2 => ?_
 refine sg_ rfl ?_
 refine wl_stores (cs' := [.int .i64 5, .string ⟨#[118]⟩, .string ⟨#[115]⟩, .int .i64 1, .string ⟨#[]⟩]) 0 rz92 rfl rfl rfl rfl rfl rfl rfl rfl ?_
 refine nn_ (sr_ (fd_ fo92_3 rfl rfl (lk_ sc3 0 rfl rfl rfl (wl_ov (ov_eql rfl rfl) rfl ?_))))
 refine wl_set 20 (v' := .bool false) rfl (congrArg Value.bool (by decide)) ?_
 refine sg_ rfl (nn_ (gw_block (sr_ (fd_ fo92_0 rfl rfl (lk_ sc3 0 rfl rfl rfl ?_)))))
 refine wl_callv rfl cb166 rfl rfl (fun wx hm => (momL wx)) ?_
 refine wl_ov (ov_un_not rfl) rfl ?_
 refine wl_set 25 (v' := .bool false) rfl (congrArg Value.bool (by decide)) ?_
 refine sg_ rfl (nn_ (cf_ rfl (sr_ ?_)))
 refine wl_ov (ov_loads rz31 rfl (fun _ hm => hm.blkI 1 rfl) rfl rfl) rfl ?_
 refine fd_ fo92_1 rfl rfl (lk_ sc9 0 rfl rfl rfl ?_)
 refine wl_callv rfl cb80 rfl rfl (fun wx hm => (vehL gs gc gv wx (hm.fact 0 rfl).2 (hm.fact 1 rfl).2 (hm.fact 2 rfl).2)) ?_
 refine wl_ov (ov_lss rfl rfl) rfl ?_
 refine wl_set 31 (v' := .bool false) rfl (congrArg Value.bool (by decide)) ?_
 refine mv_ rfl (wl_guard_on rfl rfl rfl ?_)
 refine wl_ov (ov_loads rz31 rfl (fun _ hm => hm.blkI 1 rfl) rfl rfl) rfl ?_
 refine wl_guard_on rfl rfl rfl (fd_ fo92_2 rfl rfl (wl_guard_on rfl rfl rfl (lk_ sc9 0 rfl rfl rfl (wl_guard_on rfl rfl rfl ?_))))
 refine wl_callv rfl cb120 rfl rfl (fun wx hm => (hasStL gs gc gv wx (hm.fact 0 rfl).2 (hm.fact 1 rfl).2 (hm.fact 2 rfl).2)) ?_
 refine wl_guard_on rfl rfl rfl (wl_ov (ov_un_not rfl) rfl ?_)
 refine wl_set 37 (v' := .bool false) rfl (congrArg Value.bool (by decide)) ?_
 refine pf_ rfl rfl (sg_ rfl (nn_ (cf_ rfl (sr_ (fd_ fo92_3 rfl rfl (lk_ sc3 0 rfl rfl rfl ?_))))))
 refine wl_callw (v := .bool true) rfl cb126 rfl rfl (fun wx hm => (by have h := in_any 1 1 8 wx; rw [show inB 1 1 8 = true by decide +kernel] at h; exact h)) ?_
 refine wl_ov (ov_un_not rfl) rfl ?_
 refine wl_set 43 (v' := .bool false) rfl (congrArg Value.bool (by decide)) ?_
 refine sg_ rfl (nn_ (cf_ rfl (sr_ (fd_ fo92_4 rfl rfl (lk_ sc9 0 rfl rfl rfl (wl_ov (ov_sneq rfl rfl) rfl ?_))))))
 refine wl_set 47 (v' := .bool false) rfl (congrArg Value.bool (by decide +kernel)) ?_
 refine mv_ rfl (goff rfl rfl rfl (goff rfl rfl rfl (pf_ rfl rfl (sg_ rfl (nn_ (cf_ rfl (sr_ (mv_ rfl (mv_ rfl (goff rfl rfl rfl (goff rfl rfl rfl ?_)))))))))))
 refine goff rfl rfl rfl (goff rfl rfl rfl (goff rfl rfl rfl (pf_ rfl rfl (sg_ rfl (nn_ (cf_ rfl (sr_ (fd_ fo92_4 rfl rfl (lk_ sc9 0 rfl rfl rfl (fd_ fo92_2 rfl rfl (lk_ sc9 0 rfl rfl rfl ?_)))))))))))
 refine wl_ov (ov_seql rfl rfl) rfl ?_
 refine wl_set 66 (v' := .bool false) rfl (congrArg Value.bool (by decide +kernel)) ?_
 refine sg_ rfl (nn_ (cf_ rfl (gw_seq ?_)))
 refine gd (fun wz => Blk wz g2 92 [.int .i64 5, .string ⟨#[118]⟩, .string ⟨#[115]⟩, .int .i64 1, .string ⟨#[]⟩] ∧ Blk wz g1 31 [.slice (some ⟨gs, 0, none⟩) 1 1, .slice (some ⟨gc, 0, none⟩) 1 1, .slice (some ⟨gv, 0, none⟩) 1 1, .slice none 0 0] ∧ (BlkOld w.heap.size none gs 140 [.string ⟨#[115]⟩, .int .i64 0, .int .i64 0, .int .i64 0, .int .i64 0, .int .i64 0, .int .i64 0, .int .i64 0, .int .i64 0, .int .i64 0, .int .i64 0, .int .i64 0, .int .i64 0, .int .i64 0, .int .i64 0]) wz ∧ (BlkOld w.heap.size none gc 159 [.string ⟨#[99]⟩, .string ⟨#[]⟩]) wz ∧ (BlkOld w.heap.size none gv 77 [.string ⟨#[118]⟩, .string ⟨#[99]⟩]) wz ∧ (BlkOld w.heap.size none ge 92 [.int .i64 5, .string ⟨#[118]⟩, .string ⟨#[115]⟩, .int .i64 1, .string ⟨#[]⟩]) wz ∧ True) mixed (fun _ hm => ⟨hm.bl 0, hm.bl 1, hm.fa 0, hm.fa 1, hm.fa 2, hm.fa 3, trivial⟩) fun z => ?_
 refine wt 0 13 1 rfl z (ov_move rfl) ?_
 refine wt 1 13 3 rfl z (ov_gtr rfl rfl) ?_
 refine wa_set 69 (v' := .bool false) rfl (congrArg Value.bool (by decide)) ?_
 refine wt 2 13 7 rfl z (ov_move rfl) ?_
 refine wtf 3 13 15 rfl rfl rfl z ?_
 refine wtf 4 13 31 rfl rfl rfl z ?_
 refine wtf 5 13 63 rfl rfl rfl z ?_
 refine wtf 6 13 127 rfl rfl rfl z ?_
 refine wtf 7 13 255 rfl rfl rfl z ?_
 refine wtf 8 13 511 rfl rfl rfl z ?_
 refine wtf 9 13 1023 rfl rfl rfl z ?_
 refine wtf 10 13 2047 rfl rfl rfl z ?_
 refine wt 11 13 4095 rfl z (ov_pick_f rfl rfl) ?_
 refine wt 12 13 8191 rfl z (ov_assign rfl) ?_
 refine wa_done (by kernel_rfl) ?_
 refine nx_then (cf_ rfl (gw_skip (nx_blk_nrm (nx_blk_nrm (nx_then (gw_region (ad_ rfl rfl ?_)))))))
 refine wl_set 80 (v' := .int .i64 1) rfl rfl ?_
 refine mv_ rfl (wl_nil ?_)
 refine nx_next ?_
 refine gr_next ?_
 refine sr_ (wl_ov (ov_lss rfl rfl) rfl ?_)
 refine wl_set 14 (v' := .bool false) rfl (congrArg Value.bool (by decide)) ?_
 refine nn_ (gw_seq (cf_ rfl ?_))
 refine gw_exit ?_
 refine nx_then_exit (nx_then_exit ?_)
 refine nx_blk_here ?_
 refine nx_then (sr_ (sg_ rfl (nn_ ?_)))
 refine gw_ret ?_
 refine nx_ret1 rfl rfl fun wx hm => ?_
 exact ⟨rfl, hm.g⟩
theorem checkL (gs : Nat) (gc : Nat) (gv : Nat) (ge : Nat) (w : World) (hbs : Blk w gs 140 [.string ⟨#[115]⟩, .int .i64 0, .int .i64 0, .int .i64 0, .int .i64 0, .int .i64 0, .int .i64 0, .int .i64 0, .int .i64 0, .int .i64 0, .int .i64 0, .int .i64 0, .int .i64 0, .int .i64 0, .int .i64 0]) (hbc : Blk w gc 159 [.string ⟨#[99]⟩, .string ⟨#[]⟩]) (hbv : Blk w gv 77 [.string ⟨#[118]⟩, .string ⟨#[99]⟩]) (hbe : Blk w ge 92 [.int .i64 5, .string ⟨#[118]⟩, .string ⟨#[115]⟩, .int .i64 1, .string ⟨#[]⟩]) : Calls Tryz.prog 56 #[.agg #[.slice (some ⟨gs, 0, none⟩) 1 1, .slice (some ⟨gc, 0, none⟩) 1 1, .slice (some ⟨gv, 0, none⟩) 1 1, .slice none 0 0], .slice (some ⟨ge, 0, none⟩) 1 1] w (fun e w' => e = .returned (.int .i64 0) ∧ w.grownBy w' none) := by
 refine gw_enter ⟨14, w, none, []⟩ Tryz.func56 rfl Tryz.ntmps56 rfl (mem0 (X := [BlkOld w.heap.size none gs 140 [.string ⟨#[115]⟩, .int .i64 0, .int .i64 0, .int .i64 0, .int .i64 0, .int .i64 0, .int .i64 0, .int .i64 0, .int .i64 0, .int .i64 0, .int .i64 0, .int .i64 0, .int .i64 0, .int .i64 0, .int .i64 0], BlkOld w.heap.size none gc 159 [.string ⟨#[99]⟩, .string ⟨#[]⟩], BlkOld w.heap.size none gv 77 [.string ⟨#[118]⟩, .string ⟨#[99]⟩], BlkOld w.heap.size none ge 92 [.int .i64 5, .string ⟨#[118]⟩, .string ⟨#[115]⟩, .int .i64 1, .string ⟨#[]⟩]]) (allF_cons hbs.old (allF_cons hbc.old (allF_cons hbv.old (allF_cons hbe.old allF_nil)))) (allL_cons BlkOld.lasts (allL_cons BlkOld.lasts (allL_cons BlkOld.lasts (allL_cons BlkOld.lasts allL_nil))))) ?_
 refine sr_ ?_
 refine wl_box rfl rfl rfl fun g1 => ?_
 refine sg_ rfl (nn_ (gw_seq (sr_ ?_)))
 refine wl_ov (ov_loads rz31 rfl (fun _ hm => hm.blkI 0 rfl) rfl rfl) rfl ?_
 refine wl_callv rfl cb23 rfl rfl (fun wx hm => (fleetL gs gc gv wx (hm.fact 0 rfl).2 (hm.fact 1 rfl).2 (hm.fact 2 rfl).2)) ?_
 refine sg_ rfl (nn_ (sr_ (mv_ rfl (wl_ov (ov_neq rfl rfl) rfl ?_))))
 refine wl_set 9 (v' := .bool false) rfl (congrArg Value.bool (by decide)) ?_
 refine nn_ (cf_ rfl (gw_skip (nx_then (sr_ ?_))))
 refine wl_ov (ov_loads rz31 rfl (fun _ hm => hm.blkI 0 rfl) rfl rfl) rfl ?_
 refine mv_ rfl ?_
 refine wl_callv rfl cb132 rfl rfl (fun wx hm => (logL gs gc gv ge wx (hm.fact 0 rfl).2 (hm.fact 1 rfl).2 (hm.fact 2 rfl).2 (hm.fact 3 rfl).2)) ?_
 refine sg_ rfl (nn_ ?_)
 refine gw_ret ?_
 refine nx_ret1 rfl rfl fun wx hm => ?_
 exact ⟨rfl, hm.g⟩
theorem followL (w : World) : Calls Tryz.prog 105 #[.agg #[.int .i64 0, .string ⟨#[]⟩, .int .i64 0], .agg #[.int .i64 5, .string ⟨#[118]⟩, .string ⟨#[115]⟩, .int .i64 1, .string ⟨#[]⟩]] w (fun e w' => e = .returned (.tuple #[.agg #[.int .i64 1, .string ⟨#[115]⟩, .int .i64 5], .bool true]) ∧ w.grownBy w' none) := by
 refine gw_enter ⟨74, w, none, []⟩ Tryz.func105 rfl Tryz.ntmps105 rfl (mem0 (X := []) allF_nil allL_nil) ?_
 refine sr_ ?_
 refine wl_box rfl rfl rfl fun g1 => ?_
 refine wl_box rfl rfl rfl fun g2 => ?_
 refine wl_alloc zc132 rfl fun g3 => ?_
 refine sg_ rfl (nn_ (sr_ (fd_ fo132_1 rfl rfl (lk_ sc9 2 rfl rfl rfl (fd_ fo92_2 rfl rfl (lk_ sc9 1 rfl rfl rfl (wl_ov (ov_seql rfl rfl) rfl ?_)))))))
 refine wl_set 15 (v' := .bool false) rfl (congrArg Value.bool (by decide +kernel)) ?_
 refine sg_ rfl (nn_ (sr_ (fd_ fo132_0 rfl rfl (lk_ sc3 2 rfl rfl rfl (wl_ov (ov_eql rfl rfl) rfl ?_)))))
 refine wl_set 18 (v' := .bool false) rfl (congrArg Value.bool (by decide)) ?_
 refine mv_ rfl (goff rfl rfl rfl (pf_ rfl rfl (sg_ rfl (nn_ (gw_seq ?_)))))
 refine gd (fun wz => Blk wz g3 132 [.int .i64 0, .string ⟨#[]⟩, .int .i64 0] ∧ Blk wz g2 92 [.int .i64 5, .string ⟨#[118]⟩, .string ⟨#[115]⟩, .int .i64 1, .string ⟨#[]⟩] ∧ Blk wz g1 132 [.int .i64 0, .string ⟨#[]⟩, .int .i64 0] ∧ True) mixed (fun _ hm => ⟨hm.bl 0, hm.bl 1, hm.bl 2, trivial⟩) fun z => ?_
 refine wt 0 5 1 rfl z (ov_field fo92_2 rfl rfl) ?_
 refine wt 1 5 3 rfl z (ov_load sc9 rfl (fun _ hm => hm.2.1) rfl) ?_
 refine wt 2 5 7 rfl z (ov_assign rfl) ?_
 refine wt 3 5 15 rfl z (ov_assign rfl) ?_
 refine wt 4 5 31 rfl z (ov_assign rfl) ?_
 refine wa_done (by kernel_rfl) ?_
 refine nx_then (gw_seq (sr_ (fd_ fo92_3 rfl rfl (lk_ sc3 1 rfl rfl rfl (nn_ (gw_block (sr_ (wl_ov (ov_eql rfl rfl) rfl ?_))))))))
 refine wl_set 27 (v' := .bool true) rfl (congrArg Value.bool (by decide)) ?_
 refine sg_ rfl (nn_ (ct_ rfl ?_))
 refine gd (fun wz => Blk wz g3 132 [.int .i64 0, .string ⟨#[]⟩, .int .i64 0] ∧ Blk wz g2 92 [.int .i64 5, .string ⟨#[118]⟩, .string ⟨#[115]⟩, .int .i64 1, .string ⟨#[]⟩] ∧ Blk wz g1 132 [.int .i64 0, .string ⟨#[]⟩, .int .i64 0] ∧ True) mixed (fun _ hm => ⟨hm.bl 0, hm.bl 1, hm.bl 2, trivial⟩) fun z => ?_
 refine wt 0 5 1 rfl z (ov_field fo132_0 rfl rfl) ?_
 refine wt 1 5 3 rfl z (ov_load sc3 rfl (fun _ hm => hm.2.2.1) rfl) ?_
 refine wt 2 5 7 rfl z (ov_eql rfl rfl) ?_
 refine wa_set 30 (v' := .bool true) rfl (congrArg Value.bool (by decide)) ?_
 refine wt 3 5 15 rfl z (ov_assign rfl) ?_
 refine wt 4 5 31 rfl z (ov_assign rfl) ?_
 refine wa_done (by kernel_rfl) ?_
 refine nx_blk_nrm (nx_then (gw_seq (sr_ (mv_ rfl (wl_ov (ov_un_not rfl) rfl ?_)))))
 refine wl_set 67 (v' := .bool false) rfl (congrArg Value.bool (by decide)) ?_
 refine nn_ (cf_ rfl (gw_skip (nx_then (sr_ (mv_ rfl (mv_ rfl (fd_ fo92_0 rfl rfl (lk_ sc3 1 rfl rfl rfl ?_))))))))
 refine wl_ov (ov_build (cs := [.int .i64 1, .string ⟨#[115]⟩, .int .i64 5]) rfl (by kernel_rfl)) rfl ?_
 refine wl_stores (cs' := [.int .i64 1, .string ⟨#[115]⟩, .int .i64 5]) 0 rz132 rfl rfl rfl rfl rfl rfl rfl rfl ?_
 refine sg_ rfl (nn_ ?_)
 refine gw_ret ?_
 refine nx_retct 0 rfl rz132 rfl rfl rfl rfl fun wx hm => ?_
 exact ⟨rfl, hm.g⟩
theorem statesL (ge : Nat) (w : World) (hbe : Blk w ge 92 [.int .i64 5, .string ⟨#[118]⟩, .string ⟨#[115]⟩, .int .i64 1, .string ⟨#[]⟩]) : Calls Tryz.prog 121 #[.slice (some ⟨ge, 0, none⟩) 1 1, .int .i64 7] w (fun e w' => ∃ g, e = .returned (.map (some g)) ∧ MapAt g #[⟨.string ⟨#[118]⟩, .agg #[.int .i64 1, .string ⟨#[115]⟩, .int .i64 5], 0⟩] 1 w' ∧ w.grownBy w' none) := by
 refine gw_enter ⟨33, w, none, []⟩ Tryz.func121 rfl Tryz.ntmps121 rfl (mem0 (X := [BlkOld w.heap.size none ge 92 [.int .i64 5, .string ⟨#[118]⟩, .string ⟨#[115]⟩, .int .i64 1, .string ⟨#[]⟩]]) (allF_cons hbe.old allF_nil) (allL_cons BlkOld.lasts allL_nil)) ?_
 refine sr_ (sg_ rfl (nn_ (sr_ ?_)))
 refine wl_makeMap rfl fun g1 => ?_
 refine sg_ rfl (nn_ (gw_seq (sr_ (mv_ rfl (wl_ov (ov_len es48 rfl) rfl ?_)))))
 refine wl_set 10 (v' := .int .i64 1) rfl rfl ?_
 refine mv_ rfl (nn_ (gw_block ?_))
 refine gw_rounds 4 ?_
 refine gr_next ?_
 refine sr_ (wl_ov (ov_lss rfl rfl) rfl ?_)
 refine wl_set 12 (v' := .bool true) rfl (congrArg Value.bool (by decide)) ?_
 refine nn_ (gw_seq (ct_ rfl (gw_skip (nx_then (gw_seq (gw_block (sr_ ?_)))))))
 refine wl_ov (ov_index (j := 0) es48 rfl rfl (by decide)) rfl ?_
 refine wl_ov (ov_loads (vs := [.int .i64 5, .string ⟨#[118]⟩, .string ⟨#[115]⟩, .int .i64 1, .string ⟨#[]⟩]) rz92 rfl (fun _ hm => (hm.fact 1 rfl).2) rfl rfl) rfl ?_
 refine wl_alloc zc92 rfl fun g2 => ?_
 refine wl_stores (cs' := [.int .i64 5, .string ⟨#[118]⟩, .string ⟨#[115]⟩, .int .i64 1, .string ⟨#[]⟩]) 0 rz92 rfl rfl rfl rfl rfl rfl rfl rfl ?_
 refine nn_ (gw_seq (sr_ (fd_ fo92_0 rfl rfl (lk_ sc3 0 rfl rfl rfl (mv_ rfl ?_)))))
 refine wl_ov (ov_gtr rfl rfl) rfl ?_
 refine wl_set 18 (v' := .bool false) rfl (congrArg Value.bool (by decide)) ?_
 refine nn_ (cf_ rfl (gw_skip (nx_then ?_)))
 refine gd (fun wz => Blk wz g2 92 [.int .i64 5, .string ⟨#[118]⟩, .string ⟨#[115]⟩, .int .i64 1, .string ⟨#[]⟩] ∧ (BlkOld w.heap.size none ge 92 [.int .i64 5, .string ⟨#[118]⟩, .string ⟨#[115]⟩, .int .i64 1, .string ⟨#[]⟩]) wz ∧ True) mixed (fun _ hm => ⟨hm.bl 0, hm.fa 1, trivial⟩) fun z => ?_
 refine wt 0 13 1 rfl z (ov_move rfl) ?_
 refine wt 1 13 3 rfl z (ov_field fo92_1 rfl rfl) ?_
 refine wt 2 13 7 rfl z (ov_load sc9 rfl (fun _ hm => hm.1) rfl) ?_
 refine wt 3 13 15 rfl z (ov_move rfl) ?_
 refine wt 4 13 31 rfl z (ov_field fo92_1 rfl rfl) ?_
 refine wt 5 13 63 rfl z (ov_load sc9 rfl (fun _ hm => hm.1) rfl) ?_
 refine wt 7 13 191 rfl z (ov_loads rz92 rfl (fun _ hm => hm.1) rfl rfl) ?_
 refine wa1 6 rfl ?_
 refine wl_ov (ov_lookup0 (k := 9) (e := 132) (z := .agg #[.int .i64 0, .string ⟨#[]⟩, .int .i64 0]) (by kernel_rfl) (by kernel_rfl) (by kernel_rfl) rfl rfl (fun _ hm => (hm.fact 0 rfl).2) (by kernel_rfl)) rfl ?_
 refine wl_nil ?_
 refine nw 13 255 (fun _ hm => ⟨hm.bl 0, hm.fa 1, trivial⟩) fun z => ?_
 refine wa1 8 rfl ?_
 refine wl_callv rfl cb105 rfl rfl (fun wx hm => (followL wx)) ?_
 refine wl_nil ?_
 refine nw 13 511 (fun _ hm => ⟨hm.bl 0, hm.fa 1, trivial⟩) fun z => ?_
 refine wt 9 13 1023 rfl z (ov_move rfl) ?_
 refine wt 10 13 2047 rfl z (ov_extract rfl rfl) ?_
 refine wt 11 13 4095 rfl z (ov_extract rfl rfl) ?_
 refine wa1 12 rfl ?_
 refine wl_mapPush (k := 9) (e := 132) (X' := [BlkOld w.heap.size none ge 92 [.int .i64 5, .string ⟨#[118]⟩, .string ⟨#[115]⟩, .int .i64 1, .string ⟨#[]⟩]]) 0 (by kernel_rfl) (by kernel_rfl) rfl rfl rfl rfl (by kernel_rfl) (far_cons (i := 1) BlkOld.far rfl far_nil) ?_
 refine wl_nil ?_
 refine nw 13 8191 (fun _ hm => ⟨hm.bl 0, hm.fa 1, trivial⟩) fun z => ?_
 refine wa_done (by kernel_rfl) ?_
 refine nx_blk_nrm (nx_then (gw_region (ad_ rfl rfl ?_)))
 refine wl_set 31 (v' := .int .i64 1) rfl rfl ?_
 refine mv_ rfl (wl_nil ?_)
 refine nx_next ?_
 refine gr_next ?_
 refine sr_ (wl_ov (ov_lss rfl rfl) rfl ?_)
 refine wl_set 12 (v' := .bool false) rfl (congrArg Value.bool (by decide)) ?_
 refine nn_ (gw_seq (cf_ rfl ?_))
 refine gw_exit ?_
 refine nx_then_exit (nx_then_exit ?_)
 refine nx_blk_here ?_
 refine nx_then (sr_ (mv_ rfl (sg_ rfl (nn_ ?_))))
 refine gw_ret ?_
 refine nx_ret1 rfl rfl fun wx hm => ?_
 exact ⟨g1, rfl, ((hm.fact 0 rfl)).2, hm.g⟩
theorem stateL (gs : Nat) (gc : Nat) (gv : Nat) (ge : Nat) (w : World) (hbs : Blk w gs 140 [.string ⟨#[115]⟩, .int .i64 0, .int .i64 0, .int .i64 0, .int .i64 0, .int .i64 0, .int .i64 0, .int .i64 0, .int .i64 0, .int .i64 0, .int .i64 0, .int .i64 0, .int .i64 0, .int .i64 0, .int .i64 0]) (hbc : Blk w gc 159 [.string ⟨#[99]⟩, .string ⟨#[]⟩]) (hbv : Blk w gv 77 [.string ⟨#[118]⟩, .string ⟨#[99]⟩]) (hbe : Blk w ge 92 [.int .i64 5, .string ⟨#[118]⟩, .string ⟨#[115]⟩, .int .i64 1, .string ⟨#[]⟩]) : Calls Tryz.prog 72 #[.agg #[.slice (some ⟨gs, 0, none⟩) 1 1, .slice (some ⟨gc, 0, none⟩) 1 1, .slice (some ⟨gv, 0, none⟩) 1 1, .slice none 0 0], .slice (some ⟨ge, 0, none⟩) 1 1, .string ⟨#[118]⟩, .int .i64 7] w (fun e w' => e = .returned (.tuple #[.agg #[.int .i64 1, .string ⟨#[115]⟩, .int .i64 5], .int .i64 0]) ∧ w.grownBy w' none) := by
 refine gw_enter ⟨37, w, none, []⟩ Tryz.func72 rfl Tryz.ntmps72 rfl (mem0 (X := [BlkOld w.heap.size none gs 140 [.string ⟨#[115]⟩, .int .i64 0, .int .i64 0, .int .i64 0, .int .i64 0, .int .i64 0, .int .i64 0, .int .i64 0, .int .i64 0, .int .i64 0, .int .i64 0, .int .i64 0, .int .i64 0, .int .i64 0, .int .i64 0], BlkOld w.heap.size none gc 159 [.string ⟨#[99]⟩, .string ⟨#[]⟩], BlkOld w.heap.size none gv 77 [.string ⟨#[118]⟩, .string ⟨#[99]⟩], BlkOld w.heap.size none ge 92 [.int .i64 5, .string ⟨#[118]⟩, .string ⟨#[115]⟩, .int .i64 1, .string ⟨#[]⟩]]) (allF_cons hbs.old (allF_cons hbc.old (allF_cons hbv.old (allF_cons hbe.old allF_nil)))) (allL_cons BlkOld.lasts (allL_cons BlkOld.lasts (allL_cons BlkOld.lasts (allL_cons BlkOld.lasts allL_nil))))) ?_
 refine sr_ ?_
 refine wl_box rfl rfl rfl fun g1 => ?_
 refine wl_alloc zc132 rfl fun g2 => ?_
 refine sg_ rfl (nn_ (gw_seq (sr_ ?_)))
 refine wl_ov (ov_loads rz31 rfl (fun _ hm => hm.blkI 1 rfl) rfl rfl) rfl ?_
 refine mv_ rfl ?_
 refine wl_callv rfl cb56 rfl rfl (fun wx hm => (checkL gs gc gv ge wx (hm.fact 0 rfl).2 (hm.fact 1 rfl).2 (hm.fact 2 rfl).2 (hm.fact 3 rfl).2)) ?_
 refine sg_ rfl (nn_ (sr_ (mv_ rfl (wl_ov (ov_neq rfl rfl) rfl ?_))))
 refine wl_set 16 (v' := .bool false) rfl (congrArg Value.bool (by decide)) ?_
 refine nn_ (cf_ rfl (gw_skip (nx_then (gw_seq (sr_ ?_)))))
 refine wl_ov (ov_loads rz31 rfl (fun _ hm => hm.blkI 1 rfl) rfl rfl) rfl ?_
 refine mv_ rfl ?_
 refine wl_callv rfl cb80 rfl rfl (fun wx hm => (vehL gs gc gv wx (hm.fact 0 rfl).2 (hm.fact 1 rfl).2 (hm.fact 2 rfl).2)) ?_
 refine wl_ov (ov_lss rfl rfl) rfl ?_
 refine wl_set 22 (v' := .bool false) rfl (congrArg Value.bool (by decide)) ?_
 refine wl_callw (v := .int .i64 0) rfl cb79 rfl rfl (fun wx hm => (by have h := when_any false 8 wx; rw [show whenE false 8 = 0 by decide +kernel] at h; exact h)) ?_
 refine mv_ rfl ?_
 refine wl_callw (v := .int .i64 0) rfl cb81 rfl rfl (fun wx hm => (by have h := moment_any 7 wx; rw [show momentE 7 = 0 by decide +kernel] at h; exact h)) ?_
 refine wl_buildSlice (e := 35) (cs := [.int .i64 0, .int .i64 0]) rfl (by kernel_rfl) rfl fun g3 => ?_
 refine wl_callw (v := .int .i64 0) rfl cb78 rfl rfl (fun wx hm => (by have h := first_any [0, 0] g3 2 _ wx (hm.blkI 0 rfl) (by simp); rw [show firstE [0, 0] = 0 by decide] at h; exact h)) ?_
 refine sg_ rfl (nn_ (sr_ (mv_ rfl (wl_ov (ov_neq rfl rfl) rfl ?_))))
 refine wl_set 29 (v' := .bool false) rfl (congrArg Value.bool (by decide)) ?_
 refine nn_ (cf_ rfl (gw_skip (nx_then (sr_ (mv_ rfl (mv_ rfl ?_))))))
 refine wl_callx (γ := Nat) (val := (fun g => .map (some g))) (φ := (fun g => True)) (Y := (fun g => fun wy => OwnMap 0 g #[⟨.string ⟨#[118]⟩, .agg #[.int .i64 1, .string ⟨#[115]⟩, .int .i64 5], 0⟩] 1 wy)) rfl cb121 rfl rfl (fun wx hm => (statesL ge wx (hm.fact 3 rfl).2).mono fun _ _ ⟨g, he, hm2, hg⟩ => ⟨g, he, trivial, hg, ⟨Nat.zero_le _, hm2⟩⟩) (fun _ => OwnMap.lasts2) ?_
 rintro gm hphi
 clear hphi
 refine mv_ rfl ?_
 refine wl_ov (ov_lookup (k := 9) (e := 132) (i := 0) (v := .agg #[.int .i64 1, .string ⟨#[115]⟩, .int .i64 5]) (by kernel_rfl) (by kernel_rfl) rfl rfl (fun _ hm => (hm.fact 0 rfl).2) (by kernel_rfl)) rfl ?_
 refine wl_stores (cs' := [.int .i64 1, .string ⟨#[115]⟩, .int .i64 5]) 1 rz132 rfl rfl rfl rfl rfl rfl rfl rfl ?_
 refine sg_ rfl (nn_ ?_)
 refine gw_ret ?_
 refine nx_retct 1 rfl rz132 rfl rfl rfl rfl fun wx hm => ?_
 exact ⟨rfl, hm.g⟩
set_option maxRecDepth 100000 in
theorem same_state_eql (x0 : Int) (x1 : ByteArray) (x2 : Int) (w : World) : (binOp .eql 132 (.agg #[.int .i64 x0, .string x1, .int .i64 x2]) (.agg #[.int .i64 x0, .string x1, .int .i64 x2])).run Tryz.prog w = .ok (.bool true) w := by
  have hS : Tryz.prog.underlying 132 = some (.struct (Tryz.prog.fieldsOf 132)) := by kernel_rfl
  have hp : Tryz.prog.stoodInHeld 132 = false := by kernel_rfl
  rw [run_eql_struct, show (10000 : Nat) = 9999 + 1 from rfl, run_equalIn_agg w 9999 132 _ _ hS hp]
  simp only [Program.fieldsOf, Tryz.underlying132]
  have u3 := Tryz.underlying3
  have u9 := Tryz.underlying9
  clear hS hp
  go_simp
theorem guard_state : Tryz.prog.eqGuardType Tryz.prog.depth 132 = false := by kernel_rfl
theorem lots_any (w : World) : Calls Tryz.prog 26 #[] w (fun e w' => e = .returned (.bool true) ∧ w.grownBy w' none) := by
 refine gw_enter ⟨25, w, none, []⟩ Tryz.func26 rfl Tryz.ntmps26 rfl (mem0 (X := []) allF_nil allL_nil) ?_
 refine sr_ (sg_ rfl (nn_ (sr_ ?_)))
 refine wl_ov (ov_build (cs := [.string ⟨#[115]⟩, .int .i64 0, .int .i64 0, .int .i64 0, .int .i64 0, .int .i64 0, .int .i64 0, .int .i64 0, .int .i64 0, .int .i64 0, .int .i64 0, .int .i64 0, .int .i64 0, .int .i64 0, .int .i64 0]) rfl (by kernel_rfl)) rfl ?_
 refine wl_buildSlice (e := 140) (cs := [.string ⟨#[115]⟩, .int .i64 0, .int .i64 0, .int .i64 0, .int .i64 0, .int .i64 0, .int .i64 0, .int .i64 0, .int .i64 0, .int .i64 0, .int .i64 0, .int .i64 0, .int .i64 0, .int .i64 0, .int .i64 0]) rfl (by kernel_rfl) rfl fun g1 => ?_
 refine wl_ov (ov_build (cs := [.string ⟨#[99]⟩, .string ⟨#[]⟩]) rfl (by kernel_rfl)) rfl ?_
 refine wl_buildSlice (e := 159) (cs := [.string ⟨#[99]⟩, .string ⟨#[]⟩]) rfl (by kernel_rfl) rfl fun g2 => ?_
 refine wl_ov (ov_build (cs := [.string ⟨#[118]⟩, .string ⟨#[99]⟩]) rfl (by kernel_rfl)) rfl ?_
 refine wl_buildSlice (e := 77) (cs := [.string ⟨#[118]⟩, .string ⟨#[99]⟩]) rfl (by kernel_rfl) rfl fun g3 => ?_
 refine wl_ov (ov_build (cs := [.slice (some ⟨g1, 0, none⟩) 1 1, .slice (some ⟨g2, 0, none⟩) 1 1, .slice (some ⟨g3, 0, none⟩) 1 1, .slice none 0 0]) rfl (by kernel_rfl)) rfl ?_
 refine wl_alloc zc31 rfl fun g4 => ?_
 refine wl_stores (cs' := [.slice (some ⟨g1, 0, none⟩) 1 1, .slice (some ⟨g2, 0, none⟩) 1 1, .slice (some ⟨g3, 0, none⟩) 1 1, .slice none 0 0]) 0 rz31 rfl rfl rfl rfl rfl rfl rfl rfl ?_
 refine nn_ (sr_ ?_)
 refine wl_ov (ov_loads rz31 rfl (fun _ hm => hm.blkI 0 rfl) rfl rfl) rfl ?_
 refine wl_ov (ov_build (cs := [.int .i64 5, .string ⟨#[118]⟩, .string ⟨#[115]⟩, .int .i64 1, .string ⟨#[]⟩]) rfl (by kernel_rfl)) rfl ?_
 refine wl_buildSlice (e := 92) (cs := [.int .i64 5, .string ⟨#[118]⟩, .string ⟨#[115]⟩, .int .i64 1, .string ⟨#[]⟩]) rfl (by kernel_rfl) rfl fun g5 => ?_
 refine wl_callv rfl cb72 rfl rfl (fun wx hm => (stateL g1 g2 g3 g5 wx (hm.blkI 4 rfl) (hm.blkI 3 rfl) (hm.blkI 2 rfl) (hm.blkI 0 rfl))) ?_
 refine mv_ rfl (wl_ov (ov_extract rfl rfl) rfl (wl_ov (ov_extract rfl rfl) rfl ?_))
 refine wl_alloc zc132 rfl fun g6 => ?_
 refine wl_stores (cs' := [.int .i64 1, .string ⟨#[115]⟩, .int .i64 5]) 0 rz132 rfl rfl rfl rfl rfl rfl rfl rfl ?_
 refine sg_ rfl (nn_ (sr_ (mv_ rfl (wl_ov (ov_eql rfl rfl) rfl ?_))))
 refine wl_set 19 (v' := .bool true) rfl (congrArg Value.bool (by decide)) ?_
 refine mv_ rfl (wl_guard_on rfl rfl rfl ?_)
 refine wl_ov (ov_loads rz132 rfl (fun _ hm => hm.blkI 0 rfl) rfl rfl) rfl ?_
 refine wl_guard_on rfl rfl rfl ?_
 refine wl_ov (ov_build (cs := [.int .i64 1, .string ⟨#[115]⟩, .int .i64 5]) rfl (by kernel_rfl)) rfl ?_
 refine wl_guard_on rfl rfl rfl ?_
 refine wl_ov (ov_bin rfl rfl (cmp_agg guard_state (fun wx => same_state_eql 1 ⟨#[115]⟩ 5 wx))) rfl ?_
 refine pt_ rfl rfl (sg_ rfl (nn_ ?_))
 refine gw_ret ?_
 refine nx_ret1 rfl rfl fun wx hm => ?_
 exact ⟨rfl, hm.g⟩
end Go.Proofs.YtjecbkgjabnmoaaGreatDoor
namespace Go.Proofs.YtjecbkgjabnmoaaGreatDoor
open Go.RowKit
theorem fleetPlates_walk (a0 : Option Addr) (len0 cap0 : Nat) (z0 : List Int) (w : World) (hR : RowIn w a0 len0 cap0 z0) :
  Calls Tryz.prog 3 #[.slice a0 len0 cap0] w fun e w' => e = .returned (.bool true) ∧ Below w.heap.size w w' := by
 refine gw_enter ⟨123, w, none, []⟩ Tryz.func3 rfl Tryz.ntmps3 rfl (mem0 (X := []) allF_nil allL_nil) ?_
 refine sr_ (sg_ rfl (nn_ (sr_ (mv_ rfl ?_))))
 refine wl_ov (ov_build (cs := [.slice a0 len0 cap0, .int .i64 0]) rfl (by kernel_rfl)) rfl ?_
 refine wl_box rfl rfl rfl fun sb => ?_
 refine sg_ rfl (nn_ (sr_ (mv_ rfl ?_)))
 refine wl_law [140, 159, 77, 143] hR 0 rfl fun w1 B hg1 hsb => ?_
 refine wl_calls (γ := Option Addr × Option Addr × Option Addr × Option Addr × Nat × Nat × Nat × Nat × Nat × Nat × Nat × List St × List Cs × List Vh × List Pl) (val := (fun g => .agg #[.slice g.1 g.2.2.2.2.1 g.2.2.2.2.2.1, .slice g.2.1 4 g.2.2.2.2.2.2.1, .slice g.2.2.1 g.2.2.2.2.2.2.2.1 g.2.2.2.2.2.2.2.2.1, .slice g.2.2.2.1 g.2.2.2.2.2.2.2.2.2.1 g.2.2.2.2.2.2.2.2.2.2.1])) (φ := (fun g => FlOk g.2.2.2.2.2.2.2.2.2.2.2.1 g.2.2.2.2.2.2.2.2.2.2.2.2.1 g.2.2.2.2.2.2.2.2.2.2.2.2.2.1 g.2.2.2.2.2.2.2.2.2.2.2.2.2.2 g.2.2.2.2.1 g.2.2.2.2.2.2.2.1 g.2.2.2.2.2.2.2.2.2.1 ∧ ShapeA g.2.2.2.1 g.2.2.2.2.2.2.2.2.2.1 g.2.2.2.2.2.2.2.2.2.2.1 ∧ g.2.2.2.2.2.2.2.2.2.1 ≤ g.2.2.2.2.2.2.2.2.2.2.1)) (Y := (fun g => fun wy => SlT stEnc 15 140 wy g.1 g.2.2.2.2.1 g.2.2.2.2.2.2.2.2.2.2.2.1 ∧ SlT csEnc 2 159 wy g.2.1 4 g.2.2.2.2.2.2.2.2.2.2.2.2.1 ∧ SlT vhEnc 2 77 wy g.2.2.1 g.2.2.2.2.2.2.2.1 g.2.2.2.2.2.2.2.2.2.2.2.2.2.1 ∧ SlT plEnc 3 143 wy g.2.2.2.1 g.2.2.2.2.2.2.2.2.2.1 g.2.2.2.2.2.2.2.2.2.2.2.2.2.2)) (m' := 0 + 400) rfl cb11 rfl rfl rfl rfl (fun wx hm => (fleet_any wx B sb _ hm.k (by omega)).mono fun _ _ ⟨sA, cA, vA, pA, sn, sc, cc, vn, vc, pn, pc, sl, cl, vl, pl, he, hok, hS, hg, h1, h2, h3, h4, h5, h6⟩ => ⟨(sA, cA, vA, pA, sn, sc, cc, vn, vc, pn, pc, sl, cl, vl, pl), he, ⟨hok, h5, h6⟩, hS, hg, h1, h2, h3, h4⟩) (fun _ => (SlT.lasts2 rfl).and_ ((SlT.lasts2 rfl).and_ ((SlT.lasts2 rfl).and_ (SlT.lasts2 rfl)))) ?_
 rintro ⟨sA, cA, vA, pA, sn, sc, cc, vn, vc, pn, pc, sl, cl, vl, pl⟩ hfl
 dsimp only at hfl ⊢
 obtain ⟨⟨⟨hsok, hsn10⟩, hcok, ⟨hvB, hvn10⟩, hpB, hpn10⟩, hsh, hpnc⟩ := hfl
 have hvok : ∀ x ∈ vl, VhOk x := fun x hx => vhB_ok (hvB x hx)
 have hpok : ∀ x ∈ pl, PlOk x := fun x hx => plB_ok (hpB x hx)
 refine mv_ rfl ?_
 refine wl_calls (γ := ByteArray) (val := (fun g => .string g)) (φ := (fun g => g.size ≤ 100)) (Y := (fun g => fun _ => True)) (m' := 0 + 400 + 1) rfl cb12 rfl rfl rfl rfl (fun wx hm => (gvehicleKey_any wx B sb _ hm.k (by omega)).mono fun _ _ ⟨v, he, hv, hS, hg⟩ => ⟨v, he, hv, hS, hg, trivial⟩) (fun _ => Lasts2.true_) ?_
 rintro kv hkv
 refine mv_ rfl ?_
 refine wl_calls (γ := ByteArray) (val := (fun g => .string g)) (φ := (fun g => g.size ≤ 100)) (Y := (fun g => fun _ => True)) (m' := 0 + 400 + 1 + 1) rfl cb13 rfl rfl rfl rfl (fun wx hm => (gplateText_any wx B sb _ hm.k (by omega)).mono fun _ _ ⟨v, he, hv, hS, hg⟩ => ⟨v, he, hv, hS, hg, trivial⟩) (fun _ => Lasts2.true_) ?_
 rintro kp hkp
 refine mv_ rfl ?_
 refine wl_buildSlice (e := 3) (cs := [.int .i64 0, .int .i64 49, .int .i64 50, .int .i64 99, .int .i64 100, .int .i64 200, .int .i64 1000, .int .i64 5000, .int .i64 (-1)]) rfl (by kernel_rfl) rfl fun g3 => ?_
 refine wl_got (γ := Int) (val := fun v => .int .i64 v) (φ := fun v => v ∈ ([0, 49, 50, 99, 100, 200, 1000, 5000, -1] : List Int)) rfl cb14 rfl rfl rfl rfl (fun wx hm => (pick_any [0, 49, 50, 99, 100, 200, 1000, 5000, -1] _ _ _ wx B sb _ hm.k (by omega) (by simp) (by simp) (hm.blkI 0 rfl) (hm.neRow 0 rfl rfl))) fun v4 hv4 => ?_
 have bv4 : -1 ≤ v4 ∧ v4 ≤ 5000 := mem_rng hv4 (by decide)
 have bv40 := bv4.1
 have bv41 := bv4.2
 clear bv4
 refine wl_alloc zc31 rfl fun g5 => ?_
 refine wl_stores (cs' := [.slice sA sn sc, .slice cA 4 cc, .slice vA vn vc, .slice pA pn pc]) 0 rz31 rfl rfl rfl rfl rfl rfl rfl rfl ?_
 refine sg_ rfl (sg_ rfl (sg_ rfl (nn_ (sr_ ?_))))
 refine wl_ov (ov_loads rz31 rfl (fun _ hm => hm.blkI 0 rfl) rfl rfl) rfl ?_
 refine mv_ rfl (mv_ rfl ?_)
 refine wl_nest none [] fun w2 hm_w2 => ⟨_, _, _, _, mem0 (X := [BlkOld w2.heap.size none g5 31 [.slice sA sn sc, .slice cA 4 cc, .slice vA vn vc, .slice pA pn pc], BlkOld w2.heap.size none g3 3 [.int .i64 0, .int .i64 49, .int .i64 50, .int .i64 99, .int .i64 100, .int .i64 200, .int .i64 1000, .int .i64 5000, .int .i64 (-1)], SlOld stEnc 15 140 w2.heap.size none sA sn sl, SlOld csEnc 2 159 w2.heap.size none cA 4 cl, SlOld vhEnc 2 77 w2.heap.size none vA vn vl, SlOld plEnc 3 143 w2.heap.size none pA pn pl]) (allF_cons (hm_w2.blkI 0 rfl).old (allF_cons (hm_w2.blkI 1 rfl).old (allF_cons (SlT.old (hm_w2.fact 2 rfl).1) (allF_cons (SlT.old (hm_w2.fact 2 rfl).2.1) (allF_cons (SlT.old (hm_w2.fact 2 rfl).2.2.1) (allF_cons (SlT.old (hm_w2.fact 2 rfl).2.2.2) allF_nil)))))) (allL_cons BlkOld.lasts (allL_cons BlkOld.lasts (allL_cons SlOld.lasts (allL_cons SlOld.lasts (allL_cons SlOld.lasts (allL_cons SlOld.lasts allL_nil)))))), ?_⟩
 obtain ⟨FE, hFE⟩ : ∃ z, z = fleetE sl cl vl pl := ⟨_, rfl⟩
 obtain ⟨E1, hE1⟩ : ∃ z, z = plateOfE sl cl vl pl kv v4 := ⟨_, rfl⟩
 obtain ⟨E2, hE2⟩ : ∃ z, z = vehOfE sl cl vl pl kp v4 := ⟨_, rfl⟩
 have hone : E1 = firstE [FE, whenE (decide (ixP (vhP kv) vl 0 < 0)) 8, momentE v4] := by rw [hE1, hFE]; rfl
 have htwo : E2 = firstE [FE, whenE (!plateB kp) 3, momentE v4] := by rw [hE2, hFE]; rfl
 refine wl_callx (γ := ByteArray × Bool) (val := (fun g => .tuple #[.string g.1, .bool g.2, .int .i64 E1])) (φ := (fun g => (E1 = 0 → g.1 = ((wornAt pl v4).1 kv).getD ⟨#[]⟩ ∧ g.2 = ((wornAt pl v4).1 kv).isSome) ∧ (E1 ≠ 0 → g.1 = ⟨#[]⟩ ∧ g.2 = false))) (Y := (fun g => fun _ => True)) rfl cb15 rfl rfl (fun wx hm => (by rw [hE1]; exact (plateOf_any sl cl vl pl sA cA vA pA sn sc 4 cc vn vc pn pc kv v4 wx (hm.fact 2 rfl).1 (hm.fact 3 rfl).1 (hm.fact 4 rfl).1 (hm.fact 5 rfl).1 hsok hcok hvok hpok (by omega) (by omega) (by omega) (by omega)).mono fun _ _ ⟨A, b, he, h1, h2, hg⟩ => ⟨(A, b), he, ⟨h1, h2⟩, hg, trivial⟩)) (fun _ => Lasts2.true_) ?_
 rintro ⟨A1, b1⟩ hA1
 dsimp only at hA1 ⊢
 refine mv_ rfl (wl_ov (ov_extract rfl rfl) rfl (wl_ov (ov_extract rfl rfl) rfl (wl_ov (ov_extract rfl rfl) rfl (sg_ rfl (sg_ rfl (sg_ rfl (nn_ (sr_ ?_))))))))
 refine wl_ov (ov_loads (vs := [.slice sA sn sc, .slice cA 4 cc, .slice vA vn vc, .slice pA pn pc]) rz31 rfl (fun _ hm => (hm.fact 1 rfl).2) rfl rfl) rfl ?_
 refine mv_ rfl (mv_ rfl ?_)
 refine wl_callx (γ := ByteArray × Bool) (val := (fun g => .tuple #[.string g.1, .bool g.2, .int .i64 E2])) (φ := (fun g => (E2 = 0 → g.1 = ((wornAt pl v4).2 kp).getD ⟨#[]⟩ ∧ g.2 = ((wornAt pl v4).2 kp).isSome) ∧ (E2 ≠ 0 → g.1 = ⟨#[]⟩ ∧ g.2 = false))) (Y := (fun g => fun _ => True)) rfl cb16 rfl rfl (fun wx hm => (by rw [hE2]; exact (vehicleOf_any sl cl vl pl sA cA vA pA sn sc 4 cc vn vc pn pc kp v4 wx (hm.fact 3 rfl).1 (hm.fact 4 rfl).1 (hm.fact 5 rfl).1 (hm.fact 6 rfl).1 hsok hcok hvok hpok (by omega) (by omega) (by omega) (by omega) (by omega)).mono fun _ _ ⟨A, b, he, h1, h2, hg⟩ => ⟨(A, b), he, ⟨h1, h2⟩, hg, trivial⟩)) (fun _ => Lasts2.true_) ?_
 rintro ⟨A2, b2⟩ hA2
 dsimp only at hA2 ⊢
 refine mv_ rfl (wl_ov (ov_extract rfl rfl) rfl (wl_ov (ov_extract rfl rfl) rfl (wl_ov (ov_extract rfl rfl) rfl (sg_ rfl (sg_ rfl (sg_ rfl (nn_ (sr_ ?_))))))))
 refine wl_ov (ov_loads (vs := [.slice sA sn sc, .slice cA 4 cc, .slice vA vn vc, .slice pA pn pc]) rz31 rfl (fun _ hm => (hm.fact 2 rfl).2) rfl rfl) rfl ?_
 refine wl_callv (v := .int .i64 FE) rfl cb17 rfl rfl (fun wx hm => (by rw [hFE]; exact fleetFault_any sl cl vl pl sA cA vA pA sn sc 4 cc vn vc pn pc wx (hm.fact 4 rfl).1 (hm.fact 5 rfl).1 (hm.fact 6 rfl).1 (hm.fact 7 rfl).1 hsok hcok hvok hpok (by omega) (by omega) (by omega) (by omega) hpnc)) ?_
 refine sg_ rfl (nn_ (sr_ (mv_ rfl ?_)))
 refine wl_ov (ov_loads (vs := [.slice sA sn sc, .slice cA 4 cc, .slice vA vn vc, .slice pA pn pc]) rz31 rfl (fun _ hm => (hm.fact 2 rfl).2) rfl rfl) rfl ?_
 refine mv_ rfl ?_
 refine wl_callv rfl cb20 rfl rfl (fun wx hm => (rVehicleAt_any vl sA cA vA pA sn sc 4 cc vn vc pn pc kv wx (hm.fact 6 rfl).1 (by omega))) ?_
 refine wl_ov (ov_lss rfl rfl) rfl ?_
 refine wl_callw rfl cb19 rfl rfl (fun wx hm => (rwhen_any _ _ wx)) ?_
 refine mv_ rfl ?_
 refine wl_callv rfl cb21 rfl rfl (fun wx hm => (momentFault_any _ wx)) ?_
 refine wl_buildSlice (e := 35) (cs := [.int .i64 FE, .int .i64 (whenE (decide (ixP (vhP kv) vl 0 < 0)) 8), .int .i64 (momentE v4)]) rfl (by kernel_rfl) rfl fun g8 => ?_
 refine wl_callw (v := .int .i64 E1) rfl cb18 rfl rfl (fun wx hm => (by have h := errs_any [FE, whenE (decide (ixP (vhP kv) vl 0 < 0)) 8, momentE v4] g8 3 _ wx (hm.blkI 0 rfl) (by simp); rw [← hone] at h; exact h)) ?_
 refine sg_ rfl (nn_ (sr_ (mv_ rfl (mv_ rfl ?_))))
 refine wl_callv rfl cb22 rfl rfl (fun wx hm => (plateForm_any kp wx (by omega))) ?_
 refine wl_ov (ov_un_not rfl) rfl ?_
 refine wl_callw rfl cb19 rfl rfl (fun wx hm => (rwhen_any _ _ wx)) ?_
 refine mv_ rfl ?_
 refine wl_callv rfl cb21 rfl rfl (fun wx hm => (momentFault_any _ wx)) ?_
 refine wl_buildSlice (e := 35) (cs := [.int .i64 FE, .int .i64 (whenE (!(plateB kp)) 3), .int .i64 (momentE v4)]) rfl (by kernel_rfl) rfl fun g9 => ?_
 refine wl_callw (v := .int .i64 E2) rfl cb18 rfl rfl (fun wx hm => (by have h := errs_any [FE, whenE (!(plateB kp)) 3, momentE v4] g9 3 _ wx (hm.blkI 0 rfl) (by simp); rw [← htwo] at h; exact h)) ?_
 refine sg_ rfl (nn_ (gw_seq (sr_ ?_)))
 refine wl_ov (ov_loads (vs := [.slice sA sn sc, .slice cA 4 cc, .slice vA vn vc, .slice pA pn pc]) rz31 rfl (fun _ hm => (hm.fact 2 rfl).2) rfl rfl) rfl ?_
 refine wl_callv (v := .int .i64 FE) rfl cb23 rfl rfl (fun wx hm => (by rw [hFE]; exact checkFleet_any sl cl vl pl sA cA vA pA sn sc 4 cc vn vc pn pc wx (hm.fact 4 rfl).1 (hm.fact 5 rfl).1 (hm.fact 6 rfl).1 (hm.fact 7 rfl).1 hsok hcok hvok hpok (by omega) (by omega) (by omega) (by omega))) ?_
 refine mv_ rfl (wl_ov (ov_neq rfl rfl) rfl ?_)
 refine wl_set 73 (v' := .bool false) rfl (congrArg Value.bool (by simp)) ?_
 refine mv_ rfl (wl_guard_on rfl rfl rfl (mv_ rfl (wl_guard_on rfl rfl rfl (mv_ rfl (wl_guard_on rfl rfl rfl (wl_ov (ov_neq rfl rfl) rfl ?_))))))
 refine wl_set 77 (v' := .bool false) rfl (congrArg Value.bool (by simp)) ?_
 refine pf_ rfl rfl (mv_ rfl (wl_guard_on rfl rfl rfl (mv_ rfl (wl_guard_on rfl rfl rfl (mv_ rfl (wl_guard_on rfl rfl rfl (wl_ov (ov_neq rfl rfl) rfl ?_)))))))
 refine wl_set 82 (v' := .bool false) rfl (congrArg Value.bool (by simp)) ?_
 refine pf_ rfl rfl (nn_ (cf_ rfl (gw_skip (nx_then (sr_ (sg_ rfl (sg_ rfl (nn_ (sr_ ?_)))))))))
 refine sg_ rfl (sg_ rfl (nn_ (gw_seq (sr_ (mv_ rfl (wl_ov (ov_eql rfl rfl) rfl (nn_ ?_)))))))
 refine gw_cond rfl (fun hh => ?_) (fun hh => ?_)
 ·have h1 : E1 = 0 := by simpa using hh
  clear hh
  refine gw_region ?_
  have hp0 : platesE vl pl = 0 := fe_all (show firstE [stationsE sl, classesE cl, vehsE cl vl, platesE vl pl] = 0 from hFE.symm.trans (fe_all (hone.symm.trans h1) FE (by simp))) _ (by simp)
  refine wl_ov (ov_loads (vs := [.slice sA sn sc, .slice cA 4 cc, .slice vA vn vc, .slice pA pn pc]) rz31 rfl (fun _ hm => (hm.fact 2 rfl).2) rfl rfl) rfl ?_
  refine mv_ rfl (mv_ rfl ?_)
  refine wl_callx (γ := ByteArray × Bool) (val := (fun g => .tuple #[.string g.1, .bool g.2])) (φ := (fun g => g.1 = (((wornR (early pl v4)).find? (fun p : Pl => p.veh.toList == kv.toList)).map (·.plate)).getD ⟨#[]⟩ ∧ g.2 = ((wornR (early pl v4)).find? (fun p : Pl => p.veh.toList == kv.toList)).isSome)) (Y := (fun g => fun _ => True)) rfl cb24 rfl rfl (fun wx hm => (rPlateAt_any pl sA cA vA pA sn sc 4 cc vn vc pn pc kv v4 wx (hm.fact 7 rfl).1 hsh (by omega)).mono fun _ _ ⟨q, b, he, h1, hg⟩ => ⟨(q, b), he, h1, hg, trivial⟩) (fun _ => Lasts2.true_) ?_
  rintro ⟨q1, d1⟩ hq1
  dsimp only at hq1 ⊢
  have hw1 := plateAt_eq (vs := vl) (l := pl) (at_ := v4) (v := kv) hp0
  obtain ⟨hv1, hb1⟩ := hA1.1 h1
  rw [hw1] at hv1 hb1
  rw [Option.isSome_map] at hb1
  obtain rfl : A1 = q1 := hv1.trans hq1.1.symm
  obtain rfl : b1 = d1 := hb1.trans hq1.2.symm
  refine mv_ rfl (wl_ov (ov_extract rfl rfl) rfl (wl_ov (ov_extract rfl rfl) rfl (sg_ rfl (sg_ rfl (nn_ (gw_seq (sr_ (mv_ rfl (wl_ov (ov_eql rfl rfl) rfl (nn_ ?_))))))))))
  refine gw_cond rfl (fun hh => ?_) (fun hh => ?_)
  ·have h2 : E2 = 0 := by simpa using hh
   clear hh
   refine gw_region ?_
   have hp0 : platesE vl pl = 0 := fe_all (show firstE [stationsE sl, classesE cl, vehsE cl vl, platesE vl pl] = 0 from hFE.symm.trans (fe_all (htwo.symm.trans h2) FE (by simp))) _ (by simp)
   refine wl_ov (ov_loads (vs := [.slice sA sn sc, .slice cA 4 cc, .slice vA vn vc, .slice pA pn pc]) rz31 rfl (fun _ hm => (hm.fact 3 rfl).2) rfl rfl) rfl ?_
   refine mv_ rfl (mv_ rfl ?_)
   refine wl_callx (γ := ByteArray × Bool) (val := (fun g => .tuple #[.string g.1, .bool g.2])) (φ := (fun g => g.1 = (((wornR (early pl v4)).find? (fun p : Pl => p.plate.toList == kp.toList)).map (·.veh)).getD ⟨#[]⟩ ∧ g.2 = ((wornR (early pl v4)).find? (fun p : Pl => p.plate.toList == kp.toList)).isSome)) (Y := (fun g => fun _ => True)) rfl cb25 rfl rfl (fun wx hm => (rWearerAt_any pl sA cA vA pA sn sc 4 cc vn vc pn pc kp v4 wx (hm.fact 8 rfl).1 hsh (by omega)).mono fun _ _ ⟨q, b, he, h1, hg⟩ => ⟨(q, b), he, h1, hg, trivial⟩) (fun _ => Lasts2.true_) ?_
   rintro ⟨q2, d2⟩ hq2
   dsimp only at hq2 ⊢
   have hw2 := wearerAt_eq (vs := vl) (l := pl) (at_ := v4) (q := kp) hp0
   obtain ⟨hv2, hb2⟩ := hA2.1 h2
   rw [hw2] at hv2 hb2
   rw [Option.isSome_map] at hb2
   obtain rfl : A2 = q2 := hv2.trans hq2.1.symm
   obtain rfl : b2 = d2 := hb2.trans hq2.2.symm
   refine mv_ rfl (wl_ov (ov_extract rfl rfl) rfl (wl_ov (ov_extract rfl rfl) rfl (sg_ rfl (sg_ rfl (nn_ (sr_ (mv_ rfl (mv_ rfl (wl_ov (ov_seql rfl rfl) rfl ?_)))))))))
   refine wl_set 104 (v' := .bool true) rfl (congrArg Value.bool (beq_self_eq_true _)) ?_
   refine mv_ rfl (wl_guard_on rfl rfl rfl (mv_ rfl (wl_guard_on rfl rfl rfl (mv_ rfl (wl_guard_on rfl rfl rfl ?_)))))
   refine wl_ov (ov_beql (by kernel_rfl) rfl rfl) rfl ?_
   refine wl_set 108 (v' := .bool true) rfl (congrArg Value.bool (beq_self_eq_true _)) ?_
   refine pt_ rfl rfl (mv_ rfl (wl_guard_on rfl rfl rfl (mv_ rfl (wl_guard_on rfl rfl rfl (mv_ rfl (wl_guard_on rfl rfl rfl (wl_ov (ov_seql rfl rfl) rfl ?_)))))))
   refine wl_set 113 (v' := .bool true) rfl (congrArg Value.bool (beq_self_eq_true _)) ?_
   refine pt_ rfl rfl (mv_ rfl (wl_guard_on rfl rfl rfl (mv_ rfl (wl_guard_on rfl rfl rfl (mv_ rfl (wl_guard_on rfl rfl rfl ?_))))))
   refine wl_ov (ov_beql (by kernel_rfl) rfl rfl) rfl ?_
   refine wl_set 118 (v' := .bool true) rfl (congrArg Value.bool (beq_self_eq_true _)) ?_
   refine pt_ rfl rfl (mv_ rfl (wl_guard_on rfl rfl rfl ?_))
   refine wl_callv rfl cb26 rfl rfl (fun wx hm => (lots_any wx)) ?_
   refine pt_ rfl rfl (sg_ rfl (nn_ ?_))
   refine gw_ret ?_
   refine nx_ret1 rfl rfl fun wx hm => ?_
   exact ⟨rfl, law_end hg1 hsb (grow_trans hm_w2.g (grow_weak hm.g))⟩
  have h2 : ¬ (E2 = 0) := by simpa using hh
  clear hh
  refine gw_skip (nx_then (sr_ ?_))
  obtain ⟨rfl, rfl⟩ := hA2.2 h2
  refine mv_ rfl (mv_ rfl (wl_ov (ov_seql rfl rfl) rfl ?_))
  refine wl_set 104 (v' := .bool true) rfl (congrArg Value.bool (beq_self_eq_true _)) ?_
  refine mv_ rfl (wl_guard_on rfl rfl rfl (mv_ rfl (wl_guard_on rfl rfl rfl (mv_ rfl (wl_guard_on rfl rfl rfl ?_)))))
  refine wl_ov (ov_beql (by kernel_rfl) rfl rfl) rfl ?_
  refine wl_set 108 (v' := .bool true) rfl (congrArg Value.bool (beq_self_eq_true _)) ?_
  refine pt_ rfl rfl (mv_ rfl (wl_guard_on rfl rfl rfl (mv_ rfl (wl_guard_on rfl rfl rfl (mv_ rfl (wl_guard_on rfl rfl rfl (wl_ov (ov_seql rfl rfl) rfl ?_)))))))
  refine wl_set 113 (v' := .bool true) rfl (congrArg Value.bool (by decide +kernel)) ?_
  refine pt_ rfl rfl (mv_ rfl (wl_guard_on rfl rfl rfl (mv_ rfl (wl_guard_on rfl rfl rfl (mv_ rfl (wl_guard_on rfl rfl rfl ?_))))))
  refine wl_ov (ov_beql (by kernel_rfl) rfl rfl) rfl ?_
  refine wl_set 118 (v' := .bool true) rfl (congrArg Value.bool (beq_self_eq_true _)) ?_
  refine pt_ rfl rfl (mv_ rfl (wl_guard_on rfl rfl rfl ?_))
  refine wl_callv rfl cb26 rfl rfl (fun wx hm => (lots_any wx)) ?_
  refine pt_ rfl rfl (sg_ rfl (nn_ ?_))
  refine gw_ret ?_
  refine nx_ret1 rfl rfl fun wx hm => ?_
  exact ⟨rfl, law_end hg1 hsb (grow_trans hm_w2.g (grow_weak hm.g))⟩
 have h1 : ¬ (E1 = 0) := by simpa using hh
 clear hh
 refine gw_skip (nx_then (gw_seq (sr_ ?_)))
 obtain ⟨rfl, rfl⟩ := hA1.2 h1
 refine mv_ rfl (wl_ov (ov_eql rfl rfl) rfl (nn_ ?_))
 refine gw_cond rfl (fun hh => ?_) (fun hh => ?_)
 ·have h2 : E2 = 0 := by simpa using hh
  clear hh
  refine gw_region ?_
  have hp0 : platesE vl pl = 0 := fe_all (show firstE [stationsE sl, classesE cl, vehsE cl vl, platesE vl pl] = 0 from hFE.symm.trans (fe_all (htwo.symm.trans h2) FE (by simp))) _ (by simp)
  refine wl_ov (ov_loads (vs := [.slice sA sn sc, .slice cA 4 cc, .slice vA vn vc, .slice pA pn pc]) rz31 rfl (fun _ hm => (hm.fact 2 rfl).2) rfl rfl) rfl ?_
  refine mv_ rfl (mv_ rfl ?_)
  refine wl_callx (γ := ByteArray × Bool) (val := (fun g => .tuple #[.string g.1, .bool g.2])) (φ := (fun g => g.1 = (((wornR (early pl v4)).find? (fun p : Pl => p.plate.toList == kp.toList)).map (·.veh)).getD ⟨#[]⟩ ∧ g.2 = ((wornR (early pl v4)).find? (fun p : Pl => p.plate.toList == kp.toList)).isSome)) (Y := (fun g => fun _ => True)) rfl cb25 rfl rfl (fun wx hm => (rWearerAt_any pl sA cA vA pA sn sc 4 cc vn vc pn pc kp v4 wx (hm.fact 7 rfl).1 hsh (by omega)).mono fun _ _ ⟨q, b, he, h1, hg⟩ => ⟨(q, b), he, h1, hg, trivial⟩) (fun _ => Lasts2.true_) ?_
  rintro ⟨q2, d2⟩ hq2
  dsimp only at hq2 ⊢
  have hw2 := wearerAt_eq (vs := vl) (l := pl) (at_ := v4) (q := kp) hp0
  obtain ⟨hv2, hb2⟩ := hA2.1 h2
  rw [hw2] at hv2 hb2
  rw [Option.isSome_map] at hb2
  obtain rfl : A2 = q2 := hv2.trans hq2.1.symm
  obtain rfl : b2 = d2 := hb2.trans hq2.2.symm
  refine mv_ rfl (wl_ov (ov_extract rfl rfl) rfl (wl_ov (ov_extract rfl rfl) rfl (sg_ rfl (sg_ rfl (nn_ (sr_ (mv_ rfl (mv_ rfl (wl_ov (ov_seql rfl rfl) rfl ?_)))))))))
  refine wl_set 104 (v' := .bool true) rfl (congrArg Value.bool (by decide +kernel)) ?_
  refine mv_ rfl (wl_guard_on rfl rfl rfl (mv_ rfl (wl_guard_on rfl rfl rfl (mv_ rfl (wl_guard_on rfl rfl rfl ?_)))))
  refine wl_ov (ov_beql (by kernel_rfl) rfl rfl) rfl ?_
  refine wl_set 108 (v' := .bool true) rfl (congrArg Value.bool (beq_self_eq_true _)) ?_
  refine pt_ rfl rfl (mv_ rfl (wl_guard_on rfl rfl rfl (mv_ rfl (wl_guard_on rfl rfl rfl (mv_ rfl (wl_guard_on rfl rfl rfl (wl_ov (ov_seql rfl rfl) rfl ?_)))))))
  refine wl_set 113 (v' := .bool true) rfl (congrArg Value.bool (beq_self_eq_true _)) ?_
  refine pt_ rfl rfl (mv_ rfl (wl_guard_on rfl rfl rfl (mv_ rfl (wl_guard_on rfl rfl rfl (mv_ rfl (wl_guard_on rfl rfl rfl ?_))))))
  refine wl_ov (ov_beql (by kernel_rfl) rfl rfl) rfl ?_
  refine wl_set 118 (v' := .bool true) rfl (congrArg Value.bool (beq_self_eq_true _)) ?_
  refine pt_ rfl rfl (mv_ rfl (wl_guard_on rfl rfl rfl ?_))
  refine wl_callv rfl cb26 rfl rfl (fun wx hm => (lots_any wx)) ?_
  refine pt_ rfl rfl (sg_ rfl (nn_ ?_))
  refine gw_ret ?_
  refine nx_ret1 rfl rfl fun wx hm => ?_
  exact ⟨rfl, law_end hg1 hsb (grow_trans hm_w2.g (grow_weak hm.g))⟩
 have h2 : ¬ (E2 = 0) := by simpa using hh
 clear hh
 refine gw_skip (nx_then (sr_ ?_))
 obtain ⟨rfl, rfl⟩ := hA2.2 h2
 refine mv_ rfl (mv_ rfl (wl_ov (ov_seql rfl rfl) rfl ?_))
 refine wl_set 104 (v' := .bool true) rfl (congrArg Value.bool (by decide +kernel)) ?_
 refine mv_ rfl (wl_guard_on rfl rfl rfl (mv_ rfl (wl_guard_on rfl rfl rfl (mv_ rfl (wl_guard_on rfl rfl rfl ?_)))))
 refine wl_ov (ov_beql (by kernel_rfl) rfl rfl) rfl ?_
 refine wl_set 108 (v' := .bool true) rfl (congrArg Value.bool (beq_self_eq_true _)) ?_
 refine pt_ rfl rfl (mv_ rfl (wl_guard_on rfl rfl rfl (mv_ rfl (wl_guard_on rfl rfl rfl (mv_ rfl (wl_guard_on rfl rfl rfl (wl_ov (ov_seql rfl rfl) rfl ?_)))))))
 refine wl_set 113 (v' := .bool true) rfl (congrArg Value.bool (by decide +kernel)) ?_
 refine pt_ rfl rfl (mv_ rfl (wl_guard_on rfl rfl rfl (mv_ rfl (wl_guard_on rfl rfl rfl (mv_ rfl (wl_guard_on rfl rfl rfl ?_))))))
 refine wl_ov (ov_beql (by kernel_rfl) rfl rfl) rfl ?_
 refine wl_set 118 (v' := .bool true) rfl (congrArg Value.bool (beq_self_eq_true _)) ?_
 refine pt_ rfl rfl (mv_ rfl (wl_guard_on rfl rfl rfl ?_))
 refine wl_callv rfl cb26 rfl rfl (fun wx hm => (lots_any wx)) ?_
 refine pt_ rfl rfl (sg_ rfl (nn_ ?_))
 refine gw_ret ?_
 refine nx_ret1 rfl rfl fun wx hm => ?_
 exact ⟨rfl, law_end hg1 hsb (grow_trans hm_w2.g (grow_weak hm.g))⟩
end Go.Proofs.YtjecbkgjabnmoaaGreatDoor
