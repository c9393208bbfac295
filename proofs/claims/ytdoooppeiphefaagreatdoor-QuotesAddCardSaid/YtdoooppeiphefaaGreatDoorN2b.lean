/- Several texts as one: Ta Tw Td Pv Gb Tt Te Tj Tk Tm -/
import Derived.Test.YtdoooppeiphefaaGreatDoorN2a
set_option maxRecDepth 100000
set_option maxHeartbeats 4000000
namespace Go.Proofs.YtdoooppeiphefaaGreatDoor
open Go.RowKit
def rtEnc (r : Rt) : List Value := [.string r.cls, .int .i64 r.fr, .int .i64 r.to_, .int .i64 r.hr, .int .i64 r.dy, .int .i64 r.we, .int .i64 r.wk]
theorem rt_len (r : Rt) : (rtEnc r).length = 7 := rfl
theorem b_ne_self (a : ByteArray) : (!(a.toList == a.toList)) = false := by simp
theorem i_ne_self (a : Int) : (!decide (a = a)) = false := by simp
theorem nan_string (a : ByteArray) (w : World) : Calls Tryz.prog 224 #[.string a] w (fun e w' => e = .returned (.bool false) ∧ w.grownBy w' none) := by
 refine gw_enter ⟨6, w, none, []⟩ Tryz.func224 rfl Tryz.ntmps224 rfl (mem0 (X := []) allF_nil allL_nil) ?_
 refine sr_ (sg_ rfl (nn_ (sr_ (mv_ rfl (mv_ rfl (wl_ov (ov_sneq rfl rfl) rfl ?_))))))
 refine wl_set 5 (v' := .bool false) rfl (congrArg Value.bool (b_ne_self a)) ?_
 refine sg_ rfl (nn_ ?_)
 refine gw_ret ?_
 refine nx_ret1 rfl rfl fun wx hm => ?_
 exact ⟨rfl, hm.g⟩
theorem cmp_string (a b : ByteArray) (w : World) : Calls Tryz.prog 120 #[.string a, .string b] w (fun e w' => e = .returned (.int .i64 (cmpS a b)) ∧ w.grownBy w' none) := by
 refine gw_enter ⟨20, w, none, []⟩ Tryz.func120 rfl Tryz.ntmps120 rfl (mem0 (X := []) allF_nil allL_nil) ?_
 refine sr_ (sg_ rfl (nn_ (sr_ (mv_ rfl ?_))))
 refine wl_callv rfl cb224 rfl rfl (fun wx hm => (nan_string _ wx)) ?_
 refine sg_ rfl (nn_ (sr_ (mv_ rfl ?_)))
 refine wl_callv rfl cb224 rfl rfl (fun wx hm => (nan_string _ wx)) ?_
 refine sg_ rfl (nn_ (gw_seq (sr_ (mv_ rfl (nn_ (cf_ rfl (gw_skip (nx_then (gw_seq (gw_seq ?_))))))))))
 refine gw_region (mv_ rfl (nn_ (cf_ rfl (gw_skip (nx_then (gw_seq (sr_ (mv_ rfl (mv_ rfl ?_)))))))))
 refine wl_ov (ov_slss rfl rfl) rfl ?_
 refine nn_ ?_
 refine gw_cond rfl (fun hh => ?_) (fun hh => ?_)
 ·have h1 : (Op.bytesLess a.toList b.toList) = true := by simpa using hh
  clear hh
  refine sr_ (sg_ rfl ?_)
  refine wl_set 4 (v' := .int .i64 (-1)) rfl rfl ?_
  refine nn_ ?_
  refine gw_ret ?_
  refine nx_then_ret ?_
  refine nx_ret1 rfl rfl fun wx hm => ?_
  refine ⟨?_, hm.g⟩
  unfold cmpS; rw [if_pos h1]
 have h1 : (Op.bytesLess a.toList b.toList) = false := by simpa using hh
 clear hh
 refine gw_skip (nx_then (gw_seq (sr_ (mv_ rfl (mv_ rfl ?_)))))
 refine wl_ov (ov_sgtr rfl rfl) rfl ?_
 refine nn_ ?_
 refine gw_cond rfl (fun hh => ?_) (fun hh => ?_)
 ·have h2 : (Op.bytesLess a.toList b.toList || a.toList == b.toList) = false := by simpa only [Bool.not_eq_true', Bool.not_eq_false'] using hh
  clear hh
  refine sr_ (sg_ rfl (nn_ ?_))
  refine gw_ret ?_
  refine nx_then_ret ?_
  refine nx_ret1 rfl rfl fun wx hm => ?_
  refine ⟨?_, hm.g⟩
  unfold cmpS; rw [if_neg (by rw [h1]; decide), if_pos h2]
 have h2 : (Op.bytesLess a.toList b.toList || a.toList == b.toList) = true := by simpa only [Bool.not_eq_true', Bool.not_eq_false'] using hh
 clear hh
 refine gw_skip (nx_then (sr_ (sg_ rfl (nn_ ?_))))
 refine gw_ret ?_
 refine nx_ret1 rfl rfl fun wx hm => ?_
 refine ⟨?_, hm.g⟩
 unfold cmpS; rw [if_neg (by rw [h1]; decide), if_neg (by rw [h2]; decide)]
theorem nan_int (a : Int) (w : World) : Calls Tryz.prog 223 #[.int .i64 a] w (fun e w' => e = .returned (.bool false) ∧ w.grownBy w' none) := by
 refine gw_enter ⟨6, w, none, []⟩ Tryz.func223 rfl Tryz.ntmps223 rfl (mem0 (X := []) allF_nil allL_nil) ?_
 refine sr_ (sg_ rfl (nn_ (sr_ (mv_ rfl (mv_ rfl (wl_ov (ov_neq rfl rfl) rfl ?_))))))
 refine wl_set 5 (v' := .bool false) rfl (congrArg Value.bool (i_ne_self a)) ?_
 refine sg_ rfl (nn_ ?_)
 refine gw_ret ?_
 refine nx_ret1 rfl rfl fun wx hm => ?_
 exact ⟨rfl, hm.g⟩
theorem cmp_int (a b : Int) (w : World) : Calls Tryz.prog 119 #[.int .i64 a, .int .i64 b] w (fun e w' => e = .returned (.int .i64 (cmpI a b)) ∧ w.grownBy w' none) := by
 refine gw_enter ⟨20, w, none, []⟩ Tryz.func119 rfl Tryz.ntmps119 rfl (mem0 (X := []) allF_nil allL_nil) ?_
 refine sr_ (sg_ rfl (nn_ (sr_ (mv_ rfl ?_))))
 refine wl_callv rfl cb223 rfl rfl (fun wx hm => (nan_int _ wx)) ?_
 refine sg_ rfl (nn_ (sr_ (mv_ rfl ?_)))
 refine wl_callv rfl cb223 rfl rfl (fun wx hm => (nan_int _ wx)) ?_
 refine sg_ rfl (nn_ (gw_seq (sr_ (mv_ rfl (nn_ (cf_ rfl (gw_skip (nx_then (gw_seq (gw_seq ?_))))))))))
 refine gw_region (mv_ rfl (nn_ (cf_ rfl (gw_skip (nx_then (gw_seq (sr_ (mv_ rfl (mv_ rfl (wl_ov (ov_lss rfl rfl) rfl (wl_nil ?_)))))))))))
 refine nx_then ?_
 refine gw_cond rfl (fun hh => ?_) (fun hh => ?_)
 ·have h1 : a < b := by simpa using hh
  clear hh
  refine sr_ (sg_ rfl ?_)
  refine wl_set 4 (v' := .int .i64 (-1)) rfl rfl ?_
  refine nn_ ?_
  refine gw_ret ?_
  refine nx_then_ret ?_
  refine nx_ret1 rfl rfl fun wx hm => ?_
  refine ⟨?_, hm.g⟩
  unfold cmpI; rw [if_pos h1]
 have h1 : ¬ (a < b) := by simpa using hh
 clear hh
 refine gw_skip (nx_then (gw_seq (sr_ (mv_ rfl (mv_ rfl ?_)))))
 refine wl_ov (ov_gtr rfl rfl) rfl ?_
 refine nn_ ?_
 refine gw_cond rfl (fun hh => ?_) (fun hh => ?_)
 ·have h2 : b < a := by simpa using hh
  clear hh
  refine sr_ (sg_ rfl (nn_ ?_))
  refine gw_ret ?_
  refine nx_then_ret ?_
  refine nx_ret1 rfl rfl fun wx hm => ?_
  refine ⟨?_, hm.g⟩
  unfold cmpI; rw [if_neg h1, if_pos h2]
 have h2 : ¬ (b < a) := by simpa using hh
 clear hh
 refine gw_skip (nx_then (sr_ (sg_ rfl (nn_ ?_))))
 refine gw_ret ?_
 refine nx_ret1 rfl rfl fun wx hm => ?_
 refine ⟨?_, hm.g⟩
 unfold cmpI; rw [if_neg h1, if_neg h2]
theorem or_two (a b : Int) (g T c : Nat) (w : World) (h : Blk w g T [.int .i64 a, .int .i64 b]) : Calls Tryz.prog 118 #[.slice (some ⟨g, 0, none⟩) 2 c] w (fun e w' => e = .returned (.int .i64 (firstE [a, b])) ∧ w.grownBy w' none) := by
 refine gw_enter ⟨18, w, none, []⟩ Tryz.func118 rfl Tryz.ntmps118 rfl (mem0 (X := [BlkOld w.heap.size none g T [.int .i64 a, .int .i64 b] ]) (allF_cons h.old allF_nil) (allL_cons BlkOld.lasts allL_nil)) ?_
 refine sr_ (sg_ rfl (nn_ (sr_ (sg_ rfl (nn_ (gw_seq (sr_ (mv_ rfl ?_))))))))
 refine wl_ov (ov_len es22 rfl) rfl ?_
 refine wl_set 7 (v' := .int .i64 2) rfl rfl ?_
 refine mv_ rfl (nn_ (gw_block ?_))
 refine gw_rounds 3 ?_
 refine gr_next ?_
 refine sr_ (wl_ov (ov_lss rfl rfl) rfl ?_)
 refine wl_set 9 (v' := .bool true) rfl (congrArg Value.bool (by decide)) ?_
 refine nn_ (gw_seq (ct_ rfl (gw_skip (nx_then (gw_seq (gw_block (sr_ ?_)))))))
 refine wl_ov (ov_index (j := 0) es22 rfl rfl (by decide)) rfl ?_
 refine wl_ov (ov_load (v := .int .i64 a) sc3 rfl (fun _ hm => (hm.fact 0 rfl).2) rfl) rfl ?_
 refine sg_ rfl (nn_ (sr_ (mv_ rfl (mv_ rfl (wl_ov (ov_neq rfl rfl) rfl (nn_ ?_))))))
 refine gw_cond rfl (fun hh => ?_) (fun hh => ?_)
 ·have h1 : ¬ (a = 0) := by simpa using hh
  clear hh
  refine sr_ (mv_ rfl (sg_ rfl (nn_ ?_)))
  refine gw_ret ?_
  refine nx_blk_ret (nx_then_ret (nx_then_ret (nx_blk_ret (nx_then_ret ?_))))
  refine nx_ret1 rfl rfl fun wx hm => ?_
  refine ⟨?_, hm.g⟩
  rw [firstE_pair, if_neg h1]
 have h1 : a = 0 := by simpa using hh
 clear hh
 refine gw_skip (nx_blk_nrm (nx_then (gw_region (ad_ rfl rfl ?_))))
 refine wl_set 16 (v' := .int .i64 1) rfl rfl ?_
 refine mv_ rfl (wl_nil ?_)
 refine nx_next ?_
 refine gr_next ?_
 refine sr_ (wl_ov (ov_lss rfl rfl) rfl ?_)
 refine wl_set 9 (v' := .bool true) rfl (congrArg Value.bool (by decide)) ?_
 refine nn_ (gw_seq (ct_ rfl (gw_skip (nx_then (gw_seq (gw_block (sr_ ?_)))))))
 refine wl_ov (ov_index (j := 1) es22 rfl rfl (by decide)) rfl ?_
 refine wl_ov (ov_load (v := .int .i64 b) sc3 rfl (fun _ hm => (hm.fact 0 rfl).2) rfl) rfl ?_
 refine sg_ rfl (nn_ (sr_ (mv_ rfl (mv_ rfl (wl_ov (ov_neq rfl rfl) rfl (nn_ ?_))))))
 refine gw_cond rfl (fun hh => ?_) (fun hh => ?_)
 ·have h2 : ¬ (b = 0) := by simpa using hh
  clear hh
  refine sr_ (mv_ rfl (sg_ rfl (nn_ ?_)))
  refine gw_ret ?_
  refine nx_blk_ret (nx_then_ret (nx_then_ret (nx_blk_ret (nx_then_ret ?_))))
  refine nx_ret1 rfl rfl fun wx hm => ?_
  refine ⟨?_, hm.g⟩
  rw [firstE_pair, if_pos h1]
 have h2 : b = 0 := by simpa using hh
 clear hh
 refine gw_skip (nx_blk_nrm (nx_then (gw_region (ad_ rfl rfl ?_))))
 refine wl_set 16 (v' := .int .i64 2) rfl rfl ?_
 refine mv_ rfl (wl_nil ?_)
 refine nx_next ?_
 refine gr_next ?_
 refine sr_ (wl_ov (ov_lss rfl rfl) rfl ?_)
 refine wl_set 9 (v' := .bool false) rfl (congrArg Value.bool (by decide)) ?_
 refine nn_ (gw_seq (cf_ rfl ?_))
 refine gw_exit ?_
 refine nx_then_exit (nx_then_exit ?_)
 refine nx_blk_here ?_
 refine nx_then (sr_ (mv_ rfl (sg_ rfl (nn_ ?_))))
 refine gw_ret ?_
 refine nx_ret1 rfl rfl fun wx hm => ?_
 refine ⟨?_, hm.g⟩
 rw [firstE_pair, if_pos h1, h2]
theorem checkRates_any (l : List Rt) (A : Option Addr) (n c : Nat) (w : World) (hl : SlT rtEnc 7 288 w A n l) (hok : ∀ b ∈ l, RtOk b) (hn : n ≤ 1000000) :
  Calls Tryz.prog 204 #[.slice A n c] w (GotE w (ratesE l)) := by
 refine gw_enter ⟨90, w, none, []⟩ Tryz.func204 rfl Tryz.ntmps204 rfl (mem0 (X := [SlOld rtEnc 7 288 w.heap.size none A n l]) (allF_cons hl.old allF_nil) (allL_cons SlOld.lasts allL_nil)) ?_
 refine sr_ ?_
 have hlen := hl.len
 refine sg_ rfl (nn_ (gw_seq (sr_ (mv_ rfl (wl_ov (ov_len es71 rfl) rfl ?_)))))
 refine wl_ov (ov_gtr rfl rfl) rfl ?_
 refine nn_ ?_
 refine gw_cond rfl (fun hh => ?_) (fun hh => ?_)
 ·have h1 : 200 < ((n : Nat) : Int) := by simpa using hh
  clear hh
  refine sr_ (sg_ rfl (nn_ ?_))
  refine gw_ret ?_
  refine nx_then_ret ?_
  refine nx_ret1 rfl rfl fun wx hm => ?_
  exact ⟨ret_int (by unfold ratesE; rw [if_pos (by omega)]), hm.g⟩
 have h1 : ¬ (200 < ((n : Nat) : Int)) := by simpa using hh
 clear hh
 refine gw_skip (nx_then (gw_seq (sr_ (mv_ rfl (wl_ov (ov_len es71 rfl) rfl (mv_ rfl (nn_ (gw_block ?_))))))))
 refine gw_loop (γ := Nat) (fun (k : Nat) => k ≤ n ∧ ratesE l = scanE rateE (prevOf l k) (l.drop k)) (fun (k : Nat) => [(0, .slice A n c), (11, .slice A n c), (12, .int .i64 ((n : Nat) : Int)), (13, .int .i64 ((k : Nat) : Int))]) (fun (k : Nat) => fun _ => True) (fun (k : Nat) => []) (fun (k : Nat) => []) (fun (k : Nat) => [SlOld rtEnc 7 288 w.heap.size none A n l]) (fun (k : Nat) => n - k) 0 ⟨Nat.zero_le _, by unfold ratesE; rw [if_neg (by omega)]; rfl⟩ ⟨rfl, rfl, rfl, rfl, trivial⟩ (fun _ hm => hm.pick [] [] [0] rfl rfl) ?_
 intro k hinv
 replace hinv : k ≤ n ∧ ratesE l = scanE rateE (prevOf l k) (l.drop k) := hinv
 refine sr_ (wl_ov (ov_lss rfl rfl) rfl (nn_ (gw_seq ?_)))
 refine gw_cond rfl (fun hh => ?_) (fun hh => ?_)
 ·have hk : ((k : Nat) : Int) < ((n : Nat) : Int) := by simpa using hh
  clear hh
  refine gw_skip (nx_then (gw_seq (gw_block (sr_ ?_))))
  obtain ⟨b, off, hA, _, _⟩ := hl.get (by omega)
  subst hA
  obtain ⟨x, hx⟩ : ∃ x, l[k]? = some x := ⟨_, List.getElem?_eq_getElem (by omega)⟩
  obtain ⟨cl, fr, tt, ho, dd, we, wk⟩ := x
  have hat := scanE_at rateE l k _ hx
  have hcl : cl.size ≤ 1000000 := hok _ (List.mem_of_getElem? hx)
  refine mv_ rfl ?_
  refine wl_ov (ov_index (j := k) es71 rfl rfl (by omega)) rfl ?_
  refine wl_ov (ov_elem (vs := [.string cl, .int .i64 fr, .int .i64 tt, .int .i64 ho, .int .i64 dd, .int .i64 we, .int .i64 wk]) rz288 rfl (fun _ hm => (hm.fact 0 rfl).1) hx rfl rfl) rfl ?_
  refine wl_alloc zc288 rfl fun g1 => ?_
  refine sg_ rfl ?_
  refine wl_stores (cs' := [.string cl, .int .i64 fr, .int .i64 tt, .int .i64 ho, .int .i64 dd, .int .i64 we, .int .i64 wk]) 0 rz288 rfl rfl rfl rfl rfl rfl rfl rfl ?_
  refine nn_ (gw_seq (gw_block (sr_ (fd_ fo288_0 rfl rfl (lk_ sc9 0 rfl rfl rfl ?_)))))
  refine wl_callw rfl cb112 rfl rfl (fun wx hm => (isKey_any _ wx (by omega))) ?_
  refine wl_ov (ov_un_not rfl) rfl (sg_ rfl (nn_ ?_))
  refine gw_cond rfl (fun hh => ?_) (fun hh => ?_)
  ·have h2 : (keyB cl) = false := by simpa using hh
   clear hh
   refine sr_ (sg_ rfl (nn_ ?_))
   refine gw_ret ?_
   refine nx_blk_ret (nx_then_ret (nx_blk_ret (nx_then_ret (nx_then_ret (nx_blk_ret (nx_then_ret ?_))))))
   have hE : rateE (prevOf l k) ⟨cl, fr, tt, ho, dd, we, wk⟩ = 5 := by unfold rateE; simp [h2]
   refine nx_ret1 rfl rfl fun wx hm => ?_
   exact ⟨ret_int (by rw [hinv.2, hat, if_neg (by rw [hE]; decide), hE]), hm.g⟩
  have h2 : (keyB cl) = true := by simpa using hh
  clear hh
  refine sr_ (fd_ fo288_1 rfl rfl (lk_ sc3 0 rfl rfl rfl (wl_ov (ov_lss rfl rfl) rfl (mv_ rfl ?_))))
  rcases Bool.eq_false_or_eq_true (decide (fr < 0)) with h3 | h3
  ·refine wl_set 27 rfl (congrArg Value.bool h3) ?_
   replace h3 := of_decide_eq_true h3
   refine goff rfl rfl rfl (goff rfl rfl rfl (goff rfl rfl rfl (goff rfl rfl rfl (goff rfl rfl rfl (pt_ rfl rfl (mv_ rfl (goff rfl rfl rfl (goff rfl rfl rfl (goff rfl rfl rfl (pt_ rfl rfl (sg_ rfl (nn_ ?_))))))))))))
   refine ct_ rfl (sr_ (sg_ rfl (nn_ ?_)))
   refine gw_ret ?_
   refine nx_blk_ret (nx_then_ret (nx_blk_ret (nx_then_ret (nx_then_ret (nx_blk_ret (nx_then_ret ?_))))))
   have hE : rateE (prevOf l k) ⟨cl, fr, tt, ho, dd, we, wk⟩ = 1 := by unfold rateE; simp [h2, h3]
   refine nx_ret1 rfl rfl fun wx hm => ?_
   exact ⟨ret_int (by rw [hinv.2, hat, if_neg (by rw [hE]; decide), hE]), hm.g⟩
  refine wl_set 27 rfl (congrArg Value.bool h3) ?_
  replace h3 := of_decide_eq_false h3
  refine wl_guard_on rfl rfl rfl (fd_ fo288_1 rfl rfl (wl_guard_on rfl rfl rfl (lk_ sc3 0 rfl rfl rfl (wl_guard_on rfl rfl rfl (fd_ fo288_2 rfl rfl (wl_guard_on rfl rfl rfl (lk_ sc3 0 rfl rfl rfl (wl_guard_on rfl rfl rfl ?_))))))))
  refine wl_ov (ov_geq rfl rfl) rfl ?_
  refine pf_ rfl rfl (mv_ rfl ?_)
  rcases Bool.eq_false_or_eq_true (decide (tt ≤ fr)) with h4 | h4
  ·refine wl_set 34 rfl (congrArg Value.bool h4) ?_
   replace h4 := of_decide_eq_true h4
   refine goff rfl rfl rfl (goff rfl rfl rfl (goff rfl rfl rfl (pt_ rfl rfl (sg_ rfl (nn_ (ct_ rfl (sr_ (sg_ rfl (nn_ ?_)))))))))
   refine gw_ret ?_
   refine nx_blk_ret (nx_then_ret (nx_blk_ret (nx_then_ret (nx_then_ret (nx_blk_ret (nx_then_ret ?_))))))
   have hE : rateE (prevOf l k) ⟨cl, fr, tt, ho, dd, we, wk⟩ = 1 := by unfold rateE; simp [h2, h3, h4]
   refine nx_ret1 rfl rfl fun wx hm => ?_
   exact ⟨ret_int (by rw [hinv.2, hat, if_neg (by rw [hE]; decide), hE]), hm.g⟩
  refine wl_set 34 rfl (congrArg Value.bool h4) ?_
  replace h4 := of_decide_eq_false h4
  refine wl_guard_on rfl rfl rfl (fd_ fo288_2 rfl rfl (wl_guard_on rfl rfl rfl (lk_ sc3 0 rfl rfl rfl (wl_guard_on rfl rfl rfl ?_))))
  refine wl_ov (ov_gtr rfl rfl) rfl ?_
  refine pf_ rfl rfl (sg_ rfl (nn_ ?_))
  refine gw_cond rfl (fun hh => ?_) (fun hh => ?_)
  ·have h5 : 4001 < tt := by simpa using hh
   clear hh
   refine sr_ (sg_ rfl (nn_ ?_))
   refine gw_ret ?_
   refine nx_blk_ret (nx_then_ret (nx_blk_ret (nx_then_ret (nx_then_ret (nx_blk_ret (nx_then_ret ?_))))))
   have hE : rateE (prevOf l k) ⟨cl, fr, tt, ho, dd, we, wk⟩ = 1 := by unfold rateE; simp [h2, h3, h4, h5]
   refine nx_ret1 rfl rfl fun wx hm => ?_
   exact ⟨ret_int (by rw [hinv.2, hat, if_neg (by rw [hE]; decide), hE]), hm.g⟩
  have h5 : ¬ (4001 < tt) := by simpa using hh
  clear hh
  refine gw_skip (nx_blk_nrm (nx_then (gw_seq (sr_ (fd_ fo288_3 rfl rfl (lk_ sc3 0 rfl rfl rfl (fd_ fo288_4 rfl rfl (lk_ sc3 0 rfl rfl rfl (fd_ fo288_5 rfl rfl (lk_ sc3 0 rfl rfl rfl (fd_ fo288_6 rfl rfl (lk_ sc3 0 rfl rfl rfl ?_))))))))))))
  refine wl_buildSlice (e := 3) (cs := [.int .i64 ho, .int .i64 dd, .int .i64 we, .int .i64 wk]) rfl (by kernel_rfl) rfl fun g2 => ?_
  refine wl_ov (ov_len es22 rfl) rfl ?_
  refine wl_set 48 (v' := .int .i64 4) rfl rfl ?_
  refine mv_ rfl (nn_ (gw_block ?_))
  refine gw_rounds 5 ?_
  refine gr_next ?_
  refine sr_ (wl_ov (ov_lss rfl rfl) rfl ?_)
  refine wl_set 50 (v' := .bool true) rfl (congrArg Value.bool (by decide)) ?_
  refine nn_ (gw_seq (ct_ rfl (gw_skip (nx_then (gw_seq (gw_block (sr_ ?_)))))))
  refine wl_ov (ov_index (j := 0) es22 rfl rfl (by decide)) rfl ?_
  refine lk_ sc3 0 rfl rfl rfl (sg_ rfl (nn_ (sr_ (mv_ rfl ?_))))
  refine wl_callw rfl cb169 rfl rfl (fun wx hm => (in_any _ _ _ wx)) ?_
  refine wl_ov (ov_un_not rfl) rfl (nn_ ?_)
  refine gw_cond rfl (fun hh => ?_) (fun hh => ?_)
  ·have i1 : (inB ho (-1) 1000000) = false := by simpa using hh
   clear hh
   refine sr_ (sg_ rfl (nn_ ?_))
   refine gw_ret ?_
   refine nx_blk_ret (nx_then_ret (nx_then_ret (nx_blk_ret (nx_then_ret (nx_blk_ret (nx_then_ret (nx_then_ret (nx_blk_ret (nx_then_ret ?_)))))))))
   have hE : rateE (prevOf l k) ⟨cl, fr, tt, ho, dd, we, wk⟩ = 1 := by unfold rateE; simp [h2, h3, h4, h5, i1]
   refine nx_ret1 rfl rfl fun wx hm => ?_
   exact ⟨ret_int (by rw [hinv.2, hat, if_neg (by rw [hE]; decide), hE]), hm.g⟩
  have i1 : (inB ho (-1) 1000000) = true := by simpa using hh
  clear hh
  refine gw_skip (nx_blk_nrm (nx_then (gw_region (ad_ rfl rfl ?_))))
  refine wl_set 56 (v' := .int .i64 1) rfl rfl ?_
  refine mv_ rfl (wl_nil ?_)
  refine nx_next ?_
  refine gr_next ?_
  refine sr_ (wl_ov (ov_lss rfl rfl) rfl ?_)
  refine wl_set 50 (v' := .bool true) rfl (congrArg Value.bool (by decide)) ?_
  refine nn_ (gw_seq (ct_ rfl (gw_skip (nx_then (gw_seq (gw_block (sr_ ?_)))))))
  refine wl_ov (ov_index (j := 1) es22 rfl rfl (by decide)) rfl ?_
  refine lk_ sc3 0 rfl rfl rfl (sg_ rfl (nn_ (sr_ (mv_ rfl ?_))))
  refine wl_callw rfl cb169 rfl rfl (fun wx hm => (in_any _ _ _ wx)) ?_
  refine wl_ov (ov_un_not rfl) rfl (nn_ ?_)
  refine gw_cond rfl (fun hh => ?_) (fun hh => ?_)
  ·have i2 : (inB dd (-1) 1000000) = false := by simpa using hh
   clear hh
   refine sr_ (sg_ rfl (nn_ ?_))
   refine gw_ret ?_
   refine nx_blk_ret (nx_then_ret (nx_then_ret (nx_blk_ret (nx_then_ret (nx_blk_ret (nx_then_ret (nx_then_ret (nx_blk_ret (nx_then_ret ?_)))))))))
   have hE : rateE (prevOf l k) ⟨cl, fr, tt, ho, dd, we, wk⟩ = 1 := by unfold rateE; simp [h2, h3, h4, h5, i1, i2]
   refine nx_ret1 rfl rfl fun wx hm => ?_
   exact ⟨ret_int (by rw [hinv.2, hat, if_neg (by rw [hE]; decide), hE]), hm.g⟩
  have i2 : (inB dd (-1) 1000000) = true := by simpa using hh
  clear hh
  refine gw_skip (nx_blk_nrm (nx_then (gw_region (ad_ rfl rfl ?_))))
  refine wl_set 56 (v' := .int .i64 2) rfl rfl ?_
  refine mv_ rfl (wl_nil ?_)
  refine nx_next ?_
  refine gr_next ?_
  refine sr_ (wl_ov (ov_lss rfl rfl) rfl ?_)
  refine wl_set 50 (v' := .bool true) rfl (congrArg Value.bool (by decide)) ?_
  refine nn_ (gw_seq (ct_ rfl (gw_skip (nx_then (gw_seq (gw_block (sr_ ?_)))))))
  refine wl_ov (ov_index (j := 2) es22 rfl rfl (by decide)) rfl ?_
  refine lk_ sc3 0 rfl rfl rfl (sg_ rfl (nn_ (sr_ (mv_ rfl ?_))))
  refine wl_callw rfl cb169 rfl rfl (fun wx hm => (in_any _ _ _ wx)) ?_
  refine wl_ov (ov_un_not rfl) rfl (nn_ ?_)
  refine gw_cond rfl (fun hh => ?_) (fun hh => ?_)
  ·have i3 : (inB we (-1) 1000000) = false := by simpa using hh
   clear hh
   refine sr_ (sg_ rfl (nn_ ?_))
   refine gw_ret ?_
   refine nx_blk_ret (nx_then_ret (nx_then_ret (nx_blk_ret (nx_then_ret (nx_blk_ret (nx_then_ret (nx_then_ret (nx_blk_ret (nx_then_ret ?_)))))))))
   have hE : rateE (prevOf l k) ⟨cl, fr, tt, ho, dd, we, wk⟩ = 1 := by unfold rateE; simp [h2, h3, h4, h5, i1, i2, i3]
   refine nx_ret1 rfl rfl fun wx hm => ?_
   exact ⟨ret_int (by rw [hinv.2, hat, if_neg (by rw [hE]; decide), hE]), hm.g⟩
  have i3 : (inB we (-1) 1000000) = true := by simpa using hh
  clear hh
  refine gw_skip (nx_blk_nrm (nx_then (gw_region (ad_ rfl rfl ?_))))
  refine wl_set 56 (v' := .int .i64 3) rfl rfl ?_
  refine mv_ rfl (wl_nil ?_)
  refine nx_next ?_
  refine gr_next ?_
  refine sr_ (wl_ov (ov_lss rfl rfl) rfl ?_)
  refine wl_set 50 (v' := .bool true) rfl (congrArg Value.bool (by decide)) ?_
  refine nn_ (gw_seq (ct_ rfl (gw_skip (nx_then (gw_seq (gw_block (sr_ ?_)))))))
  refine wl_ov (ov_index (j := 3) es22 rfl rfl (by decide)) rfl ?_
  refine lk_ sc3 0 rfl rfl rfl (sg_ rfl (nn_ (sr_ (mv_ rfl ?_))))
  refine wl_callw rfl cb169 rfl rfl (fun wx hm => (in_any _ _ _ wx)) ?_
  refine wl_ov (ov_un_not rfl) rfl (nn_ ?_)
  refine gw_cond rfl (fun hh => ?_) (fun hh => ?_)
  ·have i4 : (inB wk (-1) 1000000) = false := by simpa using hh
   clear hh
   refine sr_ (sg_ rfl (nn_ ?_))
   refine gw_ret ?_
   refine nx_blk_ret (nx_then_ret (nx_then_ret (nx_blk_ret (nx_then_ret (nx_blk_ret (nx_then_ret (nx_then_ret (nx_blk_ret (nx_then_ret ?_)))))))))
   have hE : rateE (prevOf l k) ⟨cl, fr, tt, ho, dd, we, wk⟩ = 1 := by unfold rateE; simp [h2, h3, h4, h5, i1, i2, i3, i4]
   refine nx_ret1 rfl rfl fun wx hm => ?_
   exact ⟨ret_int (by rw [hinv.2, hat, if_neg (by rw [hE]; decide), hE]), hm.g⟩
  have i4 : (inB wk (-1) 1000000) = true := by simpa using hh
  clear hh
  refine gw_skip (nx_blk_nrm (nx_then (gw_region ?_)))
  by_cases hk0 : k = 0
  ·have hE : rateE (prevOf l k) ⟨cl, fr, tt, ho, dd, we, wk⟩ = 0 := by unfold rateE; rw [pv_zero hk0]; simp [h2, h3, h4, h5, i1, i2, i3, i4]
   refine ad_ rfl rfl ?_
   refine wl_set 56 (v' := .int .i64 4) rfl rfl ?_
   refine mv_ rfl (wl_nil ?_)
   refine nx_next ?_
   refine gr_next ?_
   refine sr_ (wl_ov (ov_lss rfl rfl) rfl ?_)
   refine wl_set 50 (v' := .bool false) rfl (congrArg Value.bool (by decide)) ?_
   refine nn_ (gw_seq (cf_ rfl ?_))
   refine gw_exit ?_
   refine nx_then_exit (nx_then_exit ?_)
   refine nx_blk_here ?_
   refine nx_then (gw_seq (sr_ (mv_ rfl (wl_ov (ov_eql rfl rfl) rfl ?_))))
   refine wl_set 58 (v' := .bool true) rfl (congrArg Value.bool (decide_eq_true (by omega))) ?_
   refine nn_ (ct_ rfl ?_)
   refine gw_exit ?_
   refine nx_then_exit ?_
   refine nx_blk_here ?_
   refine nx_then (gw_region (ad_ rfl rfl (mv_ rfl (wl_nil ?_))))
   exact nx_round (k + 1) ⟨by omega, by rw [hinv.2, hat, if_pos hE]⟩ (by omega) ⟨rfl, rfl, rfl, (some_int (by omega)), trivial⟩ (fun _ hm => hm.pick [] [] [0] rfl rfl)
  obtain ⟨y, hy⟩ : ∃ x, l[k - 1]? = some x := ⟨_, List.getElem?_eq_getElem (by omega)⟩
  obtain ⟨p0, p1, p2, p3, p4, p5, p6⟩ := y
  have hpv := pv_pos hk0 hy
  refine ad_ rfl rfl ?_
  refine wl_set 56 (v' := .int .i64 4) rfl rfl ?_
  refine mv_ rfl (wl_nil ?_)
  refine nx_next ?_
  refine gr_next ?_
  refine sr_ (wl_ov (ov_lss rfl rfl) rfl ?_)
  refine wl_set 50 (v' := .bool false) rfl (congrArg Value.bool (by decide)) ?_
  refine nn_ (gw_seq (cf_ rfl ?_))
  refine gw_exit ?_
  refine nx_then_exit (nx_then_exit ?_)
  refine nx_blk_here ?_
  refine nx_then (gw_seq (sr_ (mv_ rfl (wl_ov (ov_eql rfl rfl) rfl ?_))))
  refine wl_set 58 (v' := .bool false) rfl (congrArg Value.bool (decide_eq_false (by omega))) ?_
  refine nn_ (cf_ rfl (gw_skip (nx_then (sr_ (mv_ rfl (mv_ rfl ?_))))))
  refine wl_ov (ov_sub rfl rfl (by omega) (by omega)) rfl ?_
  refine wl_set 61 (v' := .int .i64 ((k - 1 : Nat) : Int)) rfl (congrArg (Value.int .i64) (by omega)) ?_
  refine wl_ov (ov_index (j := k - 1) es71 rfl rfl (by omega)) rfl ?_
  refine wl_ov (ov_elem (vs := [.string p0, .int .i64 p1, .int .i64 p2, .int .i64 p3, .int .i64 p4, .int .i64 p5, .int .i64 p6]) rz288 rfl (fun _ hm => (hm.fact 0 rfl).1) hy rfl rfl) rfl ?_
  refine wl_alloc zc288 rfl fun g3 => ?_
  refine wl_stores (cs' := [.string p0, .int .i64 p1, .int .i64 p2, .int .i64 p3, .int .i64 p4, .int .i64 p5, .int .i64 p6]) 0 rz288 rfl rfl rfl rfl rfl rfl rfl rfl ?_
  refine nn_ (gw_seq (gw_seq ?_))
  refine gd (fun wz => Blk wz g3 288 [.string p0, .int .i64 p1, .int .i64 p2, .int .i64 p3, .int .i64 p4, .int .i64 p5, .int .i64 p6] ∧ Blk wz g2 3 [.int .i64 ho, .int .i64 dd, .int .i64 we, .int .i64 wk] ∧ Blk wz g1 288 [.string cl, .int .i64 fr, .int .i64 tt, .int .i64 ho, .int .i64 dd, .int .i64 we, .int .i64 wk] ∧ (SlOld rtEnc 7 288 w.heap.size none (some ⟨b, off, none⟩) n l) wz ∧ True) mixed (fun _ hm => ⟨hm.bl 0, hm.bl 1, hm.bl 2, hm.fa 0, trivial⟩) fun z => ?_
  refine wt 0 13 1 rfl z (ov_field fo288_0 rfl rfl) ?_
  refine wt 1 13 3 rfl z (ov_load sc9 rfl (fun _ hm => hm.1) rfl) ?_
  refine wt 2 13 7 rfl z (ov_field fo288_0 rfl rfl) ?_
  refine wt 3 13 15 rfl z (ov_load sc9 rfl (fun _ hm => hm.2.2.1) rfl) ?_
  refine wt 5 13 47 rfl z (ov_field fo288_1 rfl rfl) ?_
  refine wt 6 13 111 rfl z (ov_load sc3 rfl (fun _ hm => hm.1) rfl) ?_
  refine wt 7 13 239 rfl z (ov_field fo288_1 rfl rfl) ?_
  refine wt 8 13 495 rfl z (ov_load sc3 rfl (fun _ hm => hm.2.2.1) rfl) ?_
  refine wa1 4 rfl ?_
  refine wl_callv rfl cb120 rfl rfl (fun wx hm => (cmp_string _ _ wx)) ?_
  refine wl_nil ?_
  refine nw 13 511 (fun _ hm => ⟨hm.bl 0, hm.bl 1, hm.bl 2, hm.fa 0, trivial⟩) fun z => ?_
  refine wa1 9 rfl ?_
  refine wl_callv rfl cb119 rfl rfl (fun wx hm => (cmp_int _ _ wx)) ?_
  refine wl_nil ?_
  refine nw 13 1023 (fun _ hm => ⟨hm.bl 0, hm.bl 1, hm.bl 2, hm.fa 0, trivial⟩) fun z => ?_
  refine wa1 10 rfl ?_
  refine wl_buildSlice (e := 3) (cs := [.int .i64 (cmpS p0 cl), .int .i64 (cmpI p1 fr)]) rfl (by kernel_rfl) rfl fun g4 => ?_
  refine wl_nil ?_
  refine nw 13 2047 (fun _ hm => ⟨hm.bl 1, hm.bl 2, hm.bl 3, hm.fa 0, trivial⟩) fun z => ?_
  refine wa1 11 rfl ?_
  refine wl_callv rfl cb118 rfl rfl (fun wx hm => (or_two _ _ _ _ _ wx (hm.blkI 0 rfl))) ?_
  refine wl_nil ?_
  refine nw 13 4095 (fun _ hm => ⟨hm.bl 1, hm.bl 2, hm.bl 3, hm.fa 0, trivial⟩) fun z => ?_
  refine wt 12 13 8191 rfl z (ov_geq rfl rfl) ?_
  refine wa_done (by kernel_rfl) ?_
  refine nx_then ?_
  refine gw_cond rfl (fun hh => ?_) (fun hh => ?_)
  ·have h8 : 0 ≤ firstE [cmpS p0 cl, cmpI p1 fr] := by simpa using hh
   clear hh
   refine sr_ ?_
   have h9 : rtLt ⟨p0, p1, p2, p3, p4, p5, p6⟩ ⟨cl, fr, tt, ho, dd, we, wk⟩ = false := (or_rt' ⟨p0, p1, p2, p3, p4, p5, p6⟩ ⟨cl, fr, tt, ho, dd, we, wk⟩).1 h8
   refine sg_ rfl (nn_ ?_)
   refine gw_ret ?_
   refine nx_then_ret (nx_blk_ret (nx_then_ret (nx_then_ret (nx_blk_ret (nx_then_ret ?_)))))
   have hE : rateE (prevOf l k) ⟨cl, fr, tt, ho, dd, we, wk⟩ = 7 := by unfold rateE; rw [hpv]; simp [h2, h3, h4, h5, i1, i2, i3, i4, h9]
   refine nx_ret1 rfl rfl fun wx hm => ?_
   exact ⟨ret_int (by rw [hinv.2, hat, if_neg (by rw [hE]; decide), hE]), hm.g⟩
  have h8 : ¬ (0 ≤ firstE [cmpS p0 cl, cmpI p1 fr]) := by simpa using hh
  clear hh
  refine gw_skip (nx_then (sr_ ?_))
  have h9 : rtLt ⟨p0, p1, p2, p3, p4, p5, p6⟩ ⟨cl, fr, tt, ho, dd, we, wk⟩ = true := by
   cases h : rtLt ⟨p0, p1, p2, p3, p4, p5, p6⟩ ⟨cl, fr, tt, ho, dd, we, wk⟩
   ·exact absurd ((or_rt' ⟨p0, p1, p2, p3, p4, p5, p6⟩ ⟨cl, fr, tt, ho, dd, we, wk⟩).2 h) h8
   rfl
  refine fd_ fo288_0 rfl rfl (lk_ sc9 1 rfl rfl rfl (fd_ fo288_0 rfl rfl (lk_ sc9 3 rfl rfl rfl (wl_ov (ov_seql rfl rfl) rfl (mv_ rfl ?_)))))
  rcases Bool.eq_false_or_eq_true (p0.toList == cl.toList) with h12 | h12
  ·refine wl_set 82 rfl (congrArg Value.bool h12) ?_
   have h13 : eqS p0 cl = true := h12
   refine wl_guard_on rfl rfl rfl (fd_ fo288_2 rfl rfl (wl_guard_on rfl rfl rfl (lk_ sc3 1 rfl rfl rfl (wl_guard_on rfl rfl rfl (fd_ fo288_1 rfl rfl (wl_guard_on rfl rfl rfl (lk_ sc3 3 rfl rfl rfl (wl_guard_on rfl rfl rfl ?_))))))))
   refine wl_ov (ov_gtr rfl rfl) rfl ?_
   refine pt_ rfl rfl (nn_ ?_)
   refine gw_cond rfl (fun hh => ?_) (fun hh => ?_)
   ·have h14 : fr < p2 := by simpa using hh
    clear hh
    refine sr_ (sg_ rfl (nn_ ?_))
    refine gw_ret ?_
    refine nx_blk_ret (nx_then_ret (nx_then_ret (nx_blk_ret (nx_then_ret ?_))))
    have hE : rateE (prevOf l k) ⟨cl, fr, tt, ho, dd, we, wk⟩ = 13 := by unfold rateE; rw [hpv]; simp [h2, h3, h4, h5, i1, i2, i3, i4, h9, h13, h14]
    refine nx_ret1 rfl rfl fun wx hm => ?_
    exact ⟨ret_int (by rw [hinv.2, hat, if_neg (by rw [hE]; decide), hE]), hm.g⟩
   have h14 : ¬ (fr < p2) := by simpa using hh
   clear hh
   refine gw_skip (nx_blk_nrm (nx_then (gw_region ?_)))
   have hE : rateE (prevOf l k) ⟨cl, fr, tt, ho, dd, we, wk⟩ = 0 := by unfold rateE; rw [hpv]; simp [h2, h3, h4, h5, i1, i2, i3, i4, h9, h13, h14]
   refine ad_ rfl rfl (mv_ rfl (wl_nil ?_))
   exact nx_round (k + 1) ⟨by omega, by rw [hinv.2, hat, if_pos hE]⟩ (by omega) ⟨rfl, rfl, rfl, (some_int (by omega)), trivial⟩ (fun _ hm => hm.pick [] [] [0] rfl rfl)
  refine wl_set 82 rfl (congrArg Value.bool h12) ?_
  have h13 : eqS p0 cl = false := h12
  have hE : rateE (prevOf l k) ⟨cl, fr, tt, ho, dd, we, wk⟩ = 0 := by unfold rateE; rw [hpv]; simp [h2, h3, h4, h5, i1, i2, i3, i4, h9, h13]
  refine goff rfl rfl rfl (goff rfl rfl rfl (goff rfl rfl rfl (goff rfl rfl rfl (goff rfl rfl rfl (pf_ rfl rfl (nn_ (cf_ rfl (gw_skip (nx_blk_nrm (nx_then (gw_region (ad_ rfl rfl ?_))))))))))))
  refine mv_ rfl (wl_nil ?_)
  exact nx_round (k + 1) ⟨by omega, by rw [hinv.2, hat, if_pos hE]⟩ (by omega) ⟨rfl, rfl, rfl, (some_int (by omega)), trivial⟩ (fun _ hm => hm.pick [] [] [0] rfl rfl)
 have hk : ¬ (((k : Nat) : Int) < ((n : Nat) : Int)) := by simpa using hh
 clear hh
 refine gw_exit ?_
 refine nx_then_exit (nx_then_exit ?_)
 refine nx_blk_here ?_
 refine nx_then (sr_ (sg_ rfl (nn_ ?_)))
 refine gw_ret ?_
 refine nx_ret1 rfl rfl fun wx hm => ?_
 exact ⟨ret_int (by rw [hinv.2, scanE_end _ _ _ _ (by omega)]), hm.g⟩
theorem ratesFault_any (l : List Rt) (A : Option Addr) (n c : Nat) (w : World) (hl : SlT rtEnc 7 288 w A n l) (hok : ∀ b ∈ l, RtOk b) (hn : n ≤ 1000000) :
  Calls Tryz.prog 199 #[.slice A n c] w (GotE w (ratesE l)) := by
 refine gw_enter ⟨107, w, none, []⟩ Tryz.func199 rfl Tryz.ntmps199 rfl (mem0 (X := [SlOld rtEnc 7 288 w.heap.size none A n l]) (allF_cons hl.old allF_nil) (allL_cons SlOld.lasts allL_nil)) ?_
 refine sr_ ?_
 have hlen := hl.len
 refine sg_ rfl (nn_ (gw_seq (sr_ (mv_ rfl (wl_ov (ov_len es71 rfl) rfl ?_)))))
 refine wl_ov (ov_gtr rfl rfl) rfl ?_
 refine nn_ ?_
 refine gw_cond rfl (fun hh => ?_) (fun hh => ?_)
 ·have h1 : 200 < ((n : Nat) : Int) := by simpa using hh
  clear hh
  refine sr_ (sg_ rfl (nn_ ?_))
  refine gw_ret ?_
  refine nx_then_ret ?_
  refine nx_ret1 rfl rfl fun wx hm => ?_
  exact ⟨ret_int (by unfold ratesE; rw [if_pos (by omega)]), hm.g⟩
 have h1 : ¬ (200 < ((n : Nat) : Int)) := by simpa using hh
 clear hh
 refine gw_skip (nx_then (gw_seq (sr_ (mv_ rfl (wl_ov (ov_len es71 rfl) rfl (mv_ rfl (nn_ (gw_block ?_))))))))
 refine gw_loop (γ := Nat) (fun (k : Nat) => k ≤ n ∧ ratesE l = scanE rateE (prevOf l k) (l.drop k)) (fun (k : Nat) => [(0, .slice A n c), (11, .slice A n c), (12, .int .i64 ((n : Nat) : Int)), (13, .int .i64 ((k : Nat) : Int))]) (fun (k : Nat) => fun _ => True) (fun (k : Nat) => []) (fun (k : Nat) => []) (fun (k : Nat) => [SlOld rtEnc 7 288 w.heap.size none A n l]) (fun (k : Nat) => n - k) 0 ⟨Nat.zero_le _, by unfold ratesE; rw [if_neg (by omega)]; rfl⟩ ⟨rfl, rfl, rfl, rfl, trivial⟩ (fun _ hm => hm.pick [] [] [0] rfl rfl) ?_
 intro k hinv
 replace hinv : k ≤ n ∧ ratesE l = scanE rateE (prevOf l k) (l.drop k) := hinv
 refine sr_ (wl_ov (ov_lss rfl rfl) rfl (nn_ (gw_seq ?_)))
 refine gw_cond rfl (fun hh => ?_) (fun hh => ?_)
 ·have hk : ((k : Nat) : Int) < ((n : Nat) : Int) := by simpa using hh
  clear hh
  refine gw_skip (nx_then (gw_seq (gw_block (sr_ ?_))))
  obtain ⟨b, off, hA, _, _⟩ := hl.get (by omega)
  subst hA
  obtain ⟨x, hx⟩ : ∃ x, l[k]? = some x := ⟨_, List.getElem?_eq_getElem (by omega)⟩
  obtain ⟨cl, fr, tt, ho, dd, we, wk⟩ := x
  have hat := scanE_at rateE l k _ hx
  have hcl : cl.size ≤ 1000000 := hok _ (List.mem_of_getElem? hx)
  refine mv_ rfl ?_
  refine wl_ov (ov_index (j := k) es71 rfl rfl (by omega)) rfl ?_
  refine wl_ov (ov_elem (vs := [.string cl, .int .i64 fr, .int .i64 tt, .int .i64 ho, .int .i64 dd, .int .i64 we, .int .i64 wk]) rz288 rfl (fun _ hm => (hm.fact 0 rfl).1) hx rfl rfl) rfl ?_
  refine wl_alloc zc288 rfl fun g1 => ?_
  refine sg_ rfl ?_
  refine wl_stores (cs' := [.string cl, .int .i64 fr, .int .i64 tt, .int .i64 ho, .int .i64 dd, .int .i64 we, .int .i64 wk]) 0 rz288 rfl rfl rfl rfl rfl rfl rfl rfl ?_
  refine nn_ (gw_seq ?_)
  refine gd (fun wz => Blk wz g1 288 [.string cl, .int .i64 fr, .int .i64 tt, .int .i64 ho, .int .i64 dd, .int .i64 we, .int .i64 wk] ∧ (SlOld rtEnc 7 288 w.heap.size none (some ⟨b, off, none⟩) n l) wz ∧ True) mixed (fun _ hm => ⟨hm.bl 0, hm.fa 0, trivial⟩) fun z => ?_
  refine wt 0 20 1 rfl z (ov_field fo288_3 rfl rfl) ?_
  refine wt 1 20 3 rfl z (ov_load sc3 rfl (fun _ hm => hm.1) rfl) ?_
  refine wt 2 20 7 rfl z (ov_field fo288_4 rfl rfl) ?_
  refine wt 3 20 15 rfl z (ov_load sc3 rfl (fun _ hm => hm.1) rfl) ?_
  refine wt 4 20 31 rfl z (ov_field fo288_5 rfl rfl) ?_
  refine wt 5 20 63 rfl z (ov_load sc3 rfl (fun _ hm => hm.1) rfl) ?_
  refine wt 6 20 127 rfl z (ov_field fo288_6 rfl rfl) ?_
  refine wt 7 20 255 rfl z (ov_load sc3 rfl (fun _ hm => hm.1) rfl) ?_
  refine wt 8 20 511 rfl z (ov_min4 rfl rfl rfl rfl) ?_
  refine wt 9 20 1023 rfl z (ov_field fo288_3 rfl rfl) ?_
  refine wt 10 20 2047 rfl z (ov_load sc3 rfl (fun _ hm => hm.1) rfl) ?_
  refine wt 11 20 4095 rfl z (ov_field fo288_4 rfl rfl) ?_
  refine wt 12 20 8191 rfl z (ov_load sc3 rfl (fun _ hm => hm.1) rfl) ?_
  refine wt 13 20 16383 rfl z (ov_field fo288_5 rfl rfl) ?_
  refine wt 14 20 32767 rfl z (ov_load sc3 rfl (fun _ hm => hm.1) rfl) ?_
  refine wt 15 20 65535 rfl z (ov_field fo288_6 rfl rfl) ?_
  refine wt 16 20 131071 rfl z (ov_load sc3 rfl (fun _ hm => hm.1) rfl) ?_
  refine wt 17 20 262143 rfl z (ov_max4 rfl rfl rfl rfl) ?_
  refine wt 18 20 524287 rfl z (ov_assign rfl) ?_
  refine wt 19 20 1048575 rfl z (ov_assign rfl) ?_
  refine wa_done (by kernel_rfl) ?_
  refine nx_then (gw_seq (gw_block (sr_ (fd_ fo288_0 rfl rfl (lk_ sc9 0 rfl rfl rfl ?_)))))
  refine wl_callv rfl cb153 rfl rfl (fun wx hm => (key_any _ wx (by omega))) ?_
  refine wl_ov (ov_un_not rfl) rfl (sg_ rfl (nn_ ?_))
  refine gw_cond rfl (fun hh => ?_) (fun hh => ?_)
  ·have h2 : (keyB cl) = false := by simpa using hh
   clear hh
   refine sr_ (sg_ rfl (nn_ ?_))
   refine gw_ret ?_
   refine nx_blk_ret (nx_then_ret (nx_blk_ret (nx_then_ret (nx_then_ret (nx_blk_ret (nx_then_ret ?_))))))
   have hE : rateE (prevOf l k) ⟨cl, fr, tt, ho, dd, we, wk⟩ = 5 := by unfold rateE; simp [h2]
   refine nx_ret1 rfl rfl fun wx hm => ?_
   exact ⟨ret_int (by rw [hinv.2, hat, if_neg (by rw [hE]; decide), hE]), hm.g⟩
  have h2 : (keyB cl) = true := by simpa using hh
  clear hh
  refine sr_ (fd_ fo288_1 rfl rfl (lk_ sc3 0 rfl rfl rfl (wl_ov (ov_lss rfl rfl) rfl (mv_ rfl ?_))))
  rcases Bool.eq_false_or_eq_true (decide (fr < 0)) with h3 | h3
  ·refine wl_set 45 rfl (congrArg Value.bool h3) ?_
   replace h3 := of_decide_eq_true h3
   refine goff rfl rfl rfl (goff rfl rfl rfl (goff rfl rfl rfl (goff rfl rfl rfl (goff rfl rfl rfl (pt_ rfl rfl (mv_ rfl (goff rfl rfl rfl (goff rfl rfl rfl (goff rfl rfl rfl (pt_ rfl rfl (mv_ rfl (goff rfl rfl rfl (goff rfl rfl rfl ?_)))))))))))))
   refine pt_ rfl rfl (mv_ rfl (goff rfl rfl rfl (goff rfl rfl rfl (pt_ rfl rfl (sg_ rfl (nn_ (ct_ rfl (sr_ (sg_ rfl (nn_ ?_))))))))))
   refine gw_ret ?_
   refine nx_blk_ret (nx_then_ret (nx_blk_ret (nx_then_ret (nx_then_ret (nx_blk_ret (nx_then_ret ?_))))))
   have hE : rateE (prevOf l k) ⟨cl, fr, tt, ho, dd, we, wk⟩ = 1 := by unfold rateE; simp [h2, h3]
   refine nx_ret1 rfl rfl fun wx hm => ?_
   exact ⟨ret_int (by rw [hinv.2, hat, if_neg (by rw [hE]; decide), hE]), hm.g⟩
  refine wl_set 45 rfl (congrArg Value.bool h3) ?_
  replace h3 := of_decide_eq_false h3
  refine wl_guard_on rfl rfl rfl (fd_ fo288_1 rfl rfl (wl_guard_on rfl rfl rfl (lk_ sc3 0 rfl rfl rfl (wl_guard_on rfl rfl rfl (fd_ fo288_2 rfl rfl (wl_guard_on rfl rfl rfl (lk_ sc3 0 rfl rfl rfl (wl_guard_on rfl rfl rfl ?_))))))))
  refine wl_ov (ov_geq rfl rfl) rfl ?_
  refine pf_ rfl rfl (mv_ rfl ?_)
  rcases Bool.eq_false_or_eq_true (decide (tt ≤ fr)) with h4 | h4
  ·refine wl_set 52 rfl (congrArg Value.bool h4) ?_
   replace h4 := of_decide_eq_true h4
   refine goff rfl rfl rfl (goff rfl rfl rfl (goff rfl rfl rfl (pt_ rfl rfl (mv_ rfl (goff rfl rfl rfl (goff rfl rfl rfl (pt_ rfl rfl (mv_ rfl (goff rfl rfl rfl (goff rfl rfl rfl (pt_ rfl rfl (sg_ rfl (wl_nil ?_)))))))))))))
   refine nx_then (ct_ rfl (sr_ (sg_ rfl (nn_ ?_))))
   refine gw_ret ?_
   refine nx_blk_ret (nx_then_ret (nx_blk_ret (nx_then_ret (nx_then_ret (nx_blk_ret (nx_then_ret ?_))))))
   have hE : rateE (prevOf l k) ⟨cl, fr, tt, ho, dd, we, wk⟩ = 1 := by unfold rateE; simp [h2, h3, h4]
   refine nx_ret1 rfl rfl fun wx hm => ?_
   exact ⟨ret_int (by rw [hinv.2, hat, if_neg (by rw [hE]; decide), hE]), hm.g⟩
  refine wl_set 52 rfl (congrArg Value.bool h4) ?_
  replace h4 := of_decide_eq_false h4
  refine wl_guard_on rfl rfl rfl (fd_ fo288_2 rfl rfl (wl_guard_on rfl rfl rfl (lk_ sc3 0 rfl rfl rfl (wl_guard_on rfl rfl rfl ?_))))
  refine wl_ov (ov_gtr rfl rfl) rfl ?_
  refine pf_ rfl rfl (mv_ rfl ?_)
  rcases Bool.eq_false_or_eq_true (decide (4001 < tt)) with h5 | h5
  ·refine wl_set 57 rfl (congrArg Value.bool h5) ?_
   replace h5 := of_decide_eq_true h5
   refine goff rfl rfl rfl (goff rfl rfl rfl (pt_ rfl rfl (mv_ rfl (goff rfl rfl rfl (goff rfl rfl rfl (pt_ rfl rfl (sg_ rfl (nn_ (ct_ rfl (sr_ (sg_ rfl ?_)))))))))))
   refine nn_ ?_
   refine gw_ret ?_
   refine nx_blk_ret (nx_then_ret (nx_blk_ret (nx_then_ret (nx_then_ret (nx_blk_ret (nx_then_ret ?_))))))
   have hE : rateE (prevOf l k) ⟨cl, fr, tt, ho, dd, we, wk⟩ = 1 := by unfold rateE; simp [h2, h3, h4, h5]
   refine nx_ret1 rfl rfl fun wx hm => ?_
   exact ⟨ret_int (by rw [hinv.2, hat, if_neg (by rw [hE]; decide), hE]), hm.g⟩
  refine wl_set 57 rfl (congrArg Value.bool h5) ?_
  replace h5 := of_decide_eq_false h5
  refine wl_guard_on rfl rfl rfl (mv_ rfl (wl_guard_on rfl rfl rfl (wl_ov (ov_lss rfl rfl) rfl (pf_ rfl rfl (mv_ rfl ?_)))))
  rcases Bool.eq_false_or_eq_true (decide (min (min (min ho dd) we) wk < -1)) with h6 | h6
  ·refine wl_set 61 rfl (congrArg Value.bool h6) ?_
   replace h6 := of_decide_eq_true h6
   have hi : inB ho (-1) 1000000 = false ∨ inB dd (-1) 1000000 = false ∨ inB we (-1) 1000000 = false ∨ inB wk (-1) 1000000 = false := by simp only [inB_false]; omega
   refine goff rfl rfl rfl (goff rfl rfl rfl (pt_ rfl rfl (sg_ rfl (nn_ (ct_ rfl (sr_ (sg_ rfl (nn_ ?_))))))))
   refine gw_ret ?_
   refine nx_blk_ret (nx_then_ret (nx_blk_ret (nx_then_ret (nx_then_ret (nx_blk_ret (nx_then_ret ?_))))))
   have hE : rateE (prevOf l k) ⟨cl, fr, tt, ho, dd, we, wk⟩ = 1 := by unfold rateE; simp [h2, h3, h4, h5, hi]
   refine nx_ret1 rfl rfl fun wx hm => ?_
   exact ⟨ret_int (by rw [hinv.2, hat, if_neg (by rw [hE]; decide), hE]), hm.g⟩
  refine wl_set 61 rfl (congrArg Value.bool h6) ?_
  replace h6 := of_decide_eq_false h6
  refine wl_guard_on rfl rfl rfl (mv_ rfl (wl_guard_on rfl rfl rfl ?_))
  refine wl_ov (ov_gtr rfl rfl) rfl ?_
  refine pf_ rfl rfl (sg_ rfl (nn_ ?_))
  refine gw_cond rfl (fun hh => ?_) (fun hh => ?_)
  ·have h7 : 1000000 < max (max (max ho dd) we) wk := by simpa using hh
   clear hh
   refine sr_ ?_
   have hi : inB ho (-1) 1000000 = false ∨ inB dd (-1) 1000000 = false ∨ inB we (-1) 1000000 = false ∨ inB wk (-1) 1000000 = false := by simp only [inB_false]; omega
   refine sg_ rfl (nn_ ?_)
   refine gw_ret ?_
   refine nx_blk_ret (nx_then_ret (nx_blk_ret (nx_then_ret (nx_then_ret (nx_blk_ret (nx_then_ret ?_))))))
   have hE : rateE (prevOf l k) ⟨cl, fr, tt, ho, dd, we, wk⟩ = 1 := by unfold rateE; simp [h2, h3, h4, h5, hi]
   refine nx_ret1 rfl rfl fun wx hm => ?_
   exact ⟨ret_int (by rw [hinv.2, hat, if_neg (by rw [hE]; decide), hE]), hm.g⟩
  have h7 : ¬ (1000000 < max (max (max ho dd) we) wk) := by simpa using hh
  clear hh
  refine sr_ ?_
  have i1 : inB ho (-1) 1000000 = true := inB_iff.2 (by omega)
  have i2 : inB dd (-1) 1000000 = true := inB_iff.2 (by omega)
  have i3 : inB we (-1) 1000000 = true := inB_iff.2 (by omega)
  have i4 : inB wk (-1) 1000000 = true := inB_iff.2 (by omega)
  by_cases hk0 : k = 0
  ·have hE : rateE (prevOf l k) ⟨cl, fr, tt, ho, dd, we, wk⟩ = 0 := by unfold rateE; rw [pv_zero hk0]; simp [h2, h3, h4, h5, i1, i2, i3, i4]
   refine mv_ rfl (wl_ov (ov_eql rfl rfl) rfl ?_)
   refine wl_set 67 (v' := .bool true) rfl (congrArg Value.bool (decide_eq_true (by omega))) ?_
   refine sg_ rfl (nn_ (ct_ rfl ?_))
   refine gw_exit ?_
   refine nx_blk_on rfl ?_
   refine nx_then_exit ?_
   refine nx_blk_here ?_
   refine nx_then (gw_region (ad_ rfl rfl (mv_ rfl (wl_nil ?_))))
   exact nx_round (k + 1) ⟨by omega, by rw [hinv.2, hat, if_pos hE]⟩ (by omega) ⟨rfl, rfl, rfl, (some_int (by omega)), trivial⟩ (fun _ hm => hm.pick [] [] [0] rfl rfl)
  obtain ⟨y, hy⟩ : ∃ x, l[k - 1]? = some x := ⟨_, List.getElem?_eq_getElem (by omega)⟩
  obtain ⟨p0, p1, p2, p3, p4, p5, p6⟩ := y
  have hpv := pv_pos hk0 hy
  refine mv_ rfl (wl_ov (ov_eql rfl rfl) rfl ?_)
  refine wl_set 67 (v' := .bool false) rfl (congrArg Value.bool (decide_eq_false (by omega))) ?_
  refine sg_ rfl (nn_ (cf_ rfl (gw_skip (nx_blk_nrm (nx_then (sr_ (mv_ rfl (mv_ rfl ?_))))))))
  refine wl_ov (ov_sub rfl rfl (by omega) (by omega)) rfl ?_
  refine wl_set 70 (v' := .int .i64 ((k - 1 : Nat) : Int)) rfl (congrArg (Value.int .i64) (by omega)) ?_
  refine wl_ov (ov_index (j := k - 1) es71 rfl rfl (by omega)) rfl ?_
  refine wl_ov (ov_elem (vs := [.string p0, .int .i64 p1, .int .i64 p2, .int .i64 p3, .int .i64 p4, .int .i64 p5, .int .i64 p6]) rz288 rfl (fun _ hm => (hm.fact 0 rfl).1) hy rfl rfl) rfl ?_
  refine wl_alloc zc288 rfl fun g2 => ?_
  refine wl_stores (cs' := [.string p0, .int .i64 p1, .int .i64 p2, .int .i64 p3, .int .i64 p4, .int .i64 p5, .int .i64 p6]) 0 rz288 rfl rfl rfl rfl rfl rfl rfl rfl ?_
  refine nn_ (gw_block (sr_ (fd_ fo288_0 rfl rfl (lk_ sc9 1 rfl rfl rfl (fd_ fo288_0 rfl rfl (lk_ sc9 0 rfl rfl rfl ?_))))))
  refine wl_ov (ov_slss rfl rfl) rfl ?_
  refine mv_ rfl ?_
  rcases Bool.eq_false_or_eq_true (Op.bytesLess cl.toList p0.toList) with h8 | h8
  ·refine wl_set 79 rfl (congrArg Value.bool h8) ?_
   have h9 : rtLt ⟨p0, p1, p2, p3, p4, p5, p6⟩ ⟨cl, fr, tt, ho, dd, we, wk⟩ = false := by have h := lt_rt ⟨p0, p1, p2, p3, p4, p5, p6⟩ ⟨cl, fr, tt, ho, dd, we, wk⟩; simp only at h; rw [h8] at h; simpa using h.symm
   refine goff rfl rfl rfl (goff rfl rfl rfl (goff rfl rfl rfl (goff rfl rfl rfl (goff rfl rfl rfl (goff rfl rfl rfl (gnd rfl rfl rfl (gnd rfl rfl rfl (gnd rfl rfl rfl (gnd rfl rfl rfl (gnd rfl rfl rfl (goff rfl rfl rfl (pt_ rfl rfl (sg_ rfl ?_)))))))))))))
   refine nn_ (ct_ rfl (sr_ (sg_ rfl (nn_ ?_))))
   refine gw_ret ?_
   refine nx_blk_ret (nx_blk_ret (nx_then_ret (nx_then_ret (nx_blk_ret (nx_then_ret ?_)))))
   have hE : rateE (prevOf l k) ⟨cl, fr, tt, ho, dd, we, wk⟩ = 7 := by unfold rateE; rw [hpv]; simp [h2, h3, h4, h5, i1, i2, i3, i4, h9]
   refine nx_ret1 rfl rfl fun wx hm => ?_
   exact ⟨ret_int (by rw [hinv.2, hat, if_neg (by rw [hE]; decide), hE]), hm.g⟩
  refine wl_set 79 rfl (congrArg Value.bool h8) ?_
  refine wl_guard_on rfl rfl rfl (fd_ fo288_0 rfl rfl (wl_guard_on rfl rfl rfl (lk_ sc9 1 rfl rfl rfl (wl_guard_on rfl rfl rfl (fd_ fo288_0 rfl rfl (wl_guard_on rfl rfl rfl (lk_ sc9 0 rfl rfl rfl (wl_guard_on rfl rfl rfl (wl_ov (ov_seql rfl rfl) rfl (wl_guard_on rfl rfl rfl (mv_ rfl ?_)))))))))))
  rcases Bool.eq_false_or_eq_true (cl.toList == p0.toList) with h10 | h10
  ·refine wl_set 85 rfl (congrArg Value.bool h10) ?_
   refine wl_guard_on rfl rfl rfl (fd_ fo288_1 rfl rfl (wl_guard_on rfl rfl rfl (lk_ sc3 1 rfl rfl rfl (wl_guard_on rfl rfl rfl (fd_ fo288_1 rfl rfl (wl_guard_on rfl rfl rfl (lk_ sc3 0 rfl rfl rfl (wl_guard_on rfl rfl rfl (wl_ov (ov_leq rfl rfl) rfl (wl_guard_on rfl rfl rfl (pt_ rfl rfl (pf_ rfl rfl (sg_ rfl ?_)))))))))))))
   refine nn_ ?_
   refine gw_cond rfl (fun hh => ?_) (fun hh => ?_)
   ·have h11 : fr ≤ p1 := by simpa using hh
    clear hh
    refine sr_ ?_
    have h9 : rtLt ⟨p0, p1, p2, p3, p4, p5, p6⟩ ⟨cl, fr, tt, ho, dd, we, wk⟩ = false := by have h := lt_rt ⟨p0, p1, p2, p3, p4, p5, p6⟩ ⟨cl, fr, tt, ho, dd, we, wk⟩; simp only at h; rw [h8, h10, decide_eq_true h11] at h; simpa using h.symm
    refine sg_ rfl (nn_ ?_)
    refine gw_ret ?_
    refine nx_blk_ret (nx_blk_ret (nx_then_ret (nx_then_ret (nx_blk_ret (nx_then_ret ?_)))))
    have hE : rateE (prevOf l k) ⟨cl, fr, tt, ho, dd, we, wk⟩ = 7 := by unfold rateE; rw [hpv]; simp [h2, h3, h4, h5, i1, i2, i3, i4, h9]
    refine nx_ret1 rfl rfl fun wx hm => ?_
    exact ⟨ret_int (by rw [hinv.2, hat, if_neg (by rw [hE]; decide), hE]), hm.g⟩
   have h11 : ¬ (fr ≤ p1) := by simpa using hh
   clear hh
   refine sr_ ?_
   have h9 : rtLt ⟨p0, p1, p2, p3, p4, p5, p6⟩ ⟨cl, fr, tt, ho, dd, we, wk⟩ = true := by have h := lt_rt ⟨p0, p1, p2, p3, p4, p5, p6⟩ ⟨cl, fr, tt, ho, dd, we, wk⟩; simp only at h; rw [h8, h10, decide_eq_false h11] at h; simpa using h.symm
   refine fd_ fo288_0 rfl rfl (lk_ sc9 1 rfl rfl rfl (fd_ fo288_0 rfl rfl (lk_ sc9 0 rfl rfl rfl (wl_ov (ov_seql rfl rfl) rfl (mv_ rfl ?_)))))
   rcases Bool.eq_false_or_eq_true (cl.toList == p0.toList) with h12 | h12
   ·refine wl_set 99 rfl (congrArg Value.bool h12) ?_
    have h13 : eqS p0 cl = true := (by have h := h12; unfold eqS; simp only [beq_iff_eq] at h ⊢; exact h.symm)
    refine wl_guard_on rfl rfl rfl (fd_ fo288_2 rfl rfl (wl_guard_on rfl rfl rfl (lk_ sc3 0 rfl rfl rfl (wl_guard_on rfl rfl rfl (fd_ fo288_1 rfl rfl (wl_guard_on rfl rfl rfl (lk_ sc3 1 rfl rfl rfl (wl_guard_on rfl rfl rfl ?_))))))))
    refine wl_ov (ov_gtr rfl rfl) rfl ?_
    refine pt_ rfl rfl (sg_ rfl (nn_ ?_))
    refine gw_cond rfl (fun hh => ?_) (fun hh => ?_)
    ·have h14 : fr < p2 := by simpa using hh
     clear hh
     refine sr_ (sg_ rfl (nn_ ?_))
     refine gw_ret ?_
     refine nx_blk_ret (nx_blk_ret (nx_then_ret (nx_then_ret (nx_blk_ret (nx_then_ret ?_)))))
     have hE : rateE (prevOf l k) ⟨cl, fr, tt, ho, dd, we, wk⟩ = 13 := by unfold rateE; rw [hpv]; simp [h2, h3, h4, h5, i1, i2, i3, i4, h9, h13, h14]
     refine nx_ret1 rfl rfl fun wx hm => ?_
     exact ⟨ret_int (by rw [hinv.2, hat, if_neg (by rw [hE]; decide), hE]), hm.g⟩
    have h14 : ¬ (fr < p2) := by simpa using hh
    clear hh
    refine gw_skip (nx_blk_nrm (nx_blk_nrm (nx_then (gw_region ?_))))
    have hE : rateE (prevOf l k) ⟨cl, fr, tt, ho, dd, we, wk⟩ = 0 := by unfold rateE; rw [hpv]; simp [h2, h3, h4, h5, i1, i2, i3, i4, h9, h13, h14]
    refine ad_ rfl rfl (mv_ rfl (wl_nil ?_))
    exact nx_round (k + 1) ⟨by omega, by rw [hinv.2, hat, if_pos hE]⟩ (by omega) ⟨rfl, rfl, rfl, (some_int (by omega)), trivial⟩ (fun _ hm => hm.pick [] [] [0] rfl rfl)
   refine wl_set 99 rfl (congrArg Value.bool h12) ?_
   have h13 : eqS p0 cl = false := (by have h := h12; unfold eqS; simp only [beq_eq_false_iff_ne, ne_eq] at h ⊢; exact fun e => h e.symm)
   have hE : rateE (prevOf l k) ⟨cl, fr, tt, ho, dd, we, wk⟩ = 0 := by unfold rateE; rw [hpv]; simp [h2, h3, h4, h5, i1, i2, i3, i4, h9, h13]
   refine goff rfl rfl rfl (goff rfl rfl rfl (goff rfl rfl rfl (goff rfl rfl rfl (goff rfl rfl rfl (pf_ rfl rfl (sg_ rfl (nn_ (cf_ rfl (gw_skip (nx_blk_nrm (nx_blk_nrm (nx_then ?_))))))))))))
   refine gw_region (ad_ rfl rfl (mv_ rfl (wl_nil ?_)))
   exact nx_round (k + 1) ⟨by omega, by rw [hinv.2, hat, if_pos hE]⟩ (by omega) ⟨rfl, rfl, rfl, (some_int (by omega)), trivial⟩ (fun _ hm => hm.pick [] [] [0] rfl rfl)
  refine wl_set 85 rfl (congrArg Value.bool h10) ?_
  have h9 : rtLt ⟨p0, p1, p2, p3, p4, p5, p6⟩ ⟨cl, fr, tt, ho, dd, we, wk⟩ = true := by have h := lt_rt ⟨p0, p1, p2, p3, p4, p5, p6⟩ ⟨cl, fr, tt, ho, dd, we, wk⟩; simp only at h; rw [h8, h10] at h; simpa using h.symm
  refine goff rfl rfl rfl (goff rfl rfl rfl (goff rfl rfl rfl (goff rfl rfl rfl (goff rfl rfl rfl (wl_guard_on rfl rfl rfl (pf_ rfl rfl (pf_ rfl rfl (sg_ rfl (nn_ (cf_ rfl (sr_ ?_)))))))))))
  refine fd_ fo288_0 rfl rfl (lk_ sc9 1 rfl rfl rfl (fd_ fo288_0 rfl rfl (lk_ sc9 0 rfl rfl rfl (wl_ov (ov_seql rfl rfl) rfl (mv_ rfl ?_)))))
  rcases Bool.eq_false_or_eq_true (cl.toList == p0.toList) with h12 | h12
  ·refine wl_set 99 rfl (congrArg Value.bool h12) ?_
   have h13 : eqS p0 cl = true := (by have h := h12; unfold eqS; simp only [beq_iff_eq] at h ⊢; exact h.symm)
   refine wl_guard_on rfl rfl rfl (fd_ fo288_2 rfl rfl (wl_guard_on rfl rfl rfl (lk_ sc3 0 rfl rfl rfl (wl_guard_on rfl rfl rfl (fd_ fo288_1 rfl rfl (wl_guard_on rfl rfl rfl (lk_ sc3 1 rfl rfl rfl (wl_guard_on rfl rfl rfl ?_))))))))
   refine wl_ov (ov_gtr rfl rfl) rfl ?_
   refine pt_ rfl rfl (sg_ rfl (nn_ ?_))
   refine gw_cond rfl (fun hh => ?_) (fun hh => ?_)
   ·have h14 : fr < p2 := by simpa using hh
    clear hh
    refine sr_ (sg_ rfl (nn_ ?_))
    refine gw_ret ?_
    refine nx_blk_ret (nx_blk_ret (nx_then_ret (nx_then_ret (nx_blk_ret (nx_then_ret ?_)))))
    have hE : rateE (prevOf l k) ⟨cl, fr, tt, ho, dd, we, wk⟩ = 13 := by unfold rateE; rw [hpv]; simp [h2, h3, h4, h5, i1, i2, i3, i4, h9, h13, h14]
    refine nx_ret1 rfl rfl fun wx hm => ?_
    exact ⟨ret_int (by rw [hinv.2, hat, if_neg (by rw [hE]; decide), hE]), hm.g⟩
   have h14 : ¬ (fr < p2) := by simpa using hh
   clear hh
   refine gw_skip (nx_blk_nrm (nx_blk_nrm (nx_then (gw_region ?_))))
   have hE : rateE (prevOf l k) ⟨cl, fr, tt, ho, dd, we, wk⟩ = 0 := by unfold rateE; rw [hpv]; simp [h2, h3, h4, h5, i1, i2, i3, i4, h9, h13, h14]
   refine ad_ rfl rfl (mv_ rfl (wl_nil ?_))
   exact nx_round (k + 1) ⟨by omega, by rw [hinv.2, hat, if_pos hE]⟩ (by omega) ⟨rfl, rfl, rfl, (some_int (by omega)), trivial⟩ (fun _ hm => hm.pick [] [] [0] rfl rfl)
  refine wl_set 99 rfl (congrArg Value.bool h12) ?_
  have h13 : eqS p0 cl = false := (by have h := h12; unfold eqS; simp only [beq_eq_false_iff_ne, ne_eq] at h ⊢; exact fun e => h e.symm)
  have hE : rateE (prevOf l k) ⟨cl, fr, tt, ho, dd, we, wk⟩ = 0 := by unfold rateE; rw [hpv]; simp [h2, h3, h4, h5, i1, i2, i3, i4, h9, h13]
  refine goff rfl rfl rfl (goff rfl rfl rfl (goff rfl rfl rfl (goff rfl rfl rfl (goff rfl rfl rfl (pf_ rfl rfl (sg_ rfl (nn_ (cf_ rfl (gw_skip (nx_blk_nrm (nx_blk_nrm (nx_then ?_))))))))))))
  refine gw_region (ad_ rfl rfl (mv_ rfl (wl_nil ?_)))
  exact nx_round (k + 1) ⟨by omega, by rw [hinv.2, hat, if_pos hE]⟩ (by omega) ⟨rfl, rfl, rfl, (some_int (by omega)), trivial⟩ (fun _ hm => hm.pick [] [] [0] rfl rfl)
 have hk : ¬ (((k : Nat) : Int) < ((n : Nat) : Int)) := by simpa using hh
 clear hh
 refine gw_exit ?_
 refine nx_then_exit (nx_then_exit ?_)
 refine nx_blk_here ?_
 refine nx_then (sr_ (sg_ rfl (nn_ ?_)))
 refine gw_ret ?_
 refine nx_ret1 rfl rfl fun wx hm => ?_
 exact ⟨ret_int (by rw [hinv.2, scanE_end _ _ _ _ (by omega)]), hm.g⟩
end Go.Proofs.YtdoooppeiphefaaGreatDoor
namespace Go.Proofs.YtdoooppeiphefaaGreatDoor
open Go.RowKit
theorem fe_all : ∀ {l : List Int}, firstE l = 0 → ∀ e ∈ l, e = 0
  | [], _, _, h => by cases h
  | x :: r, h, e, he => by
    simp only [firstE] at h
    by_cases hx : x = 0
    · rw [if_pos hx] at h
      rcases List.mem_cons.1 he with rfl | he
      · exact hx
      · exact fe_all h e he
    · rw [if_neg hx] at h; exact absurd h hx
theorem we_ok {b : Bool} {e : Int} (he : e ≠ 0) (h : whenE b e = 0) : b = false := by
  cases b
  · rfl
  · exact absurd h he
end Go.Proofs.YtdoooppeiphefaaGreatDoor
namespace Go.Proofs.YtdoooppeiphefaaGreatDoor
open Go.RowKit
def RtPos (r : Rt) : Prop := 0 ≤ r.to_ ∧ r.to_ ≤ 4001
theorem rt_pos {l : List Rt} (h : ratesE l = 0) : ∀ r ∈ l, RtPos r := fun r hr => by
  have h1 := ((ratesE_ok h).2.2 r hr).2.1
  exact ⟨by omega, h1.2.2⟩
theorem rateP_yes {c : ByteArray} {d : Int} {r : Rt} (h : (r.cls.toList == c.toList) = true) : inB d r.fr (r.to_ - 1) = rateP c d r := by unfold rateP; rw [h]; rfl
theorem rateP_no {c : ByteArray} {d : Int} {r : Rt} (h : (r.cls.toList == c.toList) = false) : false = rateP c d r := by unfold rateP; rw [h]; rfl
theorem ratePred (cl : ByteArray) (fr tt ho dd we wk : Int) (gc gd : Nat) (c : ByteArray) (d : Int) (w : World) (hc : Blk w gc 9 [.string c]) (hd : Blk w gd 3 [.int .i64 d]) (h0 : 0 ≤ tt) (h1 : tt ≤ 4001) :
  Calls Tryz.prog 282 #[.agg #[.string cl, .int .i64 fr, .int .i64 tt, .int .i64 ho, .int .i64 dd, .int .i64 we, .int .i64 wk], .pointer (some ⟨gc, 0, none⟩), .pointer (some ⟨gd, 0, none⟩)] w (fun e w' => e = .returned (.bool (rateP c d ⟨cl, fr, tt, ho, dd, we, wk⟩)) ∧ w.grownBy w' none) := by
 refine gw_enter ⟨18, w, none, []⟩ Tryz.func282 rfl Tryz.ntmps282 rfl (mem0 (X := [BlkOld w.heap.size none gc 9 [.string c], BlkOld w.heap.size none gd 3 [.int .i64 d]]) (allF_cons hc.old (allF_cons hd.old allF_nil)) (allL_cons BlkOld.lasts (allL_cons BlkOld.lasts allL_nil))) ?_
 refine sr_ ?_
 refine wl_box rfl rfl rfl fun g1 => ?_
 refine sg_ rfl (nn_ (sr_ (fd_ fo288_0 rfl rfl (lk_ sc9 0 rfl rfl rfl ?_))))
 refine wl_ov (ov_load (v := .string c) sc9 rfl (fun _ hm => (hm.fact 0 rfl).2) rfl) rfl ?_
 refine wl_ov (ov_seql rfl rfl) rfl (mv_ rfl ?_)
 rcases Bool.eq_false_or_eq_true (cl.toList == c.toList) with h | h
 ·refine wl_set 9 rfl (congrArg Value.bool h) ?_
  refine wl_guard_on rfl rfl rfl ?_
  refine wl_ov (ov_load (v := .int .i64 d) sc3 rfl (fun _ hm => (hm.fact 1 rfl).2) rfl) rfl ?_
  refine wl_guard_on rfl rfl rfl (fd_ fo288_1 rfl rfl (wl_guard_on rfl rfl rfl (lk_ sc3 0 rfl rfl rfl (wl_guard_on rfl rfl rfl (fd_ fo288_2 rfl rfl (wl_guard_on rfl rfl rfl (lk_ sc3 0 rfl rfl rfl (wl_guard_on rfl rfl rfl ?_))))))))
  refine wl_ov (ov_sub rfl rfl (by omega) (by omega)) rfl ?_
  refine wl_guard_on rfl rfl rfl ?_
  refine wl_callw rfl cb169 rfl rfl (fun wx hm => (in_any _ _ _ wx)) ?_
  refine pt_ rfl rfl (sg_ rfl (nn_ ?_))
  refine gw_ret ?_
  refine nx_ret1 rfl rfl fun wx hm => ?_
  exact ⟨by rw [← rateP_yes (r := ⟨cl, fr, tt, ho, dd, we, wk⟩) h], hm.g⟩
 refine wl_set 9 rfl (congrArg Value.bool h) ?_
 refine goff rfl rfl rfl (goff rfl rfl rfl (goff rfl rfl rfl (goff rfl rfl rfl (goff rfl rfl rfl (goff rfl rfl rfl (goff rfl rfl rfl (pf_ rfl rfl (sg_ rfl (nn_ ?_)))))))))
 refine gw_ret ?_
 refine nx_ret1 rfl rfl fun wx hm => ?_
 exact ⟨by rw [← rateP_no (r := ⟨cl, fr, tt, ho, dd, we, wk⟩) h], hm.g⟩
theorem index_rate (l : List Rt) (A : Option Addr) (n c0 : Nat) (gc gd : Nat) (c : ByteArray) (d : Int) (w : World) (hl : SlT rtEnc 7 288 w A n l) (hn : n ≤ 1000000) (hpos : ∀ r ∈ l, RtPos r) (hc : Blk w gc 9 [.string c]) (hd : Blk w gd 3 [.int .i64 d]) :
  Calls Tryz.prog 281 #[.slice A n c0, .func (.func 282) #[] #[.pointer (some ⟨gc, 0, none⟩), .pointer (some ⟨gd, 0, none⟩)]] w (GotE w (ixP (rateP c d) l 0)) := by
 refine gw_enter ⟨19, w, none, []⟩ Tryz.func281 rfl Tryz.ntmps281 rfl (mem0 (X := [SlOld rtEnc 7 288 w.heap.size none A n l, BlkOld w.heap.size none gc 9 [.string c], BlkOld w.heap.size none gd 3 [.int .i64 d]]) (allF_cons hl.old (allF_cons hc.old (allF_cons hd.old allF_nil))) (allL_cons SlOld.lasts (allL_cons BlkOld.lasts (allL_cons BlkOld.lasts allL_nil)))) ?_
 refine sr_ ?_
 have hlen := hl.len
 refine sg_ rfl (nn_ (gw_seq (sr_ (mv_ rfl (wl_ov (ov_len es71 rfl) rfl (mv_ rfl (nn_ (gw_block ?_))))))))
 refine gw_loop (γ := Nat) (fun (k : Nat) => k ≤ n ∧ ixP (rateP c d) l 0 = ixP (rateP c d) (l.drop k) k) (fun (k : Nat) => [(0, .slice A n c0), (1, .func (.func 282) #[] #[.pointer (some ⟨gc, 0, none⟩), .pointer (some ⟨gd, 0, none⟩)]), (7, .int .i64 ((n : Nat) : Int)), (8, .int .i64 ((k : Nat) : Int))]) (fun (k : Nat) => fun _ => True) (fun (k : Nat) => []) (fun (k : Nat) => []) (fun (k : Nat) => [SlOld rtEnc 7 288 w.heap.size none A n l, BlkOld w.heap.size none gc 9 [.string c], BlkOld w.heap.size none gd 3 [.int .i64 d]]) (fun (k : Nat) => n - k) 0 ⟨Nat.zero_le _, rfl⟩ ⟨rfl, rfl, rfl, rfl, trivial⟩ (fun _ hm => hm.pick [] [] [0, 1, 2] rfl rfl) ?_
 intro k hinv
 replace hinv : k ≤ n ∧ ixP (rateP c d) l 0 = ixP (rateP c d) (l.drop k) k := hinv
 refine sr_ (wl_ov (ov_lss rfl rfl) rfl (nn_ (gw_seq ?_)))
 refine gw_cond rfl (fun hh => ?_) (fun hh => ?_)
 ·have hk : ((k : Nat) : Int) < ((n : Nat) : Int) := by simpa using hh
  clear hh
  refine gw_skip (nx_then (gw_seq (gw_block (sr_ ?_))))
  obtain ⟨b, off, hA, _, _⟩ := hl.get (by omega)
  subst hA
  obtain ⟨x, hx⟩ : ∃ x, l[k]? = some x := ⟨_, List.getElem?_eq_getElem (by omega)⟩
  obtain ⟨cl, fr, tt, ho, dd, we, wk⟩ := x
  have hat := ixP_at (p := rateP c d) hx
  obtain ⟨hp0, hp1⟩ := hpos _ (List.mem_of_getElem? hx)
  refine mv_ rfl (sg_ rfl (nn_ (sr_ (mv_ rfl (mv_ rfl (mv_ rfl ?_))))))
  refine wl_ov (ov_index (j := k) es71 rfl rfl (by omega)) rfl ?_
  refine wl_ov (ov_elem (vs := [.string cl, .int .i64 fr, .int .i64 tt, .int .i64 ho, .int .i64 dd, .int .i64 we, .int .i64 wk]) rz288 rfl (fun _ hm => (hm.fact 0 rfl).1) hx rfl rfl) rfl ?_
  refine wl_callv rfl cb282 rfl rfl (fun wx hm => (ratePred cl fr tt ho dd we wk gc gd c d wx (hm.fact 1 rfl).2 (hm.fact 2 rfl).2 hp0 hp1)) ?_
  refine nn_ ?_
  refine gw_cond rfl (fun hh => ?_) (fun hh => ?_)
  ·have hq : (rateP c d ⟨cl, fr, tt, ho, dd, we, wk⟩) = true := by simpa using hh
   clear hh
   refine sr_ (mv_ rfl (sg_ rfl (nn_ ?_)))
   refine gw_ret ?_
   refine nx_blk_ret (nx_then_ret (nx_then_ret (nx_blk_ret (nx_then_ret ?_))))
   refine nx_ret1 rfl rfl fun wx hm => ?_
   exact ⟨ret_int (by rw [hinv.2, hat, if_pos hq]), hm.g⟩
  have hq : (rateP c d ⟨cl, fr, tt, ho, dd, we, wk⟩) = false := by simpa using hh
  clear hh
  refine gw_skip (nx_blk_nrm (nx_then (gw_region (ad_ rfl rfl (mv_ rfl (wl_nil ?_))))))
  exact nx_round (k + 1) ⟨by omega, by rw [hinv.2, hat, if_neg (by rw [hq]; decide)]⟩ (by omega) ⟨rfl, rfl, rfl, (some_int (by omega)), trivial⟩ (fun _ hm => hm.pick [] [] [0, 1, 2] rfl rfl)
 have hk : ¬ (((k : Nat) : Int) < ((n : Nat) : Int)) := by simpa using hh
 clear hh
 refine gw_exit ?_
 refine nx_then_exit (nx_then_exit ?_)
 refine nx_blk_here ?_
 refine nx_then (sr_ (sg_ rfl ?_))
 refine wl_set 4 (v' := .int .i64 (-1)) rfl rfl ?_
 refine nn_ ?_
 refine gw_ret ?_
 refine nx_ret1 rfl rfl fun wx hm => ?_
 exact ⟨ret_int (by rw [hinv.2, List.drop_eq_nil_of_le (by omega)]; rfl), hm.g⟩
theorem rateOn_any (l : List Rt) (A : Option Addr) (n c0 : Nat) (c : ByteArray) (d : Int) (w : World) (hl : SlT rtEnc 7 288 w A n l) (hn : n ≤ 1000000) (hpos : ∀ r ∈ l, RtPos r) :
  Calls Tryz.prog 218 #[.slice A n c0, .string c, .int .i64 d] w (GotE w (ixP (rateP c d) l 0)) := by
 refine gw_enter ⟨10, w, none, []⟩ Tryz.func218 rfl Tryz.ntmps218 rfl (mem0 (X := [SlOld rtEnc 7 288 w.heap.size none A n l]) (allF_cons hl.old allF_nil) (allL_cons SlOld.lasts allL_nil)) ?_
 refine sr_ ?_
 refine wl_box rfl rfl rfl fun g1 => ?_
 refine wl_box rfl rfl rfl fun g2 => ?_
 refine sg_ rfl (nn_ (sr_ (mv_ rfl (wl_ov (ov_makeFunc rfl rfl) rfl ?_))))
 refine wl_callv rfl cb281 rfl rfl (fun wx hm => (index_rate l A n c0 _ _ c d wx (hm.fact 0 rfl).1 hn hpos (hm.blkI 1 rfl) (hm.blkI 0 rfl))) ?_
 refine sg_ rfl (nn_ ?_)
 refine gw_ret ?_
 refine nx_ret1 rfl rfl fun wx hm => ?_
 exact ⟨rfl, hm.g⟩
theorem timeE_okT {a b : Int} (h : timeE a b = 0) : 0 ≤ a ∧ a < b ∧ b ≤ 5761439 := by
  unfold timeE at h
  split at h
  · cases h
  · omega
theorem timeE_days {a b : Int} (h : timeE a b = 0) : 1 ≤ daysV a b ∧ daysV a b ≤ 120 := by
  obtain ⟨h0, h1, h2⟩ := timeE_okT h
  unfold timeE at h
  rw [if_neg (by omega)] at h
  have h3 : ¬ 120 < daysV a b := fun e => by rw [decide_eq_true e] at h; exact absurd h (by decide)
  unfold daysV at h3 ⊢; omega
theorem tdays_any (fr tt : Int) (w : World) :
  Calls Tryz.prog 91 #[.agg #[.int .i64 fr, .int .i64 tt]] w (fun e w' => e = .returned (.tuple #[.int .i64 (if timeE fr tt = 0 then daysV fr tt else 0), .int .i64 (timeE fr tt)]) ∧ w.grownBy w' none) := by
 refine gw_enter ⟨12, w, none, []⟩ Tryz.func91 rfl Tryz.ntmps91 rfl (mem0 (X := []) allF_nil allL_nil) ?_
 refine sr_ ?_
 refine wl_box rfl rfl rfl fun g1 => ?_
 refine sg_ rfl (sg_ rfl (nn_ (gw_seq (sr_ ?_))))
 refine wl_ov (ov_loads rz39 rfl (fun _ hm => hm.blkI 0 rfl) rfl rfl) rfl ?_
 refine wl_callv rfl cb114 rfl rfl (fun wx hm => (time_any _ _ wx)) ?_
 refine sg_ rfl (nn_ (sr_ (mv_ rfl (wl_ov (ov_neq rfl rfl) rfl (nn_ ?_)))))
 refine gw_cond rfl (fun hh => ?_) (fun hh => ?_)
 ·have h1 : ¬ (timeE fr tt = 0) := by simpa using hh
  clear hh
  refine sr_ (mv_ rfl (sg_ rfl (sg_ rfl (nn_ ?_))))
  refine gw_ret ?_
  refine nx_then_ret ?_
  refine nx_ret2 rfl rfl rfl fun wx hm => ?_
  exact ⟨by rw [if_neg h1], hm.g⟩
 have h1 : timeE fr tt = 0 := by simpa using hh
 clear hh
 refine gw_skip (nx_then (sr_ ?_))
 obtain ⟨h2, h3, h4⟩ := timeE_okT h1
 refine wl_ov (ov_loads rz39 rfl (fun _ hm => hm.blkI 0 rfl) rfl rfl) rfl ?_
 refine wl_callv rfl cb188 rfl rfl (fun wx hm => (days_any _ _ wx (by omega) (by omega) (by omega))) ?_
 refine sg_ rfl (sg_ rfl (nn_ ?_))
 refine gw_ret ?_
 refine nx_ret2 rfl rfl rfl fun wx hm => ?_
 exact ⟨by rw [if_pos h1, h1], hm.g⟩
end Go.Proofs.YtdoooppeiphefaaGreatDoor
namespace Go.Proofs.YtdoooppeiphefaaGreatDoor
open Go.RowKit
theorem prevOf_zero {α : Type} {l : List α} {k : Nat} (h : k = 0) : prevOf l k = none := by unfold prevOf; rw [if_pos h]
theorem prevOf_pos {α : Type} {l : List α} {k : Nat} {y : α} (h : ¬ k = 0) (hy : l[k - 1]? = some y) : prevOf l k = some y := by unfold prevOf; rw [if_neg h, hy]
theorem key_low {a : ByteArray} (h : keyB a = true) : leB a ⟨#[]⟩ = false := by
  obtain ⟨⟨l⟩⟩ := a
  cases l with
  | nil => cases h
  | cons c r => unfold leB; rw [ByteArray.toList_eq, ByteArray.toList_eq]; rfl
def sgEnc (x : ByteArray) : List Value := [.string x]
theorem sg_len (x : ByteArray) : (sgEnc x).length = 1 := rfl
end Go.Proofs.YtdoooppeiphefaaGreatDoor
namespace Go.Proofs.YtdoooppeiphefaaGreatDoor
open Go.RowKit
theorem isBelow_lt {n v : Int} (h : IsBelow n v) (hn : 1 ≤ n) : 0 ≤ v ∧ v < n := by unfold IsBelow at h; omega
set_option maxHeartbeats 400000 in
theorem range_any (lo hi : Int) (w : World) (B sb m : Nat) (hS : Strm 25 w B sb m) (hm : m ≤ 1000000000000) (h1 : -4611686018427387904 ≤ lo) (h2 : hi ≤ 4611686018427387902) (h3 : lo ≤ 4611686018427387902) (h4 : -4611686018427387904 ≤ hi) :
    Calls Tryz.prog 10 #[.pointer (some ⟨sb, 0, none⟩), .int .i64 lo, .int .i64 hi] w (GotInt 25 w B sb (m + 1) (fun v => lo ≤ v ∧ (v ≤ hi ∨ v = lo))) := by
  by_cases hlt : hi < lo
  · go_enter Tryz.func10, Tryz.ntmps10
    go_wp2_with fail
    go_ret
    exact ⟨lo, ⟨by omega, .inr rfl⟩, rfl, hS.more (by omega), World.grownBy.refl _ _⟩
  · go_enter Tryz.func10, Tryz.ntmps10
    go_wp2_with fail
    refine (next_any _ _ B sb m hS hm (by omega) (by omega)).mono ?_
    rintro e w1 ⟨v, hv, rfl, hS1, hg1⟩
    have hv := isBelow_lt hv (by omega)
    go_wp2_with fail
    go_ret
    exact ⟨lo + v, ⟨by omega, .inl (by omega)⟩, rfl, hS1, hg1⟩
set_option maxHeartbeats 400000 in
theorem flip_any (n : Int) (w : World) (B sb m : Nat) (hS : Strm 25 w B sb m) (hm : m ≤ 1000000000000) (hn1 : -9223372036854775808 ≤ n) (hn2 : n ≤ 9223372036854775807) :
    Calls Tryz.prog 64 #[.pointer (some ⟨sb, 0, none⟩), .int .i64 n] w (GotBool 25 w B sb (m + 1)) := by
  go_enter Tryz.func64, Tryz.ntmps64
  go_wp2_with fail
  refine (next_any _ _ B sb m hS hm hn1 hn2).mono ?_
  rintro e w1 ⟨v, hv, rfl, hS1, hg1⟩
  go_wp2_with fail
  go_ret
  exact ⟨_, rfl, hS1, hg1⟩
set_option maxHeartbeats 400000 in
theorem pick_any (xs : List Int) (g c : Nat) (T : TypeId) (w : World) (B sb m : Nat) (hS : Strm 25 w B sb m) (hm : m ≤ 1000000000000) (hx : 0 < xs.length) (hx2 : xs.length ≤ 1000000) (hg : Blk w g T (xs.map (Value.int .i64))) (hne : g ≠ sb) :
    Calls Tryz.prog 63 #[.pointer (some ⟨sb, 0, none⟩), .slice (some ⟨g, 0, none⟩) xs.length c] w (GotInt 25 w B sb (m + 1) (fun v => v ∈ xs)) := by
  obtain ⟨n, hn⟩ : ∃ n, n = xs.length := ⟨_, rfl⟩
  rw [← hn] at hx hx2 ⊢
  have Hn := Lib.hid hn; clear hn
  go_enter Tryz.func63, Tryz.ntmps63
  go_wp2_with fail
  refine (next_any _ _ B sb m hS hm (by omega) (by omega)).mono ?_
  rintro e w1 ⟨v, hv, rfl, hS1, hg1⟩
  have hv := isBelow_lt hv (by omega)
  obtain ⟨i, rfl⟩ := Int.eq_ofNat_of_zero_le hv.1
  have hi : i < n := by omega
  have hgb := hg.grown hg1 (by simpa using hne)
  obtain ⟨x, hx⟩ : ∃ x, xs[i]? = some x := ⟨_, List.getElem?_eq_getElem (by have := Hn.out; omega)⟩
  have hc : w1.cell? ⟨g, i, none⟩ = some (.int .i64 x) := hgb.cell_of (by simp [hx])
  have hmem : x ∈ xs := List.mem_of_getElem? hx
  clear hx hgb
  go_wp2_with fail
  go_ret
  exact ⟨x, hmem, rfl, hS1, hg1⟩
set_option maxHeartbeats 400000 in
theorem some_any (xs : List ByteArray) (g c : Nat) (T : TypeId) (w : World) (B sb m : Nat) (hS : Strm 25 w B sb m) (hm : m ≤ 1000000000000) (hx : 0 < xs.length) (hx2 : xs.length ≤ 1000000) (hg : Blk w g T (xs.map Value.string)) (hne : g ≠ sb) :
    Calls Tryz.prog 62 #[.pointer (some ⟨sb, 0, none⟩), .slice (some ⟨g, 0, none⟩) xs.length c] w (GotStr 25 w B sb (m + 1) (fun v => v ∈ xs)) := by
  obtain ⟨n, hn⟩ : ∃ n, n = xs.length := ⟨_, rfl⟩
  rw [← hn] at hx hx2 ⊢
  have Hn := Lib.hid hn; clear hn
  go_enter Tryz.func62, Tryz.ntmps62
  go_wp2_with fail
  refine (next_any _ _ B sb m hS hm (by omega) (by omega)).mono ?_
  rintro e w1 ⟨v, hv, rfl, hS1, hg1⟩
  have hv := isBelow_lt hv (by omega)
  obtain ⟨i, rfl⟩ := Int.eq_ofNat_of_zero_le hv.1
  have hi : i < n := by omega
  have hgb := hg.grown hg1 (by simpa using hne)
  obtain ⟨x, hx⟩ : ∃ x, xs[i]? = some x := ⟨_, List.getElem?_eq_getElem (by have := Hn.out; omega)⟩
  have hc : w1.cell? ⟨g, i, none⟩ = some (.string x) := hgb.cell_of (by simp [hx])
  have hmem : x ∈ xs := List.mem_of_getElem? hx
  clear hx hgb
  go_wp2_with fail
  go_ret
  exact ⟨x, hmem, rfl, hS1, hg1⟩
set_option maxHeartbeats 400000 in
theorem odd_any (lo hi : Int) (w : World) (B sb m : Nat) (hS : Strm 25 w B sb m) (hm : m ≤ 900000000000) (h1 : -1000000000000000 ≤ lo) (h2 : hi ≤ 1000000000000000) (h3 : lo ≤ hi) :
    Calls Tryz.prog 65 #[.pointer (some ⟨sb, 0, none⟩), .int .i64 lo, .int .i64 hi] w (GotInt 25 w B sb (m + 2) (fun v => -2000000000000000 ≤ v ∧ v ≤ 2000000000000000)) := by
  go_enter Tryz.func65, Tryz.ntmps65
  go_wp2_with fail
  refine (flip_any _ _ B sb m hS (by omega) (by omega) (by omega)).mono ?_
  rintro e w1 ⟨b, rfl, hS1, hg1⟩
  rcases b with _ | _
  · go_wp2_with fail
    refine (range_any _ _ _ B sb (m + 1) hS1 (by omega) (by omega) (by omega) (by omega) (by omega)).mono ?_
    rintro e w2 ⟨v, hv, rfl, hS2, hg2⟩
    go_wp2_with fail
    go_ret
    exact ⟨v, by omega, rfl, hS2, grow_trans hg1 hg2⟩
  · go_wp2_with fail
    refine (pick_any [lo - 1, hi + 1, lo, hi, -1099511627776, 1099511627776] _ _ _ _ B sb (m + 1) (hS1.alloc _) (by omega) (by simp) (by simp) (Blk.new _ _ _) (by have := hS1.lt; omega)).mono ?_
    rintro e w2 ⟨v, hv, rfl, hS2, hg2⟩
    go_wp2_with fail
    go_ret
    refine ⟨v, by simp at hv; omega, rfl, hS2, grow_trans hg1 (grow_trans (grow_alloc (World.grownBy.refl _ _) _) hg2)⟩
end Go.Proofs.YtdoooppeiphefaaGreatDoor
namespace Go.Proofs.YtdoooppeiphefaaGreatDoor
open Go.RowKit
def cdEnc (x : Cd) : List Value := [.string x.key, .string x.cls, .int .i64 x.fr, .int .i64 x.to_, .int .i64 x.days, .int .i64 x.mille]
theorem cd_len (x : Cd) : (cdEnc x).length = 6 := rfl
theorem prevCd_le {l : List Cd} {k : Nat} {b : Cd} (h : keyB b.key = true) : leB b.key (prevCd l k) = leCd (prevOf l k) b := by
  unfold prevCd leCd
  cases prevOf l k with
  | none => exact key_low h
  | some q => rfl
theorem checkCodes_any (l : List Cd) (A : Option Addr) (n c : Nat) (w : World) (hl : SlT cdEnc 6 354 w A n l) (hok : ∀ b ∈ l, CdOk b) (hn : n ≤ 1000000) :
  Calls Tryz.prog 207 #[.slice A n c] w (GotE w (codesE l)) := by
 refine gw_enter ⟨68, w, none, []⟩ Tryz.func207 rfl Tryz.ntmps207 rfl (mem0 (X := [SlOld cdEnc 6 354 w.heap.size none A n l]) (allF_cons hl.old allF_nil) (allL_cons SlOld.lasts allL_nil)) ?_
 refine sr_ ?_
 have hlen := hl.len
 refine sg_ rfl (nn_ (gw_seq (sr_ (mv_ rfl (wl_ov (ov_len es74 rfl) rfl ?_)))))
 refine wl_ov (ov_gtr rfl rfl) rfl ?_
 refine nn_ ?_
 refine gw_cond rfl (fun hh => ?_) (fun hh => ?_)
 ·have h1 : 50 < ((n : Nat) : Int) := by simpa using hh
  clear hh
  refine sr_ (sg_ rfl (nn_ ?_))
  refine gw_ret ?_
  refine nx_then_ret ?_
  refine nx_ret1 rfl rfl fun wx hm => ?_
  exact ⟨ret_int (by unfold codesE; rw [if_pos (by omega)]), hm.g⟩
 have h1 : ¬ (50 < ((n : Nat) : Int)) := by simpa using hh
 clear hh
 refine gw_skip (nx_then (gw_seq (sr_ (mv_ rfl (wl_ov (ov_len es74 rfl) rfl (mv_ rfl (nn_ (gw_block ?_))))))))
 refine gw_loop (γ := Nat) (fun (k : Nat) => k ≤ n ∧ codesE l = scanE codeE (prevOf l k) (l.drop k)) (fun (k : Nat) => [(0, .slice A n c), (8, .slice A n c), (9, .int .i64 ((n : Nat) : Int)), (10, .int .i64 ((k : Nat) : Int))]) (fun (k : Nat) => fun _ => True) (fun (k : Nat) => []) (fun (k : Nat) => []) (fun (k : Nat) => [SlOld cdEnc 6 354 w.heap.size none A n l]) (fun (k : Nat) => n - k) 0 ⟨Nat.zero_le _, by unfold codesE; rw [if_neg (by omega)]; rfl⟩ ⟨rfl, rfl, rfl, rfl, trivial⟩ (fun _ hm => hm.pick [] [] [0] rfl rfl) ?_
 intro k hinv
 replace hinv : k ≤ n ∧ codesE l = scanE codeE (prevOf l k) (l.drop k) := hinv
 refine sr_ (wl_ov (ov_lss rfl rfl) rfl (nn_ (gw_seq ?_)))
 refine gw_cond rfl (fun hh => ?_) (fun hh => ?_)
 ·have hk : ((k : Nat) : Int) < ((n : Nat) : Int) := by simpa using hh
  clear hh
  refine gw_skip (nx_then (gw_seq (gw_block (sr_ ?_))))
  obtain ⟨b, off, hA, _, _⟩ := hl.get (by omega)
  subst hA
  obtain ⟨x, hx⟩ : ∃ x, l[k]? = some x := ⟨_, List.getElem?_eq_getElem (by omega)⟩
  obtain ⟨ke, cl, fr, tt, dy, mi⟩ := x
  have hat := scanE_at codeE l k _ hx
  have hk1 : ke.size ≤ 1000000 := (hok _ (List.mem_of_getElem? hx)).1
  have hk2 : cl.size ≤ 1000000 := (hok _ (List.mem_of_getElem? hx)).2
  refine mv_ rfl ?_
  refine wl_ov (ov_index (j := k) es74 rfl rfl (by omega)) rfl ?_
  refine wl_ov (ov_elem (vs := [.string ke, .string cl, .int .i64 fr, .int .i64 tt, .int .i64 dy, .int .i64 mi]) rz354 rfl (fun _ hm => (hm.fact 0 rfl).1) hx rfl rfl) rfl ?_
  refine wl_alloc zc354 rfl fun g1 => ?_
  refine sg_ rfl ?_
  refine wl_stores (cs' := [.string ke, .string cl, .int .i64 fr, .int .i64 tt, .int .i64 dy, .int .i64 mi]) 0 rz354 rfl rfl rfl rfl rfl rfl rfl rfl ?_
  refine nn_ (gw_block (sr_ (fd_ fo354_0 rfl rfl (lk_ sc9 0 rfl rfl rfl ?_))))
  refine wl_callw rfl cb112 rfl rfl (fun wx hm => (isKey_any _ wx (by omega))) ?_
  refine wl_ov (ov_un_not rfl) rfl (sg_ rfl (nn_ ?_))
  refine gw_cond rfl (fun hh => ?_) (fun hh => ?_)
  ·have h2 : (keyB ke) = false := by simpa using hh
   clear hh
   refine sr_ (sg_ rfl (nn_ ?_))
   refine gw_ret ?_
   refine nx_blk_ret (nx_blk_ret (nx_then_ret (nx_then_ret (nx_blk_ret (nx_then_ret ?_)))))
   have hE : codeE (prevOf l k) ⟨ke, cl, fr, tt, dy, mi⟩ = 5 := by unfold codeE; simp [h2]
   refine nx_ret1 rfl rfl fun wx hm => ?_
   exact ⟨ret_int (by rw [hinv.2, hat, if_neg (by rw [hE]; decide), hE]), hm.g⟩
  have h2 : (keyB ke) = true := by simpa using hh
  clear hh
  refine gw_seq ?_
  by_cases hk0 : k = 0
  ·have hO : leCd (prevOf l k) ⟨ke, cl, fr, tt, dy, mi⟩ = false := by rw [prevOf_zero hk0]; rfl
   refine gd (fun wz => Blk wz g1 354 [.string ke, .string cl, .int .i64 fr, .int .i64 tt, .int .i64 dy, .int .i64 mi] ∧ (SlOld cdEnc 6 354 w.heap.size none (some ⟨b, off, none⟩) n l) wz ∧ True) mixed (fun _ hm => ⟨hm.bl 0, hm.fa 0, trivial⟩) fun z => ?_
   refine wt 0 14 1 rfl z (ov_move rfl) ?_
   refine wt 1 14 3 rfl z (ov_gtr rfl rfl) ?_
   refine wa_set 22 (v' := .bool false) rfl (congrArg Value.bool (decide_eq_false (by omega))) ?_
   refine wt 2 14 7 rfl z (ov_move rfl) ?_
   refine wtf 3 14 15 rfl rfl rfl z ?_
   refine wtf 4 14 31 rfl rfl rfl z ?_
   refine wtf 5 14 63 rfl rfl rfl z ?_
   refine wtf 6 14 127 rfl rfl rfl z ?_
   refine wtf 7 14 255 rfl rfl rfl z ?_
   refine wtf 8 14 511 rfl rfl rfl z ?_
   refine wtf 9 14 1023 rfl rfl rfl z ?_
   refine wtf 10 14 2047 rfl rfl rfl z ?_
   refine wtf 11 14 4095 rfl rfl rfl z ?_
   refine wt 12 14 8191 rfl z (ov_pick_f rfl rfl) ?_
   refine wt 13 14 16383 rfl z (ov_assign rfl) ?_
   refine wa_done (by kernel_rfl) ?_
   refine nx_then (cf_ rfl (sr_ (fd_ fo354_1 rfl rfl (lk_ sc9 0 rfl rfl rfl (wl_ov (ov_sneq rfl rfl) rfl (mv_ rfl ?_))))))
   rcases Bool.eq_false_or_eq_true (!(cl.toList == (⟨#[]⟩ : ByteArray).toList)) with h31 | h31
   ·refine wl_set 38 rfl (congrArg Value.bool h31) ?_
    have h31 : emptyS cl = false := by unfold emptyS; simpa only [Bool.not_eq_true'] using h31
    refine wl_guard_on rfl rfl rfl (fd_ fo354_1 rfl rfl (wl_guard_on rfl rfl rfl (lk_ sc9 0 rfl rfl rfl (wl_guard_on rfl rfl rfl ?_))))
    refine wl_callw rfl cb112 rfl rfl (fun wx hm => (isKey_any _ wx (by omega))) ?_
    refine wl_guard_on rfl rfl rfl (wl_ov (ov_un_not rfl) rfl (pt_ rfl rfl (sg_ rfl (nn_ ?_))))
    refine gw_cond rfl (fun hh => ?_) (fun hh => ?_)
    ·have h32 : (keyB cl) = false := by simpa using hh
     clear hh
     refine sr_ (sg_ rfl (nn_ ?_))
     refine gw_ret ?_
     refine nx_blk_ret (nx_blk_ret (nx_then_ret (nx_then_ret (nx_blk_ret (nx_then_ret ?_)))))
     have hE : codeE (prevOf l k) ⟨ke, cl, fr, tt, dy, mi⟩ = 5 := by unfold codeE; simp [h2, hO, h31, h32]
     refine nx_ret1 rfl rfl fun wx hm => ?_
     exact ⟨ret_int (by rw [hinv.2, hat, if_neg (by rw [hE]; decide), hE]), hm.g⟩
    have h32 : (keyB cl) = true := by simpa using hh
    clear hh
    refine sr_ (fd_ fo354_2 rfl rfl (lk_ sc3 0 rfl rfl rfl (fd_ fo354_3 rfl rfl (lk_ sc3 0 rfl rfl rfl ?_))))
    refine wl_callw rfl cb169 rfl rfl (fun wx hm => (in_any _ _ _ wx)) ?_
    refine wl_ov (ov_un_not rfl) rfl (mv_ rfl ?_)
    rcases Bool.eq_false_or_eq_true (!(inB fr 0 tt)) with h4 | h4
    ·refine wl_set 51 rfl (congrArg Value.bool h4) ?_
     refine goff rfl rfl rfl (goff rfl rfl rfl (goff rfl rfl rfl (pt_ rfl rfl (sg_ rfl (nn_ (ct_ rfl (sr_ (sg_ rfl (nn_ ?_)))))))))
     refine gw_ret ?_
     refine nx_blk_ret (nx_blk_ret (nx_then_ret (nx_then_ret (nx_blk_ret (nx_then_ret ?_)))))
     have hE : codeE (prevOf l k) ⟨ke, cl, fr, tt, dy, mi⟩ = 1 := by unfold codeE; simp [h2, hO, h31, h32, h4]
     refine nx_ret1 rfl rfl fun wx hm => ?_
     exact ⟨ret_int (by rw [hinv.2, hat, if_neg (by rw [hE]; decide), hE]), hm.g⟩
    refine wl_set 51 rfl (congrArg Value.bool h4) ?_
    refine wl_guard_on rfl rfl rfl (fd_ fo354_3 rfl rfl (wl_guard_on rfl rfl rfl (lk_ sc3 0 rfl rfl rfl (wl_guard_on rfl rfl rfl ?_))))
    refine wl_ov (ov_gtr rfl rfl) rfl ?_
    refine pf_ rfl rfl (sg_ rfl (nn_ ?_))
    refine gw_cond rfl (fun hh => ?_) (fun hh => ?_)
    ·have h5 : 4001 < tt := by simpa using hh
     clear hh
     refine sr_ (sg_ rfl (nn_ ?_))
     refine gw_ret ?_
     refine nx_blk_ret (nx_blk_ret (nx_then_ret (nx_then_ret (nx_blk_ret (nx_then_ret ?_)))))
     have hE : codeE (prevOf l k) ⟨ke, cl, fr, tt, dy, mi⟩ = 1 := by unfold codeE; simp [h2, hO, h31, h32, h4, h5]
     refine nx_ret1 rfl rfl fun wx hm => ?_
     exact ⟨ret_int (by rw [hinv.2, hat, if_neg (by rw [hE]; decide), hE]), hm.g⟩
    have h5 : ¬ (4001 < tt) := by simpa using hh
    clear hh
    refine sr_ (fd_ fo354_4 rfl rfl (lk_ sc3 0 rfl rfl rfl ?_))
    refine wl_callw rfl cb169 rfl rfl (fun wx hm => (in_any _ _ _ wx)) ?_
    refine wl_ov (ov_un_not rfl) rfl (mv_ rfl ?_)
    rcases Bool.eq_false_or_eq_true (!(inB dy 1 120)) with h6 | h6
    ·refine wl_set 61 rfl (congrArg Value.bool h6) ?_
     refine goff rfl rfl rfl (goff rfl rfl rfl (goff rfl rfl rfl (goff rfl rfl rfl (pt_ rfl rfl (sg_ rfl (nn_ (ct_ rfl (sr_ (sg_ rfl (nn_ ?_))))))))))
     refine gw_ret ?_
     refine nx_blk_ret (nx_blk_ret (nx_then_ret (nx_then_ret (nx_blk_ret (nx_then_ret ?_)))))
     have hE : codeE (prevOf l k) ⟨ke, cl, fr, tt, dy, mi⟩ = 1 := by unfold codeE; simp [h2, hO, h31, h32, h4, h5, h6]
     refine nx_ret1 rfl rfl fun wx hm => ?_
     exact ⟨ret_int (by rw [hinv.2, hat, if_neg (by rw [hE]; decide), hE]), hm.g⟩
    refine wl_set 61 rfl (congrArg Value.bool h6) ?_
    refine wl_guard_on rfl rfl rfl (fd_ fo354_5 rfl rfl (wl_guard_on rfl rfl rfl (lk_ sc3 0 rfl rfl rfl (wl_guard_on rfl rfl rfl ?_))))
    refine wl_callw rfl cb169 rfl rfl (fun wx hm => (in_any _ _ _ wx)) ?_
    refine wl_guard_on rfl rfl rfl (wl_ov (ov_un_not rfl) rfl (pf_ rfl rfl (sg_ rfl (nn_ ?_))))
    refine gw_cond rfl (fun hh => ?_) (fun hh => ?_)
    ·have h7 : (inB mi 1 1000) = false := by simpa using hh
     clear hh
     refine sr_ (sg_ rfl (nn_ ?_))
     refine gw_ret ?_
     refine nx_blk_ret (nx_blk_ret (nx_then_ret (nx_then_ret (nx_blk_ret (nx_then_ret ?_)))))
     have hE : codeE (prevOf l k) ⟨ke, cl, fr, tt, dy, mi⟩ = 1 := by unfold codeE; simp [h2, hO, h31, h32, h4, h5, h6, h7]
     refine nx_ret1 rfl rfl fun wx hm => ?_
     exact ⟨ret_int (by rw [hinv.2, hat, if_neg (by rw [hE]; decide), hE]), hm.g⟩
    have h7 : (inB mi 1 1000) = true := by simpa using hh
    clear hh
    refine gw_skip (nx_blk_nrm (nx_blk_nrm (nx_then (gw_region ?_))))
    have hE : codeE (prevOf l k) ⟨ke, cl, fr, tt, dy, mi⟩ = 0 := by unfold codeE; simp [h2, hO, h31, h32, h4, h5, h6, h7]
    refine ad_ rfl rfl (mv_ rfl (wl_nil ?_))
    exact nx_round (k + 1) ⟨by omega, by rw [hinv.2, hat, if_pos hE]⟩ (by omega) ⟨rfl, rfl, rfl, (some_int (by omega)), trivial⟩ (fun _ hm => hm.pick [] [] [0] rfl rfl)
   refine wl_set 38 rfl (congrArg Value.bool h31) ?_
   have h31 : emptyS cl = true := by unfold emptyS; simpa only [Bool.not_eq_false'] using h31
   refine goff rfl rfl rfl (goff rfl rfl rfl (goff rfl rfl rfl (goff rfl rfl rfl (pf_ rfl rfl (sg_ rfl (nn_ (cf_ rfl (sr_ (fd_ fo354_2 rfl rfl (lk_ sc3 0 rfl rfl rfl (fd_ fo354_3 rfl rfl ?_)))))))))))
   refine lk_ sc3 0 rfl rfl rfl ?_
   refine wl_callw rfl cb169 rfl rfl (fun wx hm => (in_any _ _ _ wx)) ?_
   refine wl_ov (ov_un_not rfl) rfl (mv_ rfl ?_)
   rcases Bool.eq_false_or_eq_true (!(inB fr 0 tt)) with h4 | h4
   ·refine wl_set 51 rfl (congrArg Value.bool h4) ?_
    refine goff rfl rfl rfl (goff rfl rfl rfl (goff rfl rfl rfl (pt_ rfl rfl (sg_ rfl (nn_ (ct_ rfl (sr_ (sg_ rfl (nn_ ?_)))))))))
    refine gw_ret ?_
    refine nx_blk_ret (nx_blk_ret (nx_then_ret (nx_then_ret (nx_blk_ret (nx_then_ret ?_)))))
    have hE : codeE (prevOf l k) ⟨ke, cl, fr, tt, dy, mi⟩ = 1 := by unfold codeE; simp [h2, hO, h31, h4]
    refine nx_ret1 rfl rfl fun wx hm => ?_
    exact ⟨ret_int (by rw [hinv.2, hat, if_neg (by rw [hE]; decide), hE]), hm.g⟩
   refine wl_set 51 rfl (congrArg Value.bool h4) ?_
   refine wl_guard_on rfl rfl rfl (fd_ fo354_3 rfl rfl (wl_guard_on rfl rfl rfl (lk_ sc3 0 rfl rfl rfl (wl_guard_on rfl rfl rfl ?_))))
   refine wl_ov (ov_gtr rfl rfl) rfl ?_
   refine pf_ rfl rfl (sg_ rfl (nn_ ?_))
   refine gw_cond rfl (fun hh => ?_) (fun hh => ?_)
   ·have h5 : 4001 < tt := by simpa using hh
    clear hh
    refine sr_ (sg_ rfl (nn_ ?_))
    refine gw_ret ?_
    refine nx_blk_ret (nx_blk_ret (nx_then_ret (nx_then_ret (nx_blk_ret (nx_then_ret ?_)))))
    have hE : codeE (prevOf l k) ⟨ke, cl, fr, tt, dy, mi⟩ = 1 := by unfold codeE; simp [h2, hO, h31, h4, h5]
    refine nx_ret1 rfl rfl fun wx hm => ?_
    exact ⟨ret_int (by rw [hinv.2, hat, if_neg (by rw [hE]; decide), hE]), hm.g⟩
   have h5 : ¬ (4001 < tt) := by simpa using hh
   clear hh
   refine sr_ (fd_ fo354_4 rfl rfl (lk_ sc3 0 rfl rfl rfl ?_))
   refine wl_callw rfl cb169 rfl rfl (fun wx hm => (in_any _ _ _ wx)) ?_
   refine wl_ov (ov_un_not rfl) rfl (mv_ rfl ?_)
   rcases Bool.eq_false_or_eq_true (!(inB dy 1 120)) with h6 | h6
   ·refine wl_set 61 rfl (congrArg Value.bool h6) ?_
    refine goff rfl rfl rfl (goff rfl rfl rfl (goff rfl rfl rfl (goff rfl rfl rfl (pt_ rfl rfl (sg_ rfl (nn_ (ct_ rfl (sr_ (sg_ rfl (nn_ ?_))))))))))
    refine gw_ret ?_
    refine nx_blk_ret (nx_blk_ret (nx_then_ret (nx_then_ret (nx_blk_ret (nx_then_ret ?_)))))
    have hE : codeE (prevOf l k) ⟨ke, cl, fr, tt, dy, mi⟩ = 1 := by unfold codeE; simp [h2, hO, h31, h4, h5, h6]
    refine nx_ret1 rfl rfl fun wx hm => ?_
    exact ⟨ret_int (by rw [hinv.2, hat, if_neg (by rw [hE]; decide), hE]), hm.g⟩
   refine wl_set 61 rfl (congrArg Value.bool h6) ?_
   refine wl_guard_on rfl rfl rfl (fd_ fo354_5 rfl rfl (wl_guard_on rfl rfl rfl (lk_ sc3 0 rfl rfl rfl (wl_guard_on rfl rfl rfl ?_))))
   refine wl_callw rfl cb169 rfl rfl (fun wx hm => (in_any _ _ _ wx)) ?_
   refine wl_guard_on rfl rfl rfl (wl_ov (ov_un_not rfl) rfl (pf_ rfl rfl (sg_ rfl (nn_ ?_))))
   refine gw_cond rfl (fun hh => ?_) (fun hh => ?_)
   ·have h7 : (inB mi 1 1000) = false := by simpa using hh
    clear hh
    refine sr_ (sg_ rfl (nn_ ?_))
    refine gw_ret ?_
    refine nx_blk_ret (nx_blk_ret (nx_then_ret (nx_then_ret (nx_blk_ret (nx_then_ret ?_)))))
    have hE : codeE (prevOf l k) ⟨ke, cl, fr, tt, dy, mi⟩ = 1 := by unfold codeE; simp [h2, hO, h31, h4, h5, h6, h7]
    refine nx_ret1 rfl rfl fun wx hm => ?_
    exact ⟨ret_int (by rw [hinv.2, hat, if_neg (by rw [hE]; decide), hE]), hm.g⟩
   have h7 : (inB mi 1 1000) = true := by simpa using hh
   clear hh
   refine gw_skip (nx_blk_nrm (nx_blk_nrm (nx_then (gw_region ?_))))
   have hE : codeE (prevOf l k) ⟨ke, cl, fr, tt, dy, mi⟩ = 0 := by unfold codeE; simp [h2, hO, h31, h4, h5, h6, h7]
   refine ad_ rfl rfl (mv_ rfl (wl_nil ?_))
   exact nx_round (k + 1) ⟨by omega, by rw [hinv.2, hat, if_pos hE]⟩ (by omega) ⟨rfl, rfl, rfl, (some_int (by omega)), trivial⟩ (fun _ hm => hm.pick [] [] [0] rfl rfl)
  obtain ⟨y, hy⟩ : ∃ x, l[k - 1]? = some x := ⟨_, List.getElem?_eq_getElem (by omega)⟩
  obtain ⟨p0, p1, p2, p3, p4, p5⟩ := y
  refine gd (fun wz => Blk wz g1 354 [.string ke, .string cl, .int .i64 fr, .int .i64 tt, .int .i64 dy, .int .i64 mi] ∧ (SlOld cdEnc 6 354 w.heap.size none (some ⟨b, off, none⟩) n l) wz ∧ True) mixed (fun _ hm => ⟨hm.bl 0, hm.fa 0, trivial⟩) fun z => ?_
  refine wt 0 14 1 rfl z (ov_move rfl) ?_
  refine wt 1 14 3 rfl z (ov_gtr rfl rfl) ?_
  refine wa_set 22 (v' := .bool true) rfl (congrArg Value.bool (decide_eq_true (by omega))) ?_
  refine wt 2 14 7 rfl z (ov_move rfl) ?_
  refine wto 3 14 15 rfl rfl rfl z (ov_field fo354_0 rfl rfl) ?_
  refine wto 4 14 31 rfl rfl rfl z (ov_load sc9 rfl (fun _ hm => hm.1) rfl) ?_
  refine wto 5 14 63 rfl rfl rfl z (ov_move rfl) ?_
  refine wto 6 14 127 rfl rfl rfl z (ov_move rfl) ?_
  refine wto 7 14 255 rfl rfl rfl z (ov_sub rfl rfl (by omega) (by omega)) ?_
  refine wa_set 28 (v' := .int .i64 ((k - 1 : Nat) : Int)) rfl (congrArg (Value.int .i64) (by omega)) ?_
  refine wto 8 14 511 rfl rfl rfl z (ov_index (j := k - 1) es74 rfl rfl (by omega)) ?_
  refine wto 9 14 1023 rfl rfl rfl z (ov_field fo354_0 rfl rfl) ?_
  refine wto 10 14 2047 rfl rfl rfl z (ov_elem1 (k := 0) (v := .string p0) sc9 rfl (fun _ hm => (hm.2.1).1) hy rfl rfl) ?_
  refine wto 11 14 4095 rfl rfl rfl z (ov_sleq rfl rfl) ?_
  refine wt 12 14 8191 rfl z (ov_pick_t rfl rfl) ?_
  refine wt 13 14 16383 rfl z (ov_assign rfl) ?_
  refine wa_done (by kernel_rfl) ?_
  refine nx_then ?_
  refine gw_cond rfl (fun hh => ?_) (fun hh => ?_)
  ·have h9 : (Op.bytesLess ke.toList p0.toList || ke.toList == p0.toList) = true := by simpa using hh
   clear hh
   refine sr_ ?_
   have hO : leCd (prevOf l k) ⟨ke, cl, fr, tt, dy, mi⟩ = true := by rw [prevOf_pos hk0 hy]; exact h9
   refine sg_ rfl (nn_ ?_)
   refine gw_ret ?_
   refine nx_blk_ret (nx_blk_ret (nx_then_ret (nx_then_ret (nx_blk_ret (nx_then_ret ?_)))))
   have hE : codeE (prevOf l k) ⟨ke, cl, fr, tt, dy, mi⟩ = 7 := by unfold codeE; simp [h2, hO]
   refine nx_ret1 rfl rfl fun wx hm => ?_
   exact ⟨ret_int (by rw [hinv.2, hat, if_neg (by rw [hE]; decide), hE]), hm.g⟩
  have h9 : (Op.bytesLess ke.toList p0.toList || ke.toList == p0.toList) = false := by simpa using hh
  clear hh
  refine sr_ ?_
  have hO : leCd (prevOf l k) ⟨ke, cl, fr, tt, dy, mi⟩ = false := by rw [prevOf_pos hk0 hy]; exact h9
  refine fd_ fo354_1 rfl rfl (lk_ sc9 0 rfl rfl rfl (wl_ov (ov_sneq rfl rfl) rfl (mv_ rfl ?_)))
  rcases Bool.eq_false_or_eq_true (!(cl.toList == (⟨#[]⟩ : ByteArray).toList)) with h31 | h31
  ·refine wl_set 38 rfl (congrArg Value.bool h31) ?_
   have h31 : emptyS cl = false := by unfold emptyS; simpa only [Bool.not_eq_true'] using h31
   refine wl_guard_on rfl rfl rfl (fd_ fo354_1 rfl rfl (wl_guard_on rfl rfl rfl (lk_ sc9 0 rfl rfl rfl (wl_guard_on rfl rfl rfl ?_))))
   refine wl_callw rfl cb112 rfl rfl (fun wx hm => (isKey_any _ wx (by omega))) ?_
   refine wl_guard_on rfl rfl rfl (wl_ov (ov_un_not rfl) rfl (pt_ rfl rfl (sg_ rfl (nn_ ?_))))
   refine gw_cond rfl (fun hh => ?_) (fun hh => ?_)
   ·have h32 : (keyB cl) = false := by simpa using hh
    clear hh
    refine sr_ (sg_ rfl (nn_ ?_))
    refine gw_ret ?_
    refine nx_blk_ret (nx_blk_ret (nx_then_ret (nx_then_ret (nx_blk_ret (nx_then_ret ?_)))))
    have hE : codeE (prevOf l k) ⟨ke, cl, fr, tt, dy, mi⟩ = 5 := by unfold codeE; simp [h2, hO, h31, h32]
    refine nx_ret1 rfl rfl fun wx hm => ?_
    exact ⟨ret_int (by rw [hinv.2, hat, if_neg (by rw [hE]; decide), hE]), hm.g⟩
   have h32 : (keyB cl) = true := by simpa using hh
   clear hh
   refine sr_ (fd_ fo354_2 rfl rfl (lk_ sc3 0 rfl rfl rfl (fd_ fo354_3 rfl rfl (lk_ sc3 0 rfl rfl rfl ?_))))
   refine wl_callw rfl cb169 rfl rfl (fun wx hm => (in_any _ _ _ wx)) ?_
   refine wl_ov (ov_un_not rfl) rfl (mv_ rfl ?_)
   rcases Bool.eq_false_or_eq_true (!(inB fr 0 tt)) with h4 | h4
   ·refine wl_set 51 rfl (congrArg Value.bool h4) ?_
    refine goff rfl rfl rfl (goff rfl rfl rfl (goff rfl rfl rfl (pt_ rfl rfl (sg_ rfl (nn_ (ct_ rfl (sr_ (sg_ rfl (nn_ ?_)))))))))
    refine gw_ret ?_
    refine nx_blk_ret (nx_blk_ret (nx_then_ret (nx_then_ret (nx_blk_ret (nx_then_ret ?_)))))
    have hE : codeE (prevOf l k) ⟨ke, cl, fr, tt, dy, mi⟩ = 1 := by unfold codeE; simp [h2, hO, h31, h32, h4]
    refine nx_ret1 rfl rfl fun wx hm => ?_
    exact ⟨ret_int (by rw [hinv.2, hat, if_neg (by rw [hE]; decide), hE]), hm.g⟩
   refine wl_set 51 rfl (congrArg Value.bool h4) ?_
   refine wl_guard_on rfl rfl rfl (fd_ fo354_3 rfl rfl (wl_guard_on rfl rfl rfl (lk_ sc3 0 rfl rfl rfl (wl_guard_on rfl rfl rfl ?_))))
   refine wl_ov (ov_gtr rfl rfl) rfl ?_
   refine pf_ rfl rfl (sg_ rfl (nn_ ?_))
   refine gw_cond rfl (fun hh => ?_) (fun hh => ?_)
   ·have h5 : 4001 < tt := by simpa using hh
    clear hh
    refine sr_ (sg_ rfl (nn_ ?_))
    refine gw_ret ?_
    refine nx_blk_ret (nx_blk_ret (nx_then_ret (nx_then_ret (nx_blk_ret (nx_then_ret ?_)))))
    have hE : codeE (prevOf l k) ⟨ke, cl, fr, tt, dy, mi⟩ = 1 := by unfold codeE; simp [h2, hO, h31, h32, h4, h5]
    refine nx_ret1 rfl rfl fun wx hm => ?_
    exact ⟨ret_int (by rw [hinv.2, hat, if_neg (by rw [hE]; decide), hE]), hm.g⟩
   have h5 : ¬ (4001 < tt) := by simpa using hh
   clear hh
   refine sr_ (fd_ fo354_4 rfl rfl (lk_ sc3 0 rfl rfl rfl ?_))
   refine wl_callw rfl cb169 rfl rfl (fun wx hm => (in_any _ _ _ wx)) ?_
   refine wl_ov (ov_un_not rfl) rfl (mv_ rfl ?_)
   rcases Bool.eq_false_or_eq_true (!(inB dy 1 120)) with h6 | h6
   ·refine wl_set 61 rfl (congrArg Value.bool h6) ?_
    refine goff rfl rfl rfl (goff rfl rfl rfl (goff rfl rfl rfl (goff rfl rfl rfl (pt_ rfl rfl (sg_ rfl (nn_ (ct_ rfl (sr_ (sg_ rfl (nn_ ?_))))))))))
    refine gw_ret ?_
    refine nx_blk_ret (nx_blk_ret (nx_then_ret (nx_then_ret (nx_blk_ret (nx_then_ret ?_)))))
    have hE : codeE (prevOf l k) ⟨ke, cl, fr, tt, dy, mi⟩ = 1 := by unfold codeE; simp [h2, hO, h31, h32, h4, h5, h6]
    refine nx_ret1 rfl rfl fun wx hm => ?_
    exact ⟨ret_int (by rw [hinv.2, hat, if_neg (by rw [hE]; decide), hE]), hm.g⟩
   refine wl_set 61 rfl (congrArg Value.bool h6) ?_
   refine wl_guard_on rfl rfl rfl (fd_ fo354_5 rfl rfl (wl_guard_on rfl rfl rfl (lk_ sc3 0 rfl rfl rfl (wl_guard_on rfl rfl rfl ?_))))
   refine wl_callw rfl cb169 rfl rfl (fun wx hm => (in_any _ _ _ wx)) ?_
   refine wl_guard_on rfl rfl rfl (wl_ov (ov_un_not rfl) rfl (pf_ rfl rfl (sg_ rfl (nn_ ?_))))
   refine gw_cond rfl (fun hh => ?_) (fun hh => ?_)
   ·have h7 : (inB mi 1 1000) = false := by simpa using hh
    clear hh
    refine sr_ (sg_ rfl (nn_ ?_))
    refine gw_ret ?_
    refine nx_blk_ret (nx_blk_ret (nx_then_ret (nx_then_ret (nx_blk_ret (nx_then_ret ?_)))))
    have hE : codeE (prevOf l k) ⟨ke, cl, fr, tt, dy, mi⟩ = 1 := by unfold codeE; simp [h2, hO, h31, h32, h4, h5, h6, h7]
    refine nx_ret1 rfl rfl fun wx hm => ?_
    exact ⟨ret_int (by rw [hinv.2, hat, if_neg (by rw [hE]; decide), hE]), hm.g⟩
   have h7 : (inB mi 1 1000) = true := by simpa using hh
   clear hh
   refine gw_skip (nx_blk_nrm (nx_blk_nrm (nx_then (gw_region ?_))))
   have hE : codeE (prevOf l k) ⟨ke, cl, fr, tt, dy, mi⟩ = 0 := by unfold codeE; simp [h2, hO, h31, h32, h4, h5, h6, h7]
   refine ad_ rfl rfl (mv_ rfl (wl_nil ?_))
   exact nx_round (k + 1) ⟨by omega, by rw [hinv.2, hat, if_pos hE]⟩ (by omega) ⟨rfl, rfl, rfl, (some_int (by omega)), trivial⟩ (fun _ hm => hm.pick [] [] [0] rfl rfl)
  refine wl_set 38 rfl (congrArg Value.bool h31) ?_
  have h31 : emptyS cl = true := by unfold emptyS; simpa only [Bool.not_eq_false'] using h31
  refine goff rfl rfl rfl (goff rfl rfl rfl (goff rfl rfl rfl (goff rfl rfl rfl (pf_ rfl rfl (sg_ rfl (nn_ (cf_ rfl (sr_ (fd_ fo354_2 rfl rfl (lk_ sc3 0 rfl rfl rfl (fd_ fo354_3 rfl rfl ?_)))))))))))
  refine lk_ sc3 0 rfl rfl rfl ?_
  refine wl_callw rfl cb169 rfl rfl (fun wx hm => (in_any _ _ _ wx)) ?_
  refine wl_ov (ov_un_not rfl) rfl (mv_ rfl ?_)
  rcases Bool.eq_false_or_eq_true (!(inB fr 0 tt)) with h4 | h4
  ·refine wl_set 51 rfl (congrArg Value.bool h4) ?_
   refine goff rfl rfl rfl (goff rfl rfl rfl (goff rfl rfl rfl (pt_ rfl rfl (sg_ rfl (nn_ (ct_ rfl (sr_ (sg_ rfl (nn_ ?_)))))))))
   refine gw_ret ?_
   refine nx_blk_ret (nx_blk_ret (nx_then_ret (nx_then_ret (nx_blk_ret (nx_then_ret ?_)))))
   have hE : codeE (prevOf l k) ⟨ke, cl, fr, tt, dy, mi⟩ = 1 := by unfold codeE; simp [h2, hO, h31, h4]
   refine nx_ret1 rfl rfl fun wx hm => ?_
   exact ⟨ret_int (by rw [hinv.2, hat, if_neg (by rw [hE]; decide), hE]), hm.g⟩
  refine wl_set 51 rfl (congrArg Value.bool h4) ?_
  refine wl_guard_on rfl rfl rfl (fd_ fo354_3 rfl rfl (wl_guard_on rfl rfl rfl (lk_ sc3 0 rfl rfl rfl (wl_guard_on rfl rfl rfl ?_))))
  refine wl_ov (ov_gtr rfl rfl) rfl ?_
  refine pf_ rfl rfl (sg_ rfl (nn_ ?_))
  refine gw_cond rfl (fun hh => ?_) (fun hh => ?_)
  ·have h5 : 4001 < tt := by simpa using hh
   clear hh
   refine sr_ (sg_ rfl (nn_ ?_))
   refine gw_ret ?_
   refine nx_blk_ret (nx_blk_ret (nx_then_ret (nx_then_ret (nx_blk_ret (nx_then_ret ?_)))))
   have hE : codeE (prevOf l k) ⟨ke, cl, fr, tt, dy, mi⟩ = 1 := by unfold codeE; simp [h2, hO, h31, h4, h5]
   refine nx_ret1 rfl rfl fun wx hm => ?_
   exact ⟨ret_int (by rw [hinv.2, hat, if_neg (by rw [hE]; decide), hE]), hm.g⟩
  have h5 : ¬ (4001 < tt) := by simpa using hh
  clear hh
  refine sr_ (fd_ fo354_4 rfl rfl (lk_ sc3 0 rfl rfl rfl ?_))
  refine wl_callw rfl cb169 rfl rfl (fun wx hm => (in_any _ _ _ wx)) ?_
  refine wl_ov (ov_un_not rfl) rfl (mv_ rfl ?_)
  rcases Bool.eq_false_or_eq_true (!(inB dy 1 120)) with h6 | h6
  ·refine wl_set 61 rfl (congrArg Value.bool h6) ?_
   refine goff rfl rfl rfl (goff rfl rfl rfl (goff rfl rfl rfl (goff rfl rfl rfl (pt_ rfl rfl (sg_ rfl (nn_ (ct_ rfl (sr_ (sg_ rfl (nn_ ?_))))))))))
   refine gw_ret ?_
   refine nx_blk_ret (nx_blk_ret (nx_then_ret (nx_then_ret (nx_blk_ret (nx_then_ret ?_)))))
   have hE : codeE (prevOf l k) ⟨ke, cl, fr, tt, dy, mi⟩ = 1 := by unfold codeE; simp [h2, hO, h31, h4, h5, h6]
   refine nx_ret1 rfl rfl fun wx hm => ?_
   exact ⟨ret_int (by rw [hinv.2, hat, if_neg (by rw [hE]; decide), hE]), hm.g⟩
  refine wl_set 61 rfl (congrArg Value.bool h6) ?_
  refine wl_guard_on rfl rfl rfl (fd_ fo354_5 rfl rfl (wl_guard_on rfl rfl rfl (lk_ sc3 0 rfl rfl rfl (wl_guard_on rfl rfl rfl ?_))))
  refine wl_callw rfl cb169 rfl rfl (fun wx hm => (in_any _ _ _ wx)) ?_
  refine wl_guard_on rfl rfl rfl (wl_ov (ov_un_not rfl) rfl (pf_ rfl rfl (sg_ rfl (nn_ ?_))))
  refine gw_cond rfl (fun hh => ?_) (fun hh => ?_)
  ·have h7 : (inB mi 1 1000) = false := by simpa using hh
   clear hh
   refine sr_ (sg_ rfl (nn_ ?_))
   refine gw_ret ?_
   refine nx_blk_ret (nx_blk_ret (nx_then_ret (nx_then_ret (nx_blk_ret (nx_then_ret ?_)))))
   have hE : codeE (prevOf l k) ⟨ke, cl, fr, tt, dy, mi⟩ = 1 := by unfold codeE; simp [h2, hO, h31, h4, h5, h6, h7]
   refine nx_ret1 rfl rfl fun wx hm => ?_
   exact ⟨ret_int (by rw [hinv.2, hat, if_neg (by rw [hE]; decide), hE]), hm.g⟩
  have h7 : (inB mi 1 1000) = true := by simpa using hh
  clear hh
  refine gw_skip (nx_blk_nrm (nx_blk_nrm (nx_then (gw_region ?_))))
  have hE : codeE (prevOf l k) ⟨ke, cl, fr, tt, dy, mi⟩ = 0 := by unfold codeE; simp [h2, hO, h31, h4, h5, h6, h7]
  refine ad_ rfl rfl (mv_ rfl (wl_nil ?_))
  exact nx_round (k + 1) ⟨by omega, by rw [hinv.2, hat, if_pos hE]⟩ (by omega) ⟨rfl, rfl, rfl, (some_int (by omega)), trivial⟩ (fun _ hm => hm.pick [] [] [0] rfl rfl)
 have hk : ¬ (((k : Nat) : Int) < ((n : Nat) : Int)) := by simpa using hh
 clear hh
 refine gw_exit ?_
 refine nx_then_exit (nx_then_exit ?_)
 refine nx_blk_here ?_
 refine nx_then (sr_ (sg_ rfl (nn_ ?_)))
 refine gw_ret ?_
 refine nx_ret1 rfl rfl fun wx hm => ?_
 exact ⟨ret_int (by rw [hinv.2, scanE_end _ _ _ _ (by omega)]), hm.g⟩
theorem codesFault_any (l : List Cd) (A : Option Addr) (n c : Nat) (w : World) (hl : SlT cdEnc 6 354 w A n l) (hok : ∀ b ∈ l, CdOk b) (hn : n ≤ 1000000) :
  Calls Tryz.prog 202 #[.slice A n c] w (GotE w (codesE l)) := by
 refine gw_enter ⟨62, w, none, []⟩ Tryz.func202 rfl Tryz.ntmps202 rfl (mem0 (X := [SlOld cdEnc 6 354 w.heap.size none A n l]) (allF_cons hl.old allF_nil) (allL_cons SlOld.lasts allL_nil)) ?_
 refine sr_ ?_
 have hlen := hl.len
 refine sg_ rfl (nn_ (gw_seq (sr_ (mv_ rfl (wl_ov (ov_len es74 rfl) rfl ?_)))))
 refine wl_ov (ov_gtr rfl rfl) rfl ?_
 refine nn_ ?_
 refine gw_cond rfl (fun hh => ?_) (fun hh => ?_)
 ·have h1 : 50 < ((n : Nat) : Int) := by simpa using hh
  clear hh
  refine sr_ (sg_ rfl (nn_ ?_))
  refine gw_ret ?_
  refine nx_then_ret ?_
  refine nx_ret1 rfl rfl fun wx hm => ?_
  exact ⟨ret_int (by unfold codesE; rw [if_pos (by omega)]), hm.g⟩
 have h1 : ¬ (50 < ((n : Nat) : Int)) := by simpa using hh
 clear hh
 refine gw_skip (nx_then (sr_ (sg_ rfl (nn_ (gw_seq (sr_ (mv_ rfl (wl_ov (ov_len es74 rfl) rfl (mv_ rfl (wl_nil ?_))))))))))
 refine nx_then (gw_block ?_)
 refine gw_loop (γ := Nat) (fun (k : Nat) => k ≤ n ∧ codesE l = scanE codeE (prevOf l k) (l.drop k)) (fun (k : Nat) => [(3, .string (prevCd l k)), (9, .slice A n c), (10, .int .i64 ((n : Nat) : Int)), (11, .int .i64 ((k : Nat) : Int))]) (fun (k : Nat) => fun _ => True) (fun (k : Nat) => []) (fun (k : Nat) => []) (fun (k : Nat) => [SlOld cdEnc 6 354 w.heap.size none A n l]) (fun (k : Nat) => n - k) 0 ⟨Nat.zero_le _, by unfold codesE; rw [if_neg (by omega)]; rfl⟩ ⟨rfl, rfl, rfl, rfl, trivial⟩ (fun _ hm => hm.pick [] [] [0] rfl rfl) ?_
 intro k hinv
 replace hinv : k ≤ n ∧ codesE l = scanE codeE (prevOf l k) (l.drop k) := hinv
 refine sr_ (wl_ov (ov_lss rfl rfl) rfl (nn_ (gw_seq ?_)))
 refine gw_cond rfl (fun hh => ?_) (fun hh => ?_)
 ·have hk : ((k : Nat) : Int) < ((n : Nat) : Int) := by simpa using hh
  clear hh
  refine gw_skip (nx_then (gw_seq (gw_block (sr_ ?_))))
  obtain ⟨b, off, hA, _, _⟩ := hl.get (by omega)
  subst hA
  obtain ⟨x, hx⟩ : ∃ x, l[k]? = some x := ⟨_, List.getElem?_eq_getElem (by omega)⟩
  obtain ⟨ke, cl, fr, tt, dy, mi⟩ := x
  have hat := scanE_at codeE l k _ hx
  have hk1 : ke.size ≤ 1000000 := (hok _ (List.mem_of_getElem? hx)).1
  have hk2 : cl.size ≤ 1000000 := (hok _ (List.mem_of_getElem? hx)).2
  refine wl_ov (ov_index (j := k) es74 rfl rfl (by omega)) rfl ?_
  refine wl_ov (ov_elem (vs := [.string ke, .string cl, .int .i64 fr, .int .i64 tt, .int .i64 dy, .int .i64 mi]) rz354 rfl (fun _ hm => (hm.fact 0 rfl).1) hx rfl rfl) rfl ?_
  refine wl_alloc zc354 rfl fun g1 => ?_
  refine wl_stores (cs' := [.string ke, .string cl, .int .i64 fr, .int .i64 tt, .int .i64 dy, .int .i64 mi]) 0 rz354 rfl rfl rfl rfl rfl rfl rfl rfl ?_
  refine nn_ (gw_seq (gw_block (sr_ (fd_ fo354_0 rfl rfl (lk_ sc9 0 rfl rfl rfl ?_)))))
  refine wl_callv rfl cb153 rfl rfl (fun wx hm => (key_any _ wx (by omega))) ?_
  refine wl_ov (ov_un_not rfl) rfl (sg_ rfl (nn_ ?_))
  refine gw_cond rfl (fun hh => ?_) (fun hh => ?_)
  ·have h2 : (keyB ke) = false := by simpa using hh
   clear hh
   refine sr_ (sg_ rfl (nn_ ?_))
   refine gw_ret ?_
   refine nx_blk_ret (nx_then_ret (nx_blk_ret (nx_then_ret (nx_then_ret (nx_blk_ret (nx_then_ret ?_))))))
   have hE : codeE (prevOf l k) ⟨ke, cl, fr, tt, dy, mi⟩ = 5 := by unfold codeE; simp [h2]
   refine nx_ret1 rfl rfl fun wx hm => ?_
   exact ⟨ret_int (by rw [hinv.2, hat, if_neg (by rw [hE]; decide), hE]), hm.g⟩
  have h2 : (keyB ke) = true := by simpa using hh
  clear hh
  refine sr_ (fd_ fo354_0 rfl rfl (lk_ sc9 0 rfl rfl rfl (mv_ rfl ?_)))
  refine wl_ov (ov_sleq rfl rfl) rfl ?_
  refine sg_ rfl (nn_ ?_)
  refine gw_cond rfl (fun hh => ?_) (fun hh => ?_)
  ·have h9 : (Op.bytesLess ke.toList (prevCd l k).toList || ke.toList == (prevCd l k).toList) = true := by simpa using hh
   clear hh
   refine sr_ ?_
   have hO : leCd (prevOf l k) ⟨ke, cl, fr, tt, dy, mi⟩ = true := (prevCd_le (b := ⟨ke, cl, fr, tt, dy, mi⟩) (by simpa using h2)).symm.trans h9
   refine sg_ rfl (nn_ ?_)
   refine gw_ret ?_
   refine nx_blk_ret (nx_then_ret (nx_blk_ret (nx_then_ret (nx_then_ret (nx_blk_ret (nx_then_ret ?_))))))
   have hE : codeE (prevOf l k) ⟨ke, cl, fr, tt, dy, mi⟩ = 7 := by unfold codeE; simp [h2, hO]
   refine nx_ret1 rfl rfl fun wx hm => ?_
   exact ⟨ret_int (by rw [hinv.2, hat, if_neg (by rw [hE]; decide), hE]), hm.g⟩
  have h9 : (Op.bytesLess ke.toList (prevCd l k).toList || ke.toList == (prevCd l k).toList) = false := by simpa using hh
  clear hh
  refine sr_ ?_
  have hO : leCd (prevOf l k) ⟨ke, cl, fr, tt, dy, mi⟩ = false := (prevCd_le (b := ⟨ke, cl, fr, tt, dy, mi⟩) (by simpa using h2)).symm.trans h9
  refine fd_ fo354_1 rfl rfl (lk_ sc9 0 rfl rfl rfl (wl_ov (ov_sneq rfl rfl) rfl (mv_ rfl ?_)))
  rcases Bool.eq_false_or_eq_true (!(cl.toList == (⟨#[]⟩ : ByteArray).toList)) with h31 | h31
  ·refine wl_set 29 rfl (congrArg Value.bool h31) ?_
   have h31 : emptyS cl = false := by unfold emptyS; simpa only [Bool.not_eq_true'] using h31
   refine wl_guard_on rfl rfl rfl (fd_ fo354_1 rfl rfl (wl_guard_on rfl rfl rfl (lk_ sc9 0 rfl rfl rfl (wl_guard_on rfl rfl rfl ?_))))
   refine wl_callv rfl cb153 rfl rfl (fun wx hm => (key_any _ wx (by omega))) ?_
   refine wl_guard_on rfl rfl rfl (wl_ov (ov_un_not rfl) rfl (pt_ rfl rfl (sg_ rfl (nn_ ?_))))
   refine gw_cond rfl (fun hh => ?_) (fun hh => ?_)
   ·have h32 : (keyB cl) = false := by simpa using hh
    clear hh
    refine sr_ (sg_ rfl (nn_ ?_))
    refine gw_ret ?_
    refine nx_blk_ret (nx_then_ret (nx_blk_ret (nx_then_ret (nx_then_ret (nx_blk_ret (nx_then_ret ?_))))))
    have hE : codeE (prevOf l k) ⟨ke, cl, fr, tt, dy, mi⟩ = 5 := by unfold codeE; simp [h2, hO, h31, h32]
    refine nx_ret1 rfl rfl fun wx hm => ?_
    exact ⟨ret_int (by rw [hinv.2, hat, if_neg (by rw [hE]; decide), hE]), hm.g⟩
   have h32 : (keyB cl) = true := by simpa using hh
   clear hh
   refine sr_ (fd_ fo354_2 rfl rfl (lk_ sc3 0 rfl rfl rfl (fd_ fo354_3 rfl rfl (lk_ sc3 0 rfl rfl rfl ?_))))
   refine wl_callw rfl cb75 rfl rfl (fun wx hm => (rin_any _ _ _ wx)) ?_
   refine wl_ov (ov_un_not rfl) rfl (mv_ rfl ?_)
   rcases Bool.eq_false_or_eq_true (!(inB fr 0 tt)) with h4 | h4
   ·refine wl_set 42 rfl (congrArg Value.bool h4) ?_
    refine goff rfl rfl rfl (goff rfl rfl rfl (goff rfl rfl rfl (pt_ rfl rfl (mv_ rfl (goff rfl rfl rfl (goff rfl rfl rfl (goff rfl rfl rfl (goff rfl rfl rfl (pt_ rfl rfl (mv_ rfl (goff rfl rfl rfl (goff rfl rfl rfl (goff rfl rfl rfl ?_)))))))))))))
    refine goff rfl rfl rfl (pt_ rfl rfl (sg_ rfl (nn_ (ct_ rfl (sr_ (sg_ rfl (nn_ ?_)))))))
    refine gw_ret ?_
    refine nx_blk_ret (nx_then_ret (nx_blk_ret (nx_then_ret (nx_then_ret (nx_blk_ret (nx_then_ret ?_))))))
    have hE : codeE (prevOf l k) ⟨ke, cl, fr, tt, dy, mi⟩ = 1 := by unfold codeE; simp [h2, hO, h31, h32, h4]
    refine nx_ret1 rfl rfl fun wx hm => ?_
    exact ⟨ret_int (by rw [hinv.2, hat, if_neg (by rw [hE]; decide), hE]), hm.g⟩
   refine wl_set 42 rfl (congrArg Value.bool h4) ?_
   refine wl_guard_on rfl rfl rfl (fd_ fo354_3 rfl rfl (wl_guard_on rfl rfl rfl (lk_ sc3 0 rfl rfl rfl (wl_guard_on rfl rfl rfl ?_))))
   refine wl_ov (ov_gtr rfl rfl) rfl ?_
   refine pf_ rfl rfl (mv_ rfl ?_)
   rcases Bool.eq_false_or_eq_true (decide (4001 < tt)) with h5 | h5
   ·refine wl_set 47 rfl (congrArg Value.bool h5) ?_
    replace h5 := of_decide_eq_true h5
    refine goff rfl rfl rfl (goff rfl rfl rfl (goff rfl rfl rfl (goff rfl rfl rfl (pt_ rfl rfl (mv_ rfl (goff rfl rfl rfl (goff rfl rfl rfl (goff rfl rfl rfl (goff rfl rfl rfl (pt_ rfl rfl (sg_ rfl (nn_ ?_))))))))))))
    refine ct_ rfl (sr_ (sg_ rfl (nn_ ?_)))
    refine gw_ret ?_
    refine nx_blk_ret (nx_then_ret (nx_blk_ret (nx_then_ret (nx_then_ret (nx_blk_ret (nx_then_ret ?_))))))
    have hE : codeE (prevOf l k) ⟨ke, cl, fr, tt, dy, mi⟩ = 1 := by unfold codeE; simp [h2, hO, h31, h32, h4, h5]
    refine nx_ret1 rfl rfl fun wx hm => ?_
    exact ⟨ret_int (by rw [hinv.2, hat, if_neg (by rw [hE]; decide), hE]), hm.g⟩
   refine wl_set 47 rfl (congrArg Value.bool h5) ?_
   replace h5 := of_decide_eq_false h5
   refine wl_guard_on rfl rfl rfl (fd_ fo354_4 rfl rfl (wl_guard_on rfl rfl rfl (lk_ sc3 0 rfl rfl rfl (wl_guard_on rfl rfl rfl ?_))))
   refine wl_callw rfl cb75 rfl rfl (fun wx hm => (rin_any _ _ _ wx)) ?_
   refine wl_guard_on rfl rfl rfl (wl_ov (ov_un_not rfl) rfl (pf_ rfl rfl (mv_ rfl ?_)))
   rcases Bool.eq_false_or_eq_true (!(inB dy 1 120)) with h6 | h6
   ·refine wl_set 53 rfl (congrArg Value.bool h6) ?_
    refine goff rfl rfl rfl (goff rfl rfl rfl (goff rfl rfl rfl (goff rfl rfl rfl (pt_ rfl rfl (sg_ rfl (nn_ (ct_ rfl (sr_ (sg_ rfl (nn_ ?_))))))))))
    refine gw_ret ?_
    refine nx_blk_ret (nx_then_ret (nx_blk_ret (nx_then_ret (nx_then_ret (nx_blk_ret (nx_then_ret ?_))))))
    have hE : codeE (prevOf l k) ⟨ke, cl, fr, tt, dy, mi⟩ = 1 := by unfold codeE; simp [h2, hO, h31, h32, h4, h5, h6]
    refine nx_ret1 rfl rfl fun wx hm => ?_
    exact ⟨ret_int (by rw [hinv.2, hat, if_neg (by rw [hE]; decide), hE]), hm.g⟩
   refine wl_set 53 rfl (congrArg Value.bool h6) ?_
   refine wl_guard_on rfl rfl rfl (fd_ fo354_5 rfl rfl (wl_guard_on rfl rfl rfl (lk_ sc3 0 rfl rfl rfl (wl_guard_on rfl rfl rfl ?_))))
   refine wl_callw rfl cb75 rfl rfl (fun wx hm => (rin_any _ _ _ wx)) ?_
   refine wl_guard_on rfl rfl rfl (wl_ov (ov_un_not rfl) rfl (pf_ rfl rfl (sg_ rfl (nn_ ?_))))
   refine gw_cond rfl (fun hh => ?_) (fun hh => ?_)
   ·have h7 : (inB mi 1 1000) = false := by simpa using hh
    clear hh
    refine sr_ (sg_ rfl (nn_ ?_))
    refine gw_ret ?_
    refine nx_blk_ret (nx_then_ret (nx_blk_ret (nx_then_ret (nx_then_ret (nx_blk_ret (nx_then_ret ?_))))))
    have hE : codeE (prevOf l k) ⟨ke, cl, fr, tt, dy, mi⟩ = 1 := by unfold codeE; simp [h2, hO, h31, h32, h4, h5, h6, h7]
    refine nx_ret1 rfl rfl fun wx hm => ?_
    exact ⟨ret_int (by rw [hinv.2, hat, if_neg (by rw [hE]; decide), hE]), hm.g⟩
   have h7 : (inB mi 1 1000) = true := by simpa using hh
   clear hh
   refine gw_skip (nx_blk_nrm (nx_then (gw_region ?_)))
   have hE : codeE (prevOf l k) ⟨ke, cl, fr, tt, dy, mi⟩ = 0 := by unfold codeE; simp [h2, hO, h31, h32, h4, h5, h6, h7]
   refine fd_ fo354_0 rfl rfl (lk_ sc9 0 rfl rfl rfl (sg_ rfl (wl_nil (nx_blk_nrm (nx_then (gw_region (ad_ rfl rfl (mv_ rfl (wl_nil ?_)))))))))
   exact nx_round (k + 1) ⟨by omega, by rw [hinv.2, hat, if_pos hE]⟩ (by omega) ⟨(congrArg (fun z => some (Value.string z)) (prevCd_succ hx).symm), rfl, rfl, (some_int (by omega)), trivial⟩ (fun _ hm => hm.pick [] [] [0] rfl rfl)
  refine wl_set 29 rfl (congrArg Value.bool h31) ?_
  have h31 : emptyS cl = true := by unfold emptyS; simpa only [Bool.not_eq_false'] using h31
  refine goff rfl rfl rfl (goff rfl rfl rfl (goff rfl rfl rfl (goff rfl rfl rfl (pf_ rfl rfl (sg_ rfl (nn_ (cf_ rfl (sr_ (fd_ fo354_2 rfl rfl (lk_ sc3 0 rfl rfl rfl (fd_ fo354_3 rfl rfl ?_)))))))))))
  refine lk_ sc3 0 rfl rfl rfl ?_
  refine wl_callw rfl cb75 rfl rfl (fun wx hm => (rin_any _ _ _ wx)) ?_
  refine wl_ov (ov_un_not rfl) rfl (mv_ rfl ?_)
  rcases Bool.eq_false_or_eq_true (!(inB fr 0 tt)) with h4 | h4
  ·refine wl_set 42 rfl (congrArg Value.bool h4) ?_
   refine goff rfl rfl rfl (goff rfl rfl rfl (goff rfl rfl rfl (pt_ rfl rfl (mv_ rfl (goff rfl rfl rfl (goff rfl rfl rfl (goff rfl rfl rfl (goff rfl rfl rfl (pt_ rfl rfl (mv_ rfl (goff rfl rfl rfl (goff rfl rfl rfl (goff rfl rfl rfl ?_)))))))))))))
   refine goff rfl rfl rfl (pt_ rfl rfl (sg_ rfl (nn_ (ct_ rfl (sr_ (sg_ rfl (nn_ ?_)))))))
   refine gw_ret ?_
   refine nx_blk_ret (nx_then_ret (nx_blk_ret (nx_then_ret (nx_then_ret (nx_blk_ret (nx_then_ret ?_))))))
   have hE : codeE (prevOf l k) ⟨ke, cl, fr, tt, dy, mi⟩ = 1 := by unfold codeE; simp [h2, hO, h31, h4]
   refine nx_ret1 rfl rfl fun wx hm => ?_
   exact ⟨ret_int (by rw [hinv.2, hat, if_neg (by rw [hE]; decide), hE]), hm.g⟩
  refine wl_set 42 rfl (congrArg Value.bool h4) ?_
  refine wl_guard_on rfl rfl rfl (fd_ fo354_3 rfl rfl (wl_guard_on rfl rfl rfl (lk_ sc3 0 rfl rfl rfl (wl_guard_on rfl rfl rfl ?_))))
  refine wl_ov (ov_gtr rfl rfl) rfl ?_
  refine pf_ rfl rfl (mv_ rfl ?_)
  rcases Bool.eq_false_or_eq_true (decide (4001 < tt)) with h5 | h5
  ·refine wl_set 47 rfl (congrArg Value.bool h5) ?_
   replace h5 := of_decide_eq_true h5
   refine goff rfl rfl rfl (goff rfl rfl rfl (goff rfl rfl rfl (goff rfl rfl rfl (pt_ rfl rfl (mv_ rfl (goff rfl rfl rfl (goff rfl rfl rfl (goff rfl rfl rfl (goff rfl rfl rfl (pt_ rfl rfl (sg_ rfl (nn_ ?_))))))))))))
   refine ct_ rfl (sr_ (sg_ rfl (nn_ ?_)))
   refine gw_ret ?_
   refine nx_blk_ret (nx_then_ret (nx_blk_ret (nx_then_ret (nx_then_ret (nx_blk_ret (nx_then_ret ?_))))))
   have hE : codeE (prevOf l k) ⟨ke, cl, fr, tt, dy, mi⟩ = 1 := by unfold codeE; simp [h2, hO, h31, h4, h5]
   refine nx_ret1 rfl rfl fun wx hm => ?_
   exact ⟨ret_int (by rw [hinv.2, hat, if_neg (by rw [hE]; decide), hE]), hm.g⟩
  refine wl_set 47 rfl (congrArg Value.bool h5) ?_
  replace h5 := of_decide_eq_false h5
  refine wl_guard_on rfl rfl rfl (fd_ fo354_4 rfl rfl (wl_guard_on rfl rfl rfl (lk_ sc3 0 rfl rfl rfl (wl_guard_on rfl rfl rfl ?_))))
  refine wl_callw rfl cb75 rfl rfl (fun wx hm => (rin_any _ _ _ wx)) ?_
  refine wl_guard_on rfl rfl rfl (wl_ov (ov_un_not rfl) rfl (pf_ rfl rfl (mv_ rfl ?_)))
  rcases Bool.eq_false_or_eq_true (!(inB dy 1 120)) with h6 | h6
  ·refine wl_set 53 rfl (congrArg Value.bool h6) ?_
   refine goff rfl rfl rfl (goff rfl rfl rfl (goff rfl rfl rfl (goff rfl rfl rfl (pt_ rfl rfl (sg_ rfl (nn_ (ct_ rfl (sr_ (sg_ rfl (nn_ ?_))))))))))
   refine gw_ret ?_
   refine nx_blk_ret (nx_then_ret (nx_blk_ret (nx_then_ret (nx_then_ret (nx_blk_ret (nx_then_ret ?_))))))
   have hE : codeE (prevOf l k) ⟨ke, cl, fr, tt, dy, mi⟩ = 1 := by unfold codeE; simp [h2, hO, h31, h4, h5, h6]
   refine nx_ret1 rfl rfl fun wx hm => ?_
   exact ⟨ret_int (by rw [hinv.2, hat, if_neg (by rw [hE]; decide), hE]), hm.g⟩
  refine wl_set 53 rfl (congrArg Value.bool h6) ?_
  refine wl_guard_on rfl rfl rfl (fd_ fo354_5 rfl rfl (wl_guard_on rfl rfl rfl (lk_ sc3 0 rfl rfl rfl (wl_guard_on rfl rfl rfl ?_))))
  refine wl_callw rfl cb75 rfl rfl (fun wx hm => (rin_any _ _ _ wx)) ?_
  refine wl_guard_on rfl rfl rfl (wl_ov (ov_un_not rfl) rfl (pf_ rfl rfl (sg_ rfl (nn_ ?_))))
  refine gw_cond rfl (fun hh => ?_) (fun hh => ?_)
  ·have h7 : (inB mi 1 1000) = false := by simpa using hh
   clear hh
   refine sr_ (sg_ rfl (nn_ ?_))
   refine gw_ret ?_
   refine nx_blk_ret (nx_then_ret (nx_blk_ret (nx_then_ret (nx_then_ret (nx_blk_ret (nx_then_ret ?_))))))
   have hE : codeE (prevOf l k) ⟨ke, cl, fr, tt, dy, mi⟩ = 1 := by unfold codeE; simp [h2, hO, h31, h4, h5, h6, h7]
   refine nx_ret1 rfl rfl fun wx hm => ?_
   exact ⟨ret_int (by rw [hinv.2, hat, if_neg (by rw [hE]; decide), hE]), hm.g⟩
  have h7 : (inB mi 1 1000) = true := by simpa using hh
  clear hh
  refine gw_skip (nx_blk_nrm (nx_then (gw_region ?_)))
  have hE : codeE (prevOf l k) ⟨ke, cl, fr, tt, dy, mi⟩ = 0 := by unfold codeE; simp [h2, hO, h31, h4, h5, h6, h7]
  refine fd_ fo354_0 rfl rfl (lk_ sc9 0 rfl rfl rfl (sg_ rfl (wl_nil (nx_blk_nrm (nx_then (gw_region (ad_ rfl rfl (mv_ rfl (wl_nil ?_)))))))))
  exact nx_round (k + 1) ⟨by omega, by rw [hinv.2, hat, if_pos hE]⟩ (by omega) ⟨(congrArg (fun z => some (Value.string z)) (prevCd_succ hx).symm), rfl, rfl, (some_int (by omega)), trivial⟩ (fun _ hm => hm.pick [] [] [0] rfl rfl)
 have hk : ¬ (((k : Nat) : Int) < ((n : Nat) : Int)) := by simpa using hh
 clear hh
 refine gw_exit ?_
 refine nx_then_exit (nx_then_exit ?_)
 refine nx_blk_here ?_
 refine nx_then (sr_ (sg_ rfl (nn_ ?_)))
 refine gw_ret ?_
 refine nx_ret1 rfl rfl fun wx hm => ?_
 exact ⟨ret_int (by rw [hinv.2, scanE_end _ _ _ _ (by omega)]), hm.g⟩
theorem pred_codeAt_1_tariff (ke : ByteArray) (cl : ByteArray) (fr : Int) (tt : Int) (dy : Int) (mi : Int) (gk : Nat) (k : ByteArray) (w : World) (hk : Blk w gk 9 [.string k]) :
  Calls Tryz.prog 337 #[.agg #[.string ke, .string cl, .int .i64 fr, .int .i64 tt, .int .i64 dy, .int .i64 mi], .pointer (some ⟨gk, 0, none⟩)] w (fun e w' => e = .returned (.bool (codeP k ⟨ke, cl, fr, tt, dy, mi⟩)) ∧ w.grownBy w' none) := by
 refine gw_enter ⟨8, w, none, []⟩ Tryz.func337 rfl Tryz.ntmps337 rfl (mem0 (X := [BlkOld w.heap.size none gk 9 [.string k]]) (allF_cons hk.old allF_nil) (allL_cons BlkOld.lasts allL_nil)) ?_
 refine sr_ ?_
 refine wl_box rfl rfl rfl fun g1 => ?_
 refine sg_ rfl (nn_ (sr_ (fd_ fo354_0 rfl rfl (lk_ sc9 0 rfl rfl rfl ?_))))
 refine wl_ov (ov_load (v := .string k) sc9 rfl (fun _ hm => (hm.fact 0 rfl).2) rfl) rfl ?_
 refine wl_ov (ov_seql rfl rfl) rfl (sg_ rfl (nn_ ?_))
 refine gw_ret ?_
 refine nx_ret1 rfl rfl fun wx hm => ?_
 exact ⟨rfl, hm.g⟩
theorem index_codeAt_1_tariff (l : List Cd) (A : Option Addr) (n c0 : Nat) (gk : Nat) (k : ByteArray) (w : World) (hl : SlT cdEnc 6 354 w A n l) (hn : n ≤ 1000000) (hk : Blk w gk 9 [.string k]) :
  Calls Tryz.prog 336 #[.slice A n c0, .func (.func 337) #[] #[.pointer (some ⟨gk, 0, none⟩)]] w (GotE w (ixP (codeP k) l 0)) := by
 refine gw_enter ⟨19, w, none, []⟩ Tryz.func336 rfl Tryz.ntmps336 rfl (mem0 (X := [SlOld cdEnc 6 354 w.heap.size none A n l, BlkOld w.heap.size none gk 9 [.string k]]) (allF_cons hl.old (allF_cons hk.old allF_nil)) (allL_cons SlOld.lasts (allL_cons BlkOld.lasts allL_nil))) ?_
 refine sr_ ?_
 have hlen := hl.len
 refine sg_ rfl (nn_ (gw_seq (sr_ (mv_ rfl (wl_ov (ov_len es74 rfl) rfl (mv_ rfl (nn_ (gw_block ?_))))))))
 refine gw_loop (γ := Nat) (fun (i : Nat) => i ≤ n ∧ ixP (codeP k) l 0 = ixP (codeP k) (l.drop i) i) (fun (i : Nat) => [(0, .slice A n c0), (1, .func (.func 337) #[] #[.pointer (some ⟨gk, 0, none⟩)]), (7, .int .i64 ((n : Nat) : Int)), (8, .int .i64 ((i : Nat) : Int))]) (fun (i : Nat) => fun _ => True) (fun (i : Nat) => []) (fun (i : Nat) => []) (fun (i : Nat) => [SlOld cdEnc 6 354 w.heap.size none A n l, BlkOld w.heap.size none gk 9 [.string k]]) (fun (i : Nat) => n - i) 0 ⟨Nat.zero_le _, rfl⟩ ⟨rfl, rfl, rfl, rfl, trivial⟩ (fun _ hm => hm.pick [] [] [0, 1] rfl rfl) ?_
 intro i hinv
 replace hinv : i ≤ n ∧ ixP (codeP k) l 0 = ixP (codeP k) (l.drop i) i := hinv
 refine sr_ (wl_ov (ov_lss rfl rfl) rfl (nn_ (gw_seq ?_)))
 refine gw_cond rfl (fun hh => ?_) (fun hh => ?_)
 ·have hi : ((i : Nat) : Int) < ((n : Nat) : Int) := by simpa using hh
  clear hh
  refine gw_skip (nx_then (gw_seq (gw_block (sr_ ?_))))
  obtain ⟨b, off, hA, _, _⟩ := hl.get (by omega)
  subst hA
  obtain ⟨x, hx⟩ : ∃ x, l[i]? = some x := ⟨_, List.getElem?_eq_getElem (by omega)⟩
  obtain ⟨ke, cl, fr, tt, dy, mi⟩ := x
  have hat := ixP_at (p := codeP k) hx
  refine mv_ rfl (sg_ rfl (nn_ (sr_ (mv_ rfl (mv_ rfl (mv_ rfl ?_))))))
  refine wl_ov (ov_index (j := i) es74 rfl rfl (by omega)) rfl ?_
  refine wl_ov (ov_elem (vs := [.string ke, .string cl, .int .i64 fr, .int .i64 tt, .int .i64 dy, .int .i64 mi]) rz354 rfl (fun _ hm => (hm.fact 0 rfl).1) hx rfl rfl) rfl ?_
  refine wl_callv rfl cb337 rfl rfl (fun wx hm => (pred_codeAt_1_tariff ke cl fr tt dy mi gk k wx (hm.fact 1 rfl).2)) ?_
  refine nn_ ?_
  refine gw_cond rfl (fun hh => ?_) (fun hh => ?_)
  ·have hq : (codeP k ⟨ke, cl, fr, tt, dy, mi⟩) = true := by simpa using hh
   clear hh
   refine sr_ (mv_ rfl (sg_ rfl (nn_ ?_)))
   refine gw_ret ?_
   refine nx_blk_ret (nx_then_ret (nx_then_ret (nx_blk_ret (nx_then_ret ?_))))
   refine nx_ret1 rfl rfl fun wx hm => ?_
   exact ⟨ret_int (by rw [hinv.2, hat, if_pos hq]), hm.g⟩
  have hq : (codeP k ⟨ke, cl, fr, tt, dy, mi⟩) = false := by simpa using hh
  clear hh
  refine gw_skip (nx_blk_nrm (nx_then (gw_region (ad_ rfl rfl (mv_ rfl (wl_nil ?_))))))
  exact nx_round (i + 1) ⟨by omega, by rw [hinv.2, hat, if_neg (by rw [hq]; decide)]⟩ (by omega) ⟨rfl, rfl, rfl, (some_int (by omega)), trivial⟩ (fun _ hm => hm.pick [] [] [0, 1] rfl rfl)
 have hi : ¬ (((i : Nat) : Int) < ((n : Nat) : Int)) := by simpa using hh
 clear hh
 refine gw_exit ?_
 refine nx_then_exit (nx_then_exit ?_)
 refine nx_blk_here ?_
 refine nx_then (sr_ (sg_ rfl ?_))
 refine wl_set 4 (v' := .int .i64 (-1)) rfl rfl ?_
 refine nn_ ?_
 refine gw_ret ?_
 refine nx_ret1 rfl rfl fun wx hm => ?_
 exact ⟨ret_int (by rw [hinv.2, List.drop_eq_nil_of_le (by omega)]; rfl), hm.g⟩
theorem codeAt_any (l : List Cd) (A : Option Addr) (n c0 : Nat) (k : ByteArray) (w : World) (hl : SlT cdEnc 6 354 w A n l) (hn : n ≤ 1000000) :
  Calls Tryz.prog 278 #[.slice A n c0, .string k] w (GotE w (ixP (codeP k) l 0)) := by
 refine gw_enter ⟨8, w, none, []⟩ Tryz.func278 rfl Tryz.ntmps278 rfl (mem0 (X := [SlOld cdEnc 6 354 w.heap.size none A n l]) (allF_cons hl.old allF_nil) (allL_cons SlOld.lasts allL_nil)) ?_
 refine sr_ ?_
 refine wl_box rfl rfl rfl fun g1 => ?_
 refine sg_ rfl (nn_ (sr_ (mv_ rfl (wl_ov (ov_makeFunc rfl rfl) rfl ?_))))
 refine wl_callv rfl cb336 rfl rfl (fun wx hm => (index_codeAt_1_tariff l A n c0 _ k wx (hm.fact 0 rfl).1 hn (hm.blkI 0 rfl))) ?_
 refine sg_ rfl (nn_ ?_)
 refine gw_ret ?_
 refine nx_ret1 rfl rfl fun wx hm => ?_
 exact ⟨rfl, hm.g⟩
theorem index_str (ks : List ByteArray) (A1 : Option Addr) (n1 c1 : Nat) (k : ByteArray) (w : World) (hs : SlT sgEnc 1 9 w A1 n1 ks) (hn : n1 ≤ 1000000) :
  Calls Tryz.prog 221 #[.slice A1 n1 c1, .string k] w (GotE w (ixP (fun y => k.toList == y.toList) ks 0)) := by
 refine gw_enter ⟨19, w, none, []⟩ Tryz.func221 rfl Tryz.ntmps221 rfl (mem0 (X := [SlOld sgEnc 1 9 w.heap.size none A1 n1 ks]) (allF_cons hs.old allF_nil) (allL_cons SlOld.lasts allL_nil)) ?_
 refine sr_ ?_
 have hlen := hs.len
 refine sg_ rfl (nn_ (gw_seq (sr_ (mv_ rfl (wl_ov (ov_len es79 rfl) rfl (mv_ rfl (nn_ (gw_block ?_))))))))
 refine gw_loop (γ := Nat) (fun (i : Nat) => i ≤ n1 ∧ ixP (fun y => k.toList == y.toList) ks 0 = ixP (fun y => k.toList == y.toList) (ks.drop i) i) (fun (i : Nat) => [(0, .slice A1 n1 c1), (1, .string k), (7, .int .i64 ((n1 : Nat) : Int)), (8, .int .i64 ((i : Nat) : Int))]) (fun (i : Nat) => fun _ => True) (fun (i : Nat) => []) (fun (i : Nat) => []) (fun (i : Nat) => [SlOld sgEnc 1 9 w.heap.size none A1 n1 ks]) (fun (i : Nat) => n1 - i) 0 ⟨Nat.zero_le _, rfl⟩ ⟨rfl, rfl, rfl, rfl, trivial⟩ (fun _ hm => hm.pick [] [] [0] rfl rfl) ?_
 intro i hinv
 replace hinv : i ≤ n1 ∧ ixP (fun y => k.toList == y.toList) ks 0 = ixP (fun y => k.toList == y.toList) (ks.drop i) i := hinv
 refine sr_ (wl_ov (ov_lss rfl rfl) rfl (nn_ (gw_seq ?_)))
 refine gw_cond rfl (fun hh => ?_) (fun hh => ?_)
 ·have hi : ((i : Nat) : Int) < ((n1 : Nat) : Int) := by simpa using hh
  clear hh
  refine gw_skip (nx_then (gw_seq (gw_block (sr_ ?_))))
  obtain ⟨b, off, hA, _, _⟩ := hs.get (by omega)
  subst hA
  obtain ⟨z0, hx⟩ : ∃ x, ks[i]? = some x := ⟨_, List.getElem?_eq_getElem (by omega)⟩
  have hat := ixP_at (p := (fun y => k.toList == y.toList)) hx
  refine mv_ rfl (sg_ rfl (nn_ (sr_ (mv_ rfl (mv_ rfl (mv_ rfl ?_))))))
  refine wl_ov (ov_index (j := i) es79 rfl rfl (by omega)) rfl ?_
  refine wl_ov (ov_elem1 (k := 0) (v := .string z0) sc9 rfl (fun _ hm => (hm.fact 0 rfl).1) hx rfl rfl) rfl ?_
  refine wl_ov (ov_seql rfl rfl) rfl (nn_ ?_)
  refine gw_cond rfl (fun hh => ?_) (fun hh => ?_)
  ·have hq : (k.toList == z0.toList) = true := by simpa using hh
   clear hh
   refine sr_ (mv_ rfl (sg_ rfl (nn_ ?_)))
   refine gw_ret ?_
   refine nx_blk_ret (nx_then_ret (nx_then_ret (nx_blk_ret (nx_then_ret ?_))))
   refine nx_ret1 rfl rfl fun wx hm => ?_
   exact ⟨ret_int (by rw [hinv.2, hat, if_pos hq]), hm.g⟩
  have hq : (k.toList == z0.toList) = false := by simpa using hh
  clear hh
  refine gw_skip (nx_blk_nrm (nx_then (gw_region (ad_ rfl rfl (mv_ rfl (wl_nil ?_))))))
  exact nx_round (i + 1) ⟨by omega, by rw [hinv.2, hat, if_neg (by rw [hq]; decide)]⟩ (by omega) ⟨rfl, rfl, rfl, (some_int (by omega)), trivial⟩ (fun _ hm => hm.pick [] [] [0] rfl rfl)
 have hi : ¬ (((i : Nat) : Int) < ((n1 : Nat) : Int)) := by simpa using hh
 clear hh
 refine gw_exit ?_
 refine nx_then_exit (nx_then_exit ?_)
 refine nx_blk_here ?_
 refine nx_then (sr_ (sg_ rfl ?_))
 refine wl_set 4 (v' := .int .i64 (-1)) rfl rfl ?_
 refine nn_ ?_
 refine gw_ret ?_
 refine nx_ret1 rfl rfl fun wx hm => ?_
 exact ⟨ret_int (by rw [hinv.2, List.drop_eq_nil_of_le (by omega)]; rfl), hm.g⟩
theorem contains_str (ks : List ByteArray) (A1 : Option Addr) (n1 c1 : Nat) (k : ByteArray) (w : World) (hs : SlT sgEnc 1 9 w A1 n1 ks) (hn : n1 ≤ 1000000) :
  Calls Tryz.prog 113 #[.slice A1 n1 c1, .string k] w (fun e w' => e = .returned (.bool (ks.any (fun y => k.toList == y.toList))) ∧ w.grownBy w' none) := by
 refine gw_enter ⟨9, w, none, []⟩ Tryz.func113 rfl Tryz.ntmps113 rfl (mem0 (X := [SlOld sgEnc 1 9 w.heap.size none A1 n1 ks]) (allF_cons hs.old allF_nil) (allL_cons SlOld.lasts allL_nil)) ?_
 refine sr_ (sg_ rfl (nn_ (sr_ (mv_ rfl (mv_ rfl ?_)))))
 refine wl_callv rfl cb221 rfl rfl (fun wx hm => (index_str ks A1 n1 c1 k wx (hm.fact 0 rfl).1 hn)) ?_
 refine wl_ov (ov_geq rfl rfl) rfl ?_
 refine sg_ rfl (nn_ ?_)
 refine gw_ret ?_
 refine nx_ret1 rfl rfl fun wx hm => ?_
 exact ⟨by rw [← ix_any], hm.g⟩
theorem isCode_any (l : List Cd) (A : Option Addr) (n c0 : Nat) (gl : Nat) (k : ByteArray) (w : World) (hl : SlT cdEnc 6 354 w A n l) (hn : n ≤ 1000000) (hg : Blk w gl 74 [.slice A n c0]) :
  Calls Tryz.prog 277 #[.string k, .pointer (some ⟨gl, 0, none⟩)] w (fun e w' => e = .returned (.bool (l.any (codeP k))) ∧ w.grownBy w' none) := by
 refine gw_enter ⟨8, w, none, []⟩ Tryz.func277 rfl Tryz.ntmps277 rfl (mem0 (X := [SlOld cdEnc 6 354 w.heap.size none A n l, BlkOld w.heap.size none gl 74 [.slice A n c0]]) (allF_cons hl.old (allF_cons hg.old allF_nil)) (allL_cons SlOld.lasts (allL_cons BlkOld.lasts allL_nil))) ?_
 refine sr_ (sg_ rfl (nn_ (sr_ ?_)))
 refine wl_ov (ov_load (v := .slice A n c0) sc74 rfl (fun _ hm => (hm.fact 1 rfl).2) rfl) rfl ?_
 refine mv_ rfl ?_
 refine wl_callv rfl cb278 rfl rfl (fun wx hm => (codeAt_any l A n c0 k wx (hm.fact 0 rfl).1 hn)) ?_
 refine wl_ov (ov_geq rfl rfl) rfl ?_
 refine sg_ rfl (nn_ ?_)
 refine gw_ret ?_
 refine nx_ret1 rfl rfl fun wx hm => ?_
 exact ⟨by rw [← ix_any], hm.g⟩
theorem checkAsked_codes (l : List Cd) (A : Option Addr) (n c0 : Nat) (ks : List ByteArray) (A1 : Option Addr) (n1 c1 : Nat) (gl : Nat) (w : World) (hl : SlT cdEnc 6 354 w A n l) (hn : n ≤ 1000000) (hs : SlT sgEnc 1 9 w A1 n1 ks) (hn1 : n1 ≤ 1000000) (hc1 : n1 ≤ c1) (hg : Blk w gl 74 [.slice A n c0]) :
  Calls Tryz.prog 208 #[.slice A1 n1 c1, .func (.func 277) #[] #[.pointer (some ⟨gl, 0, none⟩)]] w (GotE w (askE (fun k => l.any (codeP k)) ks)) := by
 refine gw_enter ⟨29, w, none, []⟩ Tryz.func208 rfl Tryz.ntmps208 rfl (mem0 (X := [SlOld sgEnc 1 9 w.heap.size none A1 n1 ks, SlOld cdEnc 6 354 w.heap.size none A n l, BlkOld w.heap.size none gl 74 [.slice A n c0]]) (allF_cons hs.old (allF_cons hl.old (allF_cons hg.old allF_nil))) (allL_cons SlOld.lasts (allL_cons SlOld.lasts (allL_cons BlkOld.lasts allL_nil)))) ?_
 refine sr_ ?_
 have hlen := hs.len
 refine sg_ rfl (nn_ (gw_seq (sr_ (mv_ rfl (wl_ov (ov_len es79 rfl) rfl ?_)))))
 refine wl_ov (ov_gtr rfl rfl) rfl ?_
 refine nn_ ?_
 refine gw_cond rfl (fun hh => ?_) (fun hh => ?_)
 ·have h1 : 10 < ((n1 : Nat) : Int) := by simpa using hh
  clear hh
  refine sr_ (sg_ rfl (nn_ ?_))
  refine gw_ret ?_
  refine nx_then_ret ?_
  refine nx_ret1 rfl rfl fun wx hm => ?_
  exact ⟨ret_int (by unfold askE; rw [if_pos (by omega)]), hm.g⟩
 have h1 : ¬ (10 < ((n1 : Nat) : Int)) := by simpa using hh
 clear hh
 refine gw_skip (nx_then (gw_seq (sr_ (mv_ rfl (wl_ov (ov_len es79 rfl) rfl (mv_ rfl (nn_ (gw_block ?_))))))))
 refine gw_loop (γ := Nat) (fun (i : Nat) => i ≤ n1 ∧ askE (fun k => l.any (codeP k)) ks = askG (fun k => l.any (codeP k)) (ks.take i) (ks.drop i)) (fun (i : Nat) => [(0, .slice A1 n1 c1), (1, .func (.func 277) #[] #[.pointer (some ⟨gl, 0, none⟩)]), (10, .slice A1 n1 c1), (11, .int .i64 ((n1 : Nat) : Int)), (12, .int .i64 ((i : Nat) : Int))]) (fun (i : Nat) => fun _ => True) (fun (i : Nat) => []) (fun (i : Nat) => []) (fun (i : Nat) => [SlOld sgEnc 1 9 w.heap.size none A1 n1 ks, SlOld cdEnc 6 354 w.heap.size none A n l, BlkOld w.heap.size none gl 74 [.slice A n c0]]) (fun (i : Nat) => n1 - i) 0 ⟨Nat.zero_le _, by unfold askE; rw [if_neg (by omega)]; rfl⟩ ⟨rfl, rfl, rfl, rfl, rfl, trivial⟩ (fun _ hm => hm.pick [] [] [0, 1, 2] rfl rfl) ?_
 intro i hinv
 replace hinv : i ≤ n1 ∧ askE (fun k => l.any (codeP k)) ks = askG (fun k => l.any (codeP k)) (ks.take i) (ks.drop i) := hinv
 refine sr_ (wl_ov (ov_lss rfl rfl) rfl (nn_ (gw_seq ?_)))
 refine gw_cond rfl (fun hh => ?_) (fun hh => ?_)
 ·have hi : ((i : Nat) : Int) < ((n1 : Nat) : Int) := by simpa using hh
  clear hh
  refine gw_skip (nx_then (gw_seq (gw_block (sr_ ?_))))
  obtain ⟨b1, off1, hA, _, _⟩ := hs.get (by omega)
  subst hA
  obtain ⟨k, hx⟩ : ∃ x, ks[i]? = some x := ⟨_, List.getElem?_eq_getElem (by omega)⟩
  have hat := askG_at (has := (fun k => l.any (codeP k))) hx
  refine mv_ rfl ?_
  refine wl_ov (ov_index (j := i) es79 rfl rfl (by omega)) rfl ?_
  refine wl_ov (ov_elem1 (k := 0) (v := .string k) sc9 rfl (fun _ hm => (hm.fact 0 rfl).1) hx rfl rfl) rfl ?_
  refine sg_ rfl (sg_ rfl (nn_ (gw_block (sr_ (mv_ rfl (mv_ rfl ?_))))))
  refine wl_callv rfl cb277 rfl rfl (fun wx hm => (isCode_any l A n c0 gl k wx (hm.fact 1 rfl).1 hn (hm.fact 2 rfl).2)) ?_
  refine wl_ov (ov_un_not rfl) rfl (sg_ rfl (nn_ ?_))
  refine gw_cond rfl (fun hh => ?_) (fun hh => ?_)
  ·have h2 : (l.any (codeP k)) = false := by simpa using hh
   clear hh
   refine sr_ (sg_ rfl (nn_ ?_))
   refine gw_ret ?_
   refine nx_blk_ret (nx_blk_ret (nx_then_ret (nx_then_ret (nx_blk_ret (nx_then_ret ?_)))))
   refine nx_ret1 rfl rfl fun wx hm => ?_
   exact ⟨ret_int (by rw [hinv.2, hat, if_pos (by simpa using h2)]), hm.g⟩
  have h2 : (l.any (codeP k)) = true := by simpa using hh
  clear hh
  refine sr_ (mv_ rfl (mv_ rfl ?_))
  refine wl_ov (ov_sliceHi (hi := i) es79 rfl rfl rfl (by omega)) rfl ?_
  refine mv_ rfl ?_
  refine wl_callv rfl cb113 rfl rfl (fun wx hm => (contains_str (ks.take i) _ i c1 k wx (SlT.takeT (hm.fact 0 rfl).1 (by omega)) (by omega))) ?_
  refine sg_ rfl (nn_ ?_)
  refine gw_cond rfl (fun hh => ?_) (fun hh => ?_)
  ·have h3 : ((ks.take i).any (fun y => k.toList == y.toList)) = true := by simpa using hh
   clear hh
   refine sr_ (sg_ rfl (nn_ ?_))
   refine gw_ret ?_
   refine nx_blk_ret (nx_blk_ret (nx_then_ret (nx_then_ret (nx_blk_ret (nx_then_ret ?_)))))
   refine nx_ret1 rfl rfl fun wx hm => ?_
   exact ⟨ret_int (by rw [hinv.2, hat, if_neg (by simpa using h2), if_pos h3]), hm.g⟩
  have h3 : ((ks.take i).any (fun y => k.toList == y.toList)) = false := by simpa using hh
  clear hh
  refine gw_skip (nx_blk_nrm (nx_blk_nrm (nx_then (gw_region (ad_ rfl rfl (mv_ rfl (wl_nil ?_)))))))
  exact nx_round (i + 1) ⟨by omega, by rw [hinv.2, hat, if_neg (by simpa using h2), if_neg (by rw [h3]; decide)]⟩ (by omega) ⟨rfl, rfl, rfl, rfl, (some_int (by omega)), trivial⟩ (fun _ hm => hm.pick [] [] [0, 1, 2] rfl rfl)
 have hi : ¬ (((i : Nat) : Int) < ((n1 : Nat) : Int)) := by simpa using hh
 clear hh
 refine gw_exit ?_
 refine nx_then_exit (nx_then_exit ?_)
 refine nx_blk_here ?_
 refine nx_then (sr_ (sg_ rfl (nn_ ?_)))
 refine gw_ret ?_
 refine nx_ret1 rfl rfl fun wx hm => ?_
 exact ⟨ret_int (by rw [hinv.2, List.drop_eq_nil_of_le (by omega)]; rfl), hm.g⟩
theorem cd_snoc {l : List Cd} {x : Cd} (h : ∀ y ∈ l, CdOk y) (h1 : x.key.size ≤ 1000000) (h2 : x.cls.size ≤ 1000000) : ∀ y ∈ l ++ [x], CdOk y := fun y hy => by
  rcases List.mem_append.1 hy with hy | hy
  · exact h y hy
  · rw [List.mem_singleton.1 hy]; exact ⟨h1, h2⟩
theorem cd_set {l : List Cd} {x : Cd} {j : Nat} (h : ∀ y ∈ l, CdOk y) (h1 : x.key.size ≤ 1000000) (h2 : x.cls.size ≤ 1000000) : ∀ y ∈ l.set j x, CdOk y := fun y hy => by
  rcases List.mem_or_eq_of_mem_set hy with hy | rfl
  · exact h y hy
  · exact ⟨h1, h2⟩
theorem gcodes_any (w : World) (B sb m : Nat) (hS : Strm 25 w B sb m) (hm : m ≤ 100000000000) :
  Calls Tryz.prog 197 #[.pointer (some ⟨sb, 0, none⟩)] w (fun e w' => ∃ (A : Option Addr) (n c : Nat) (l : List Cd), e = .returned (.slice A n c) ∧ SlT cdEnc 6 354 w' A n l ∧ (∀ x ∈ l, CdOk x) ∧ n ≤ 3 ∧ n ≤ c ∧ Strm 25 w' B sb (m + 50) ∧ w.grownBy w' (some sb)) := by
 refine gw_enter ⟨74, w, (some sb), []⟩ Tryz.func197 rfl Tryz.ntmps197 rfl (memS (X := []) hS allF_nil allL_nil) ?_
 refine sr_ (sg_ rfl (nn_ (sr_ (sg_ rfl (nn_ (gw_seq (sr_ ?_)))))))
 refine wl_buildSlice (e := 9) (cs := [.string ⟨#[97, 49, 48]⟩, .string ⟨#[98, 50, 48]⟩, .string ⟨#[99, 51, 48]⟩]) rfl (by kernel_rfl) rfl fun g1 => ?_
 refine wl_ov (ov_len es79 rfl) rfl ?_
 refine wl_set 9 (v' := .int .i64 3) rfl rfl ?_
 refine mv_ rfl (nn_ (gw_block ?_))
 refine gw_nilOwn 354 6 ?_
 refine gw_loop (γ := Nat × Nat × Value × List Cd × List Value) (fun g => g.1 ≤ 3 ∧ g.2.1 ≤ g.1 ∧ g.2.2.2.1.length = g.2.1 ∧ (∀ x ∈ g.2.2.2.1, CdOk x) ∧ g.2.2.2.2 = g.2.2.2.1.flatMap cdEnc) (fun g => [(0, .pointer (some ⟨sb, 0, none⟩)), (2, .slice none 0 0), (3, g.2.2.1), (8, .slice (some ⟨g1, 0, none⟩) 3 3), (9, .int .i64 3), (10, .int .i64 ((g.1 : Nat) : Int))]) (fun g => fun w => Strm 25 w B sb (m + 10 * g.1)) (fun g => [(g1, 9, [.string ⟨#[97, 49, 48]⟩, .string ⟨#[98, 50, 48]⟩, .string ⟨#[99, 51, 48]⟩])]) (fun g => [⟨g.2.2.1, 354, 6, g.2.1, g.2.2.2.2⟩]) (fun g => []) (fun g => 3 - g.1) (0, 0, .slice none 0 0, [], []) ⟨Nat.zero_le _, Nat.zero_le _, rfl, (fun _ h => by cases h), rfl⟩ ⟨rfl, rfl, rfl, rfl, rfl, rfl, trivial⟩ (fun _ hm => (hm.more rfl (by first | omega | (dsimp only; omega))).pick [0] [0] [] rfl rfl) ?_
 rintro ⟨k, n, v, l, xs⟩ hinv
 replace hinv : k ≤ 3 ∧ n ≤ k ∧ l.length = n ∧ (∀ x ∈ l, CdOk x) ∧ xs = l.flatMap cdEnc := hinv
 dsimp only
 refine sr_ ?_
 obtain ⟨hi0, hi1, hi2, hi3, rfl⟩ := hinv
 refine wl_ov (ov_lss rfl rfl) rfl (nn_ (gw_seq ?_))
 refine gw_cond rfl (fun hh => ?_) (fun hh => ?_)
 ·have hk : ((k : Nat) : Int) < 3 := by simpa using hh
  clear hh
  refine gw_skip (nx_then (gw_seq (gw_block (sr_ ?_))))
  obtain ⟨nm, hx⟩ : ∃ x, ([⟨#[97, 49, 48]⟩, ⟨#[98, 50, 48]⟩, ⟨#[99, 51, 48]⟩] : List ByteArray)[k]? = some x := ⟨_, List.getElem?_eq_getElem (by simp; omega)⟩
  have hnm : nm.size ≤ 100 := mem_sz (List.mem_of_getElem? hx) (by decide)
  refine wl_ov (ov_index (j := k) es79 rfl rfl (by omega)) rfl ?_
  refine wl_ov (ov_elem1 (k := 0) (v := .string nm) sc9 rfl (fun _ hm => (SlT.ofBlk (l := [⟨#[97, 49, 48]⟩, ⟨#[98, 50, 48]⟩, ⟨#[99, 51, 48]⟩]) sg_len (hm.blkI 0 rfl))) hx rfl rfl) rfl ?_
  refine sg_ rfl (nn_ (gw_seq (sr_ (mv_ rfl ?_))))
  refine wl_got (γ := Bool) (val := fun v => .bool v) (φ := fun v => True) rfl cb64 rfl rfl rfl rfl (fun wx hm => ((flip_any _ wx B sb _ hm.k (by omega) (by omega) (by omega)).mono fun _ _ ⟨v, he, hS, hg⟩ => ⟨v, trivial, he, hS, hg⟩)) fun f2 _ => ?_
  refine nn_ ?_
  refine gw_cond rfl (fun hh => ?_) (fun hh => ?_)
  ·have hf : f2 = true := by simpa using hh
   clear hh
   refine gw_exit ?_
   refine nx_then_exit ?_
   refine nx_blk_here ?_
   refine nx_then (gw_region (ad_ rfl rfl (mv_ rfl (wl_nil ?_))))
   exact nx_round (k + 1, n, v, l, l.flatMap cdEnc) ⟨by dsimp only; omega, by dsimp only; omega, hi2, hi3, rfl⟩ (by dsimp only; omega) ⟨rfl, rfl, rfl, rfl, rfl, (some_int (by omega)), trivial⟩ (fun _ hm => (hm.more rfl (by first | omega | (dsimp only; omega))).pick [0] [0] [] rfl rfl)
  have hf : f2 = false := by simpa using hh
  clear hh
  refine gw_skip (nx_then (sr_ (mv_ rfl ?_)))
  refine wl_buildSlice (e := 3) (cs := [.int .i64 0, .int .i64 0, .int .i64 3]) rfl (by kernel_rfl) rfl fun g3 => ?_
  refine wl_got (γ := Int) (val := fun v => .int .i64 v) (φ := fun v => v ∈ ([0, 0, 3] : List Int)) rfl cb63 rfl rfl rfl rfl (fun wx hm => (pick_any [0, 0, 3] _ _ _ wx B sb _ hm.k (by omega) (by simp) (by simp) (hm.blkI 0 rfl) (hm.neRow 0 rfl rfl))) fun v4 hv4 => ?_
  have bv4 : 0 ≤ v4 ∧ v4 ≤ 3 := mem_rng hv4 (by decide)
  have bv40 := bv4.1
  have bv41 := bv4.2
  clear bv4
  refine sg_ rfl (nn_ (gw_region (mv_ rfl (mv_ rfl (mv_ rfl ?_)))))
  refine wl_buildSlice (e := 9) (cs := [.string ⟨#[]⟩, .string ⟨#[]⟩, .string ⟨#[109, 105, 110, 105]⟩]) rfl (by kernel_rfl) rfl fun g5 => ?_
  refine wl_got (γ := ByteArray) (val := fun v => .string v) (φ := fun v => v ∈ ([⟨#[]⟩, ⟨#[]⟩, ⟨#[109, 105, 110, 105]⟩] : List ByteArray)) rfl cb62 rfl rfl rfl rfl (fun wx hm => (some_any [⟨#[]⟩, ⟨#[]⟩, ⟨#[109, 105, 110, 105]⟩] _ _ _ wx B sb _ hm.k (by omega) (by simp) (by simp) (hm.blkI 0 rfl) (hm.neRow 0 rfl rfl))) fun s6 hs6 => ?_
  have zs6 : s6.size ≤ 100 := mem_sz hs6 (by decide)
  refine mv_ rfl (mv_ rfl (mv_ rfl ?_))
  refine wl_buildSlice (e := 3) (cs := [.int .i64 0, .int .i64 1, .int .i64 10, .int .i64 3000]) rfl (by kernel_rfl) rfl fun g7 => ?_
  refine wl_got (γ := Int) (val := fun v => .int .i64 v) (φ := fun v => v ∈ ([0, 1, 10, 3000] : List Int)) rfl cb63 rfl rfl rfl rfl (fun wx hm => (pick_any [0, 1, 10, 3000] _ _ _ wx B sb _ hm.k (by omega) (by simp) (by simp) (hm.blkI 0 rfl) (hm.neRow 0 rfl rfl))) fun v8 hv8 => ?_
  have bv8 : 0 ≤ v8 ∧ v8 ≤ 3000 := mem_rng hv8 (by decide)
  have bv80 := bv8.1
  have bv81 := bv8.2
  clear bv8
  refine ad_ rfl rfl (mv_ rfl ?_)
  refine wl_buildSlice (e := 3) (cs := [.int .i64 1, .int .i64 1, .int .i64 2, .int .i64 5]) rfl (by kernel_rfl) rfl fun g9 => ?_
  refine wl_got (γ := Int) (val := fun v => .int .i64 v) (φ := fun v => v ∈ ([1, 1, 2, 5] : List Int)) rfl cb63 rfl rfl rfl rfl (fun wx hm => (pick_any [1, 1, 2, 5] _ _ _ wx B sb _ hm.k (by omega) (by simp) (by simp) (hm.blkI 0 rfl) (hm.neRow 0 rfl rfl))) fun v10 hv10 => ?_
  have bv10 : 1 ≤ v10 ∧ v10 ≤ 5 := mem_rng hv10 (by decide)
  have bv100 := bv10.1
  have bv101 := bv10.2
  clear bv10
  refine mv_ rfl ?_
  refine wl_buildSlice (e := 3) (cs := [.int .i64 1, .int .i64 100, .int .i64 100, .int .i64 250, .int .i64 1000]) rfl (by kernel_rfl) rfl fun g11 => ?_
  refine wl_got (γ := Int) (val := fun v => .int .i64 v) (φ := fun v => v ∈ ([1, 100, 100, 250, 1000] : List Int)) rfl cb63 rfl rfl rfl rfl (fun wx hm => (pick_any [1, 100, 100, 250, 1000] _ _ _ wx B sb _ hm.k (by omega) (by simp) (by simp) (hm.blkI 0 rfl) (hm.neRow 0 rfl rfl))) fun v12 hv12 => ?_
  have bv12 : 1 ≤ v12 ∧ v12 ≤ 1000 := mem_rng hv12 (by decide)
  have bv120 := bv12.1
  have bv121 := bv12.2
  clear bv12
  refine wl_ov (ov_build (cs := [.string nm, .string s6, .int .i64 v4, .int .i64 (v4 + v8), .int .i64 v10, .int .i64 v12]) rfl (by kernel_rfl)) rfl ?_
  refine wl_buildSlice (e := 354) (cs := [.string nm, .string s6, .int .i64 v4, .int .i64 (v4 + v8), .int .i64 v10, .int .i64 v12]) rfl (by kernel_rfl) rfl fun g13 => ?_
  refine wl_append (news := [.string nm, .string s6, .int .i64 v4, .int .i64 (v4 + v8), .int .i64 v10, .int .i64 v12]) 0 0 ap74 rfl rfl rfl rfl rfl rfl rfl (by omega) (by unfold maxLen; omega) rfl rfl fun v2 hv2 => ?_
  refine sg_ rfl (wl_nil (nx_blk_nrm (nx_then (gw_region (ad_ rfl rfl (mv_ rfl (wl_nil ?_)))))))
  exact nx_round (k + 1, n + 1, v2, l ++ [⟨nm, s6, v4, v4 + v8, v10, v12⟩], l.flatMap cdEnc ++ ([.string nm, .string s6, .int .i64 v4, .int .i64 (v4 + v8), .int .i64 v10, .int .i64 v12] : List Value)) ⟨by dsimp only; omega, by dsimp only; omega, by simp [hi2], cd_snoc hi3 (show nm.size ≤ 1000000 by omega) (show s6.size ≤ 1000000 by omega), by simp [cdEnc]⟩ (by dsimp only; omega) ⟨rfl, rfl, rfl, rfl, rfl, (some_int (by omega)), trivial⟩ (fun _ hm => (hm.more rfl (by first | omega | (dsimp only; omega))).pick [6] [0] [] rfl rfl)
 have hk : ¬ (((k : Nat) : Int) < 3) := by simpa using hh
 clear hh
 refine gw_exit ?_
 refine nx_then_exit (nx_then_exit ?_)
 refine nx_blk_here ?_
 refine nx_then (gw_seq (sr_ ?_))
 refine wl_look (R := ∃ A cc, v = .slice A n cc) (fun wx hm => own_slice (hm.ownI 0 rfl)) ?_
 rintro ⟨A, c, rfl⟩
 refine mv_ rfl (wl_ov (ov_len es74 rfl) rfl ?_)
 refine wl_ov (ov_gtr rfl rfl) rfl ?_
 refine mv_ rfl ?_
 rcases Bool.eq_false_or_eq_true (decide (0 < ((n : Nat) : Int))) with hb | hb
 ·refine wl_set 43 rfl (congrArg Value.bool hb) ?_
  have hk0 : 0 < n := by simpa using hb
  refine wl_guard_on rfl rfl rfl (mv_ rfl (wl_guard_on rfl rfl rfl ?_))
  refine wl_got (γ := Bool) (val := fun v => .bool v) (φ := fun v => True) rfl cb64 rfl rfl rfl rfl (fun wx hm => ((flip_any _ wx B sb _ hm.k (by omega) (by omega) (by omega)).mono fun _ _ ⟨v, he, hS, hg⟩ => ⟨v, trivial, he, hS, hg⟩)) fun f14 _ => ?_
  refine pt_ rfl rfl (nn_ ?_)
  refine gw_cond rfl (fun hh => ?_) (fun hh => ?_)
  ·have hf : f14 = true := by simpa using hh
   clear hh
   refine sr_ ?_
   refine wl_look (R := ∃ g, A = some ⟨g, 0, none⟩) (fun wx hm => own_addr (hm.ownI 0 rfl) hk0) ?_
   rintro ⟨bo, rfl⟩
   refine mv_ rfl (mv_ rfl (mv_ rfl (wl_ov (ov_len es74 rfl) rfl ?_)))
   refine wl_got (γ := Int) (val := fun v => .int .i64 v) (φ := fun v => IsBelow ((n : Nat) : Int) v) rfl cb29 rfl rfl rfl rfl (fun wx hm => (next_any _ wx B sb _ hm.k (by omega) (by omega) (by omega))) fun vj hvj => ?_
   have hj := isBelow_lt hvj (by omega)
   obtain ⟨i, rfl⟩ := Int.eq_ofNat_of_zero_le hj.1
   have hij : i < n := by omega
   obtain ⟨y, hy⟩ : ∃ y, l[i]? = some y := ⟨_, List.getElem?_eq_getElem (by omega)⟩
   obtain ⟨y0, y1, y2, y3, y4, y5⟩ := y
   obtain ⟨hy0, hy1⟩ := hi3 _ (List.mem_of_getElem? hy)
   have hy0 : y0.size ≤ 1000000 := hy0
   have hy1 : y1.size ≤ 1000000 := hy1
   refine wl_ov (ov_index (j := i) es74 rfl rfl (by omega)) rfl ?_
   refine sg_ rfl (nn_ (gw_region (mv_ rfl (mv_ rfl (mv_ rfl (mv_ rfl (mv_ rfl (wl_ov (ov_nilcheck rfl) rfl (fd_ fo354_0 rfl rfl ?_)))))))))
   refine wl_ov (ov_elem1 (k := 0) (v := .string y0) sc9 rfl (fun _ hm => (SlT.ofOwn cd_len (hm.ownI 0 rfl) hi2)) hy rfl rfl) rfl ?_
   refine wl_buildSlice (e := 9) (cs := [.string y0, .string ⟨#[]⟩, .string ⟨#[122, 101, 100]⟩, .string ⟨#[97, 49, 48]⟩]) rfl (by kernel_rfl) rfl fun g15 => ?_
   refine wl_got (γ := ByteArray) (val := fun v => .string v) (φ := fun v => v ∈ ([y0, ⟨#[]⟩, ⟨#[122, 101, 100]⟩, ⟨#[97, 49, 48]⟩] : List ByteArray)) rfl cb62 rfl rfl rfl rfl (fun wx hm => (some_any [y0, ⟨#[]⟩, ⟨#[122, 101, 100]⟩, ⟨#[97, 49, 48]⟩] _ _ _ wx B sb _ hm.k (by omega) (by simp) (by simp) (hm.blkI 0 rfl) (hm.neRow 0 rfl rfl))) fun sn hsn => ?_
   have hsn : sn.size ≤ 1000000 := by
    simp at hsn
    rcases hsn with rfl | rfl | rfl | rfl
    ·exact hy0
    ·decide
    ·decide
    decide
   refine mv_ rfl ?_
   refine wl_got (γ := Int) (val := fun v => .int .i64 v) (φ := fun v => -2000000000000000 ≤ v ∧ v ≤ 2000000000000000) rfl cb65 rfl rfl rfl rfl (fun wx hm => (odd_any _ _ wx B sb _ hm.k (by omega) (by omega) (by omega) (by omega))) fun v16 hv16 => ?_
   refine mv_ rfl ?_
   refine wl_got (γ := Int) (val := fun v => .int .i64 v) (φ := fun v => -2000000000000000 ≤ v ∧ v ≤ 2000000000000000) rfl cb65 rfl rfl rfl rfl (fun wx hm => (odd_any _ _ wx B sb _ hm.k (by omega) (by omega) (by omega) (by omega))) fun v17 hv17 => ?_
   refine wl_ov (ov_nilcheck rfl) rfl (fd_ fo354_0 rfl rfl ?_)
   refine wl_storeE (l := l) (j := i) (r := 0) (el := ⟨y0, y1, y2, y3, y4, y5⟩) (el' := ⟨sn, y1, y2, y3, y4, y5⟩) 0 sc9 rfl rfl rfl rfl cd_len rfl hy hi2 (by decide) rfl rfl ?_
   refine wl_ov (ov_nilcheck rfl) rfl (fd_ fo354_4 rfl rfl ?_)
   refine wl_storeE (l := (l.set i ⟨sn, y1, y2, y3, y4, y5⟩)) (j := i) (r := 4) (el := ⟨sn, y1, y2, y3, y4, y5⟩) (el' := ⟨sn, y1, y2, y3, v16, y5⟩) 0 sc3 rfl rfl rfl rfl cd_len rfl (List.getElem?_set_self (by first | omega | (simp; omega))) (by simp; exact hi2) (by decide) rfl rfl ?_
   refine wl_ov (ov_nilcheck rfl) rfl (fd_ fo354_5 rfl rfl ?_)
   refine wl_storeE (l := ((l.set i ⟨sn, y1, y2, y3, y4, y5⟩).set i ⟨sn, y1, y2, y3, v16, y5⟩)) (j := i) (r := 5) (el := ⟨sn, y1, y2, y3, v16, y5⟩) (el' := ⟨sn, y1, y2, y3, v16, v17⟩) 0 sc3 rfl rfl rfl rfl cd_len rfl (List.getElem?_set_self (by first | omega | (simp; omega))) (by simp; exact hi2) (by decide) rfl rfl ?_
   refine nn_ (sr_ (mv_ rfl (sg_ rfl (nn_ ?_))))
   refine gw_ret ?_
   refine nx_ret1 rfl rfl fun wx hm => ?_
   exact ⟨some ⟨bo, 0, none⟩, n, c, (((l.set i ⟨sn, y1, y2, y3, y4, y5⟩).set i ⟨sn, y1, y2, y3, v16, y5⟩).set i ⟨sn, y1, y2, y3, v16, v17⟩), rfl, SlT.ofOwn cd_len (hm.ownI 0 rfl) (by simp; exact hi2), cd_set (cd_set (cd_set (hi3) hsn hy1) hsn hy1) hsn hy1, by omega, own_cap (hm.ownI 0 rfl), hm.k.more (by omega), hm.g⟩
  have hf : f14 = false := by simpa using hh
  clear hh
  refine gw_skip (nx_then (sr_ (mv_ rfl (sg_ rfl (nn_ ?_)))))
  refine gw_ret ?_
  refine nx_ret1 rfl rfl fun wx hm => ?_
  exact ⟨A, n, c, l, rfl, SlT.ofOwn cd_len (hm.ownI 0 rfl) hi2, hi3, by omega, own_cap (hm.ownI 0 rfl), hm.k.more (by omega), hm.g⟩
 refine wl_set 43 rfl (congrArg Value.bool hb) ?_
 refine goff rfl rfl rfl (goff rfl rfl rfl (pf_ rfl rfl (nn_ (cf_ rfl (gw_skip (nx_then (sr_ (mv_ rfl (sg_ rfl (nn_ ?_))))))))))
 refine gw_ret ?_
 refine nx_ret1 rfl rfl fun wx hm => ?_
 exact ⟨A, n, c, l, rfl, SlT.ofOwn cd_len (hm.ownI 0 rfl) hi2, hi3, by omega, own_cap (hm.ownI 0 rfl), hm.k.more (by omega), hm.g⟩
theorem gcodeKeys_any (w : World) (B sb m : Nat) (hS : Strm 25 w B sb m) (hm : m ≤ 100000000000) :
  Calls Tryz.prog 100 #[.pointer (some ⟨sb, 0, none⟩)] w (fun e w' => ∃ (A : Option Addr) (n c : Nat) (l : List ByteArray), e = .returned (.slice A n c) ∧ SlT sgEnc 1 9 w' A n l ∧ (∀ x ∈ l, x.size ≤ 100) ∧ n ≤ 3 ∧ n ≤ c ∧ Strm 25 w' B sb (m + 1) ∧ w.grownBy w' (some sb)) := by
 refine gw_enter ⟨14, w, (some sb), []⟩ Tryz.func100 rfl Tryz.ntmps100 rfl (memS (X := []) hS allF_nil allL_nil) ?_
 refine sr_ (sg_ rfl (nn_ (sr_ ?_)))
 refine wl_buildSlice (e := 9) (cs := [.string ⟨#[97, 49, 48]⟩]) rfl (by kernel_rfl) rfl fun g1 => ?_
 refine wl_buildSlice (e := 9) (cs := [.string ⟨#[98, 50, 48]⟩, .string ⟨#[97, 49, 48]⟩]) rfl (by kernel_rfl) rfl fun g2 => ?_
 refine wl_buildSlice (e := 9) (cs := [.string ⟨#[99, 51, 48]⟩, .string ⟨#[98, 50, 48]⟩, .string ⟨#[97, 49, 48]⟩]) rfl (by kernel_rfl) rfl fun g3 => ?_
 refine wl_buildSlice (e := 9) (cs := [.string ⟨#[110, 111, 110, 101]⟩]) rfl (by kernel_rfl) rfl fun g4 => ?_
 refine wl_buildSlice (e := 9) (cs := [.string ⟨#[97, 49, 48]⟩, .string ⟨#[97, 49, 48]⟩]) rfl (by kernel_rfl) rfl fun g5 => ?_
 refine wl_buildSlice (e := 79) (cs := [.slice none 0 0, .slice (some ⟨g1, 0, none⟩) 1 1, .slice (some ⟨g2, 0, none⟩) 2 2, .slice (some ⟨g3, 0, none⟩) 3 3, .slice (some ⟨g4, 0, none⟩) 1 1, .slice (some ⟨g5, 0, none⟩) 2 2]) rfl (by kernel_rfl) rfl fun g6 => ?_
 refine mv_ rfl ?_
 refine wl_buildSlice (e := 3) (cs := [.int .i64 0, .int .i64 1, .int .i64 1, .int .i64 2, .int .i64 2, .int .i64 3, .int .i64 4, .int .i64 5]) rfl (by kernel_rfl) rfl fun g7 => ?_
 refine wl_got (γ := Int) (val := fun v => .int .i64 v) (φ := fun v => v ∈ ([0, 1, 1, 2, 2, 3, 4, 5] : List Int)) rfl cb63 rfl rfl rfl rfl (fun wx hm => (pick_any [0, 1, 1, 2, 2, 3, 4, 5] _ _ _ wx B sb _ hm.k (by omega) (by simp) (by simp) (hm.blkI 0 rfl) (hm.neRow 0 rfl rfl))) fun v hv => ?_
 have bv : 0 ≤ v ∧ v ≤ 5 := mem_rng hv (by decide)
 have bv0 := bv.1
 have bv1 := bv.2
 clear bv
 obtain hv8 | hv8 | hv8 | hv8 | hv8 | hv8 : v = 0 ∨ v = 1 ∨ v = 2 ∨ v = 3 ∨ v = 4 ∨ v = 5 := (by simp at hv; omega)
 ·subst hv8
  refine wl_ov (ov_index (j := 0) es189 rfl rfl (by decide)) rfl ?_
  refine lk_ sc79 1 rfl rfl rfl (sg_ rfl (nn_ ?_))
  refine gw_ret ?_
  refine nx_ret1 rfl rfl fun wx hm => ?_
  exact ⟨none, 0, 0, [], rfl, SlT.nil_ _ _, (fun _ h => by cases h), by omega, by omega, hm.k, hm.g⟩
 ·subst hv8
  refine wl_ov (ov_index (j := 1) es189 rfl rfl (by decide)) rfl ?_
  refine lk_ sc79 1 rfl rfl rfl (sg_ rfl (nn_ ?_))
  refine gw_ret ?_
  refine nx_ret1 rfl rfl fun wx hm => ?_
  exact ⟨some ⟨g1, 0, none⟩, 1, 1, [⟨#[97, 49, 48]⟩], rfl, SlT.ofBlk (l := [⟨#[97, 49, 48]⟩]) sg_len (hm.blkI 6 rfl), (by decide), by omega, by omega, hm.k, hm.g⟩
 ·subst hv8
  refine wl_ov (ov_index (j := 2) es189 rfl rfl (by decide)) rfl ?_
  refine lk_ sc79 1 rfl rfl rfl (sg_ rfl (nn_ ?_))
  refine gw_ret ?_
  refine nx_ret1 rfl rfl fun wx hm => ?_
  exact ⟨some ⟨g2, 0, none⟩, 2, 2, [⟨#[98, 50, 48]⟩, ⟨#[97, 49, 48]⟩], rfl, SlT.ofBlk (l := [⟨#[98, 50, 48]⟩, ⟨#[97, 49, 48]⟩]) sg_len (hm.blkI 5 rfl), (by decide), by omega, by omega, hm.k, hm.g⟩
 ·subst hv8
  refine wl_ov (ov_index (j := 3) es189 rfl rfl (by decide)) rfl ?_
  refine lk_ sc79 1 rfl rfl rfl (sg_ rfl (nn_ ?_))
  refine gw_ret ?_
  refine nx_ret1 rfl rfl fun wx hm => ?_
  exact ⟨some ⟨g3, 0, none⟩, 3, 3, [⟨#[99, 51, 48]⟩, ⟨#[98, 50, 48]⟩, ⟨#[97, 49, 48]⟩], rfl, SlT.ofBlk (l := [⟨#[99, 51, 48]⟩, ⟨#[98, 50, 48]⟩, ⟨#[97, 49, 48]⟩]) sg_len (hm.blkI 4 rfl), (by decide), by omega, by omega, hm.k, hm.g⟩
 ·subst hv8
  refine wl_ov (ov_index (j := 4) es189 rfl rfl (by decide)) rfl ?_
  refine lk_ sc79 1 rfl rfl rfl (sg_ rfl (nn_ ?_))
  refine gw_ret ?_
  refine nx_ret1 rfl rfl fun wx hm => ?_
  exact ⟨some ⟨g4, 0, none⟩, 1, 1, [⟨#[110, 111, 110, 101]⟩], rfl, SlT.ofBlk (l := [⟨#[110, 111, 110, 101]⟩]) sg_len (hm.blkI 3 rfl), (by decide), by omega, by omega, hm.k, hm.g⟩
 subst hv8
 refine wl_ov (ov_index (j := 5) es189 rfl rfl (by decide)) rfl ?_
 refine lk_ sc79 1 rfl rfl rfl (sg_ rfl (nn_ ?_))
 refine gw_ret ?_
 refine nx_ret1 rfl rfl fun wx hm => ?_
 exact ⟨some ⟨g5, 0, none⟩, 2, 2, [⟨#[97, 49, 48]⟩, ⟨#[97, 49, 48]⟩], rfl, SlT.ofBlk (l := [⟨#[97, 49, 48]⟩, ⟨#[97, 49, 48]⟩]) sg_len (hm.blkI 2 rfl), (by decide), by omega, by omega, hm.k, hm.g⟩
end Go.Proofs.YtdoooppeiphefaaGreatDoor
namespace Go.Proofs.YtdoooppeiphefaaGreatDoor
open Go.RowKit
def itEnc (z : Int) : List Value := [.int .i64 z]
theorem it_len (z : Int) : (itEnc z).length = 1 := rfl
theorem slice_cut {b o i mm c : Nat} (h : i < c) : Value.slice (if c = i then (some ⟨b, o, none⟩ : Option Addr) else Option.map (fun a : Addr => a.add (i * 1)) (some ⟨b, o, none⟩)) (i + mm - i) (c - i) = .slice (some ⟨b, o + i, none⟩) mm (c - i) := by
  rw [if_neg (by omega), Nat.add_sub_cancel_left]
  simp only [Option.map_some, Nat.mul_one, Value.slice.injEq, Option.some.injEq, and_self, and_true]
  exact add_addr b o i
theorem SlT.cut {α : Type} {enc : α → List Value} {T : TypeId} {w : World} {b o n i mm : Nat} {l : List α} (h : SlT enc 1 T w (some ⟨b, o, none⟩) n l) (h1 : i + mm ≤ n) (h2 : i < n) : SlT enc 1 T w (some ⟨b, o + i, none⟩) mm ((l.drop i).take mm) := by
  have hb := h.between i (i + mm) (by omega) h1 (Nat.le_refl n)
  rw [if_neg (by omega), Nat.add_sub_cancel_left] at hb
  simp only [Option.map_some, Nat.mul_one] at hb
  rw [add_addr] at hb
  exact hb
theorem index_int (l : List Int) (A : Option Addr) (n c0 : Nat) (x : Int) (w : World) (hl : SlT itEnc 1 3 w A n l) (hn : n ≤ 1000000) :
  Calls Tryz.prog 280 #[.slice A n c0, .int .i64 x] w (GotE w (ixP (fun y => decide (x = y)) l 0)) := by
 refine gw_enter ⟨19, w, none, []⟩ Tryz.func280 rfl Tryz.ntmps280 rfl (mem0 (X := [SlOld itEnc 1 3 w.heap.size none A n l]) (allF_cons hl.old allF_nil) (allL_cons SlOld.lasts allL_nil)) ?_
 refine sr_ ?_
 have hlen := hl.len
 refine sg_ rfl (nn_ (gw_seq (sr_ (mv_ rfl (wl_ov (ov_len es22 rfl) rfl (mv_ rfl (nn_ (gw_block ?_))))))))
 refine gw_loop (γ := Nat) (fun (k : Nat) => k ≤ n ∧ ixP (fun y => decide (x = y)) l 0 = ixP (fun y => decide (x = y)) (l.drop k) k) (fun (k : Nat) => [(0, .slice A n c0), (1, .int .i64 x), (7, .int .i64 ((n : Nat) : Int)), (8, .int .i64 ((k : Nat) : Int))]) (fun (k : Nat) => fun _ => True) (fun (k : Nat) => []) (fun (k : Nat) => []) (fun (k : Nat) => [SlOld itEnc 1 3 w.heap.size none A n l]) (fun (k : Nat) => n - k) 0 ⟨Nat.zero_le _, rfl⟩ ⟨rfl, rfl, rfl, rfl, trivial⟩ (fun _ hm => hm.pick [] [] [0] rfl rfl) ?_
 intro k hinv
 replace hinv : k ≤ n ∧ ixP (fun y => decide (x = y)) l 0 = ixP (fun y => decide (x = y)) (l.drop k) k := hinv
 refine sr_ (wl_ov (ov_lss rfl rfl) rfl (nn_ (gw_seq ?_)))
 refine gw_cond rfl (fun hh => ?_) (fun hh => ?_)
 ·have hk : ((k : Nat) : Int) < ((n : Nat) : Int) := by simpa using hh
  clear hh
  refine gw_skip (nx_then (gw_seq (gw_block (sr_ ?_))))
  obtain ⟨b, off, hA, _, _⟩ := hl.get (by omega)
  subst hA
  obtain ⟨z0, hx⟩ : ∃ x, l[k]? = some x := ⟨_, List.getElem?_eq_getElem (by omega)⟩
  have hat := ixP_at (p := fun y => decide (x = y)) hx
  refine mv_ rfl (sg_ rfl (nn_ (sr_ (mv_ rfl (mv_ rfl (mv_ rfl ?_))))))
  refine wl_ov (ov_index (j := k) es22 rfl rfl (by omega)) rfl ?_
  refine wl_ov (ov_elem1 (k := 0) (v := .int .i64 z0) sc3 rfl (fun _ hm => (hm.fact 0 rfl).1) hx rfl rfl) rfl ?_
  refine wl_ov (ov_eql rfl rfl) rfl (nn_ ?_)
  refine gw_cond rfl (fun hh => ?_) (fun hh => ?_)
  ·have hq : x = z0 := by simpa using hh
   clear hh
   refine sr_ (mv_ rfl (sg_ rfl (nn_ ?_)))
   refine gw_ret ?_
   refine nx_blk_ret (nx_then_ret (nx_then_ret (nx_blk_ret (nx_then_ret ?_))))
   refine nx_ret1 rfl rfl fun wx hm => ?_
   exact ⟨ret_int (by rw [hinv.2, hat, if_pos (decide_eq_true hq)]), hm.g⟩
  have hq : ¬ (x = z0) := by simpa using hh
  clear hh
  refine gw_skip (nx_blk_nrm (nx_then (gw_region (ad_ rfl rfl (mv_ rfl (wl_nil ?_))))))
  exact nx_round (k + 1) ⟨by omega, by rw [hinv.2, hat, if_neg (by rw [decide_eq_false hq]; decide)]⟩ (by omega) ⟨rfl, rfl, rfl, (some_int (by omega)), trivial⟩ (fun _ hm => hm.pick [] [] [0] rfl rfl)
 have hk : ¬ (((k : Nat) : Int) < ((n : Nat) : Int)) := by simpa using hh
 clear hh
 refine gw_exit ?_
 refine nx_then_exit (nx_then_exit ?_)
 refine nx_blk_here ?_
 refine nx_then (sr_ (sg_ rfl ?_))
 refine wl_set 4 (v' := .int .i64 (-1)) rfl rfl ?_
 refine nn_ ?_
 refine gw_ret ?_
 refine nx_ret1 rfl rfl fun wx hm => ?_
 exact ⟨ret_int (by rw [hinv.2, List.drop_eq_nil_of_le (by omega)]; rfl), hm.g⟩
theorem contains_int (l : List Int) (A : Option Addr) (n c0 : Nat) (x : Int) (w : World) (hl : SlT itEnc 1 3 w A n l) (hn : n ≤ 1000000) :
  Calls Tryz.prog 216 #[.slice A n c0, .int .i64 x] w (fun e w' => e = .returned (.bool (decide (x ∈ l))) ∧ w.grownBy w' none) := by
 refine gw_enter ⟨9, w, none, []⟩ Tryz.func216 rfl Tryz.ntmps216 rfl (mem0 (X := [SlOld itEnc 1 3 w.heap.size none A n l]) (allF_cons hl.old allF_nil) (allL_cons SlOld.lasts allL_nil)) ?_
 refine sr_ (sg_ rfl (nn_ (sr_ (mv_ rfl (mv_ rfl ?_)))))
 refine wl_callv rfl cb280 rfl rfl (fun wx hm => (index_int l A n c0 x wx (hm.fact 0 rfl).1 hn)) ?_
 refine wl_ov (ov_geq rfl rfl) rfl ?_
 refine sg_ rfl (nn_ ?_)
 refine gw_ret ?_
 refine nx_ret1 rfl rfl fun wx hm => ?_
 exact ⟨by rw [ix_mem], hm.g⟩
theorem tbegin_any (A : Option Addr) (n c0 : Nat) (fr tt : Int) (vs : Value) (i : Nat) (w : World) (h0 : 0 ≤ fr) (h1 : fr ≤ 5761439) (hi : i ≤ 10000) :
  Calls Tryz.prog 219 #[.agg #[.slice A n c0, .int .i64 fr, .int .i64 tt, vs], .int .i64 ((i : Nat) : Int)] w (fun e w' => e = .returned (.int .i64 (begV fr i)) ∧ w.grownBy w' none) := by
 refine gw_enter ⟨11, w, none, []⟩ Tryz.func219 rfl Tryz.ntmps219 rfl (mem0 (X := []) allF_nil allL_nil) ?_
 refine sr_ ?_
 refine wl_box rfl rfl rfl fun g1 => ?_
 refine sg_ rfl (nn_ (sr_ (fd_ fo199_1 rfl rfl (fd_ fo39_0 rfl rfl (lk_ sc3 0 rfl rfl rfl (mv_ rfl ?_))))))
 refine wl_ov (ov_mul rfl rfl (by omega) (by omega)) rfl ?_
 refine ad_ rfl rfl (sg_ rfl (nn_ ?_))
 refine gw_ret ?_
 refine nx_ret1 rfl rfl fun wx hm => ?_
 exact ⟨rfl, hm.g⟩
theorem tend_any (A : Option Addr) (n c0 : Nat) (fr tt : Int) (vs : Value) (i : Nat) (w : World) (h0 : 0 ≤ fr) (h1 : fr ≤ 5761439) (hi : i ≤ 9000) :
  Calls Tryz.prog 284 #[.agg #[.slice A n c0, .int .i64 fr, .int .i64 tt, vs], .int .i64 ((i : Nat) : Int)] w (fun e w' => e = .returned (.int .i64 (endV fr tt i)) ∧ w.grownBy w' none) := by
 refine gw_enter ⟨13, w, none, []⟩ Tryz.func284 rfl Tryz.ntmps284 rfl (mem0 (X := []) allF_nil allL_nil) ?_
 refine sr_ ?_
 refine wl_box rfl rfl rfl fun g1 => ?_
 refine sg_ rfl (nn_ (gw_seq ?_))
 refine gd (fun wz => Blk wz g1 199 [.slice A n c0, .int .i64 fr, .int .i64 tt, vs] ∧ True) mixed (fun _ hm => ⟨hm.bl 0, trivial⟩) fun z => ?_
 refine wt 0 9 1 rfl z (ov_loads rz199 rfl (fun _ hm => hm.1) rfl rfl) ?_
 refine wt 1 9 3 rfl z (ov_move rfl) ?_
 refine wt 2 9 7 rfl z (ov_add rfl rfl (by omega) (by omega)) ?_
 refine wa_set 7 (v' := .int .i64 ((i + 1 : Nat) : Int)) rfl (congrArg (Value.int .i64) (by omega)) ?_
 refine wt 4 9 23 rfl z (ov_field fo199_1 rfl rfl) ?_
 refine wt 5 9 55 rfl z (ov_field fo39_1 rfl rfl) ?_
 refine wt 6 9 119 rfl z (ov_load sc3 rfl (fun _ hm => hm.1) rfl) ?_
 refine wa1 3 rfl ?_
 refine wl_callv rfl cb219 rfl rfl (fun wx hm => (tbegin_any A n c0 fr tt vs (i + 1) wx h0 h1 (by omega))) ?_
 refine wl_nil ?_
 refine nw 9 127 (fun _ hm => ⟨hm.bl 0, trivial⟩) fun z => ?_
 refine wt 7 9 255 rfl z (ov_min rfl rfl) ?_
 refine wt 8 9 511 rfl z (ov_assign rfl) ?_
 refine wa_done (by kernel_rfl) ?_
 refine nx_then ?_
 refine gw_ret ?_
 refine nx_ret1 rfl rfl fun wx hm => ?_
 exact ⟨by unfold endV begV; simp, hm.g⟩
theorem tweekend_any (x : Int) (w : World) (h0 : 0 ≤ x) (h1 : x ≤ 100000000) :
  Calls Tryz.prog 283 #[.int .i64 x] w (GotE w (wkE x)) := by
 refine gw_enter ⟨32, w, none, []⟩ Tryz.func283 rfl Tryz.ntmps283 rfl (mem0 (X := []) allF_nil allL_nil) ?_
 refine sr_ ?_
 have hr0 : 0 ≤ x % 10080 := Int.emod_nonneg _ (by omega)
 have hr1 : x % 10080 < 10080 := Int.emod_lt_of_pos _ (by omega)
 refine sg_ rfl (nn_ (sr_ (mv_ rfl (mv_ rfl ?_))))
 refine wl_ov (ov_rem rfl rfl (by omega) (by omega) (by omega)) rfl ?_
 refine wl_ov (ov_sub rfl rfl (by omega) (by omega)) rfl ?_
 refine sg_ rfl (nn_ (gw_seq (sr_ (mv_ rfl ?_))))
 refine wl_ov (ov_sub rfl rfl (by omega) (by omega)) rfl ?_
 refine mv_ rfl (ad_ rfl rfl ?_)
 refine wl_buildSlice (e := 3) (cs := [.int .i64 ((x - (x % 10080)) - 4320), .int .i64 ((x - (x % 10080)) + 5760)]) rfl (by kernel_rfl) rfl fun g1 => ?_
 refine wl_ov (ov_len es22 rfl) rfl ?_
 refine wl_set 16 (v' := .int .i64 2) rfl rfl ?_
 refine mv_ rfl (nn_ (gw_block ?_))
 refine gw_rounds 3 ?_
 refine gr_next ?_
 refine sr_ (wl_ov (ov_lss rfl rfl) rfl ?_)
 refine wl_set 18 (v' := .bool true) rfl (congrArg Value.bool (by decide)) ?_
 refine nn_ (gw_seq (ct_ rfl (gw_skip (nx_then (gw_seq (gw_block (sr_ ?_)))))))
 refine wl_ov (ov_index (j := 0) es22 rfl rfl (by decide)) rfl ?_
 refine lk_ sc3 0 rfl rfl rfl (sg_ rfl (nn_ (sr_ (mv_ rfl (ad_ rfl rfl (sg_ rfl (nn_ (sr_ (mv_ rfl ?_)))))))))
 refine mv_ rfl (mv_ rfl (ad_ rfl rfl ?_))
 refine wl_ov (ov_sub rfl rfl (by omega) (by omega)) rfl ?_
 refine wl_callw rfl cb169 rfl rfl (fun wx hm => (in_any _ _ _ wx)) ?_
 refine nn_ ?_
 refine gw_cond rfl (fun hh => ?_) (fun hh => ?_)
 ·have h1 : (inB x (((x - (x % 10080)) - 4320) + 720) (((((x - (x % 10080)) - 4320) + 720) + 4320) - 1)) = true := by simpa using hh
  clear hh
  refine sr_ (mv_ rfl (ad_ rfl rfl (sg_ rfl (nn_ ?_))))
  refine gw_ret ?_
  refine nx_blk_ret (nx_then_ret (nx_then_ret (nx_blk_ret (nx_then_ret ?_))))
  refine nx_ret1 rfl rfl fun wx hm => ?_
  have h1 := inB_iff.1 h1
  refine ⟨ret_int ?_, hm.g⟩
  unfold wkE; rw [if_pos (by omega)]; omega
 have h1 : (inB x (((x - (x % 10080)) - 4320) + 720) (((((x - (x % 10080)) - 4320) + 720) + 4320) - 1)) = false := by simpa using hh
 clear hh
 refine gw_skip (nx_blk_nrm (nx_then (gw_region (ad_ rfl rfl ?_))))
 refine wl_set 31 (v' := .int .i64 1) rfl rfl ?_
 refine mv_ rfl (wl_nil ?_)
 refine nx_next ?_
 refine gr_next ?_
 refine sr_ (wl_ov (ov_lss rfl rfl) rfl ?_)
 refine wl_set 18 (v' := .bool true) rfl (congrArg Value.bool (by decide)) ?_
 refine nn_ (gw_seq (ct_ rfl (gw_skip (nx_then (gw_seq (gw_block (sr_ ?_)))))))
 refine wl_ov (ov_index (j := 1) es22 rfl rfl (by decide)) rfl ?_
 refine lk_ sc3 0 rfl rfl rfl (sg_ rfl (nn_ (sr_ (mv_ rfl (ad_ rfl rfl (sg_ rfl (nn_ (sr_ (mv_ rfl ?_)))))))))
 refine mv_ rfl (mv_ rfl (ad_ rfl rfl ?_))
 refine wl_ov (ov_sub rfl rfl (by omega) (by omega)) rfl ?_
 refine wl_callw rfl cb169 rfl rfl (fun wx hm => (in_any _ _ _ wx)) ?_
 refine nn_ ?_
 refine gw_cond rfl (fun hh => ?_) (fun hh => ?_)
 ·have h2 : (inB x (((x - (x % 10080)) + 5760) + 720) (((((x - (x % 10080)) + 5760) + 720) + 4320) - 1)) = true := by simpa using hh
  clear hh
  refine sr_ (mv_ rfl (ad_ rfl rfl (sg_ rfl (nn_ ?_))))
  refine gw_ret ?_
  refine nx_blk_ret (nx_then_ret (nx_then_ret (nx_blk_ret (nx_then_ret ?_))))
  refine nx_ret1 rfl rfl fun wx hm => ?_
  have h1 := inB_false.1 h1
  have h2 := inB_iff.1 h2
  refine ⟨ret_int ?_, hm.g⟩
  unfold wkE; rw [if_neg (by omega), if_pos (by omega)]; omega
 have h2 : (inB x (((x - (x % 10080)) + 5760) + 720) (((((x - (x % 10080)) + 5760) + 720) + 4320) - 1)) = false := by simpa using hh
 clear hh
 refine gw_skip (nx_blk_nrm (nx_then (gw_region (ad_ rfl rfl ?_))))
 refine wl_set 31 (v' := .int .i64 2) rfl rfl ?_
 refine mv_ rfl (wl_nil ?_)
 refine nx_next ?_
 refine gr_next ?_
 refine sr_ (wl_ov (ov_lss rfl rfl) rfl ?_)
 refine wl_set 18 (v' := .bool false) rfl (congrArg Value.bool (by decide)) ?_
 refine nn_ (gw_seq (cf_ rfl ?_))
 refine gw_exit ?_
 refine nx_then_exit (nx_then_exit ?_)
 refine nx_blk_here ?_
 refine nx_then (sr_ (sg_ rfl ?_))
 refine wl_set 2 (v' := .int .i64 (-1)) rfl rfl ?_
 refine nn_ ?_
 refine gw_ret ?_
 refine nx_ret1 rfl rfl fun wx hm => ?_
 have h1 := inB_false.1 h1
 have h2 := inB_false.1 h2
 refine ⟨ret_int ?_, hm.g⟩
 unfold wkE; rw [if_neg (by omega), if_neg (by omega)]
theorem trent_any (l : List Rt) (A : Option Addr) (n c0 : Nat) (c : ByteArray) (fr tt : Int) (w : World) (hl : SlT rtEnc 7 288 w A n l) (hn : n ≤ 1000000) (hpos : ∀ r ∈ l, RtPos r) (ht : timeE fr tt = 0) :
  Calls Tryz.prog 110 #[.slice A n c0, .string c, .agg #[.int .i64 fr, .int .i64 tt]] w (fun e w' => ∃ A2 c2, e = .returned (.agg #[.slice A n c0, .int .i64 fr, .int .i64 tt, .slice A2 (daysV fr tt).toNat c2]) ∧ w.grownBy w' none ∧ SlT itEnc 1 3 w' A2 (daysV fr tt).toNat (seasons l c fr (daysV fr tt).toNat) ∧ (daysV fr tt).toNat ≤ c2) := by
 refine gw_enter ⟨31, w, none, []⟩ Tryz.func110 rfl Tryz.ntmps110 rfl (mem0 (X := [SlOld rtEnc 7 288 w.heap.size none A n l]) (allF_cons hl.old allF_nil) (allL_cons SlOld.lasts allL_nil)) ?_
 refine sr_ ?_
 obtain ⟨h0, h1, h2, h3⟩ := timeE_ok ht
 have hD1 := timeE_days ht
 obtain ⟨D, hDn⟩ := Int.eq_ofNat_of_zero_le (show 0 ≤ daysV fr tt by omega)
 have hDN : (daysV fr tt).toNat = D := by omega
 rw [hDN]
 have hD2 : D ≤ 120 := by omega
 refine wl_box rfl rfl rfl fun g1 => ?_
 refine wl_alloc zc199 rfl fun g2 => ?_
 refine nn_ (sr_ (mv_ rfl ?_))
 refine wl_ov (ov_loads rz39 rfl (fun _ hm => hm.blkI 1 rfl) rfl rfl) rfl ?_
 refine wl_ov (ov_build (cs := [.slice A n c0, .int .i64 fr, .int .i64 tt, .slice none 0 0]) rfl (by kernel_rfl)) rfl ?_
 refine wl_alloc zc199 rfl fun g3 => ?_
 refine wl_stores (cs' := [.slice A n c0, .int .i64 fr, .int .i64 tt, .slice none 0 0]) 0 rz199 rfl rfl rfl rfl rfl rfl rfl rfl ?_
 refine nn_ (gw_seq (sr_ ?_))
 refine wl_ov (ov_loads rz39 rfl (fun _ hm => hm.blkI 2 rfl) rfl rfl) rfl ?_
 refine wl_callv rfl cb188 rfl rfl (fun wx hm => (days_any _ _ wx (by omega) (by omega) (by omega))) ?_
 refine mv_ rfl (nn_ (gw_block ?_))
 refine gw_nilOwn 3 1 ?_
 refine gw_set 13 (v' := .int .i64 ((D : Nat) : Int)) rfl (congrArg (Value.int .i64) hDn) ?_
 refine gw_loop (γ := Nat × Value × List Value) (fun g => g.1 ≤ D ∧ g.2.2 = (seasons l c fr g.1).flatMap itEnc) (fun g => [(0, .slice A n c0), (1, .string c), (6, .pointer (some ⟨g2, 0, none⟩)), (7, .pointer (some ⟨g3, 0, none⟩)), (13, .int .i64 ((D : Nat) : Int)), (14, .int .i64 ((g.1 : Nat) : Int))]) (fun g => fun _ => True) (fun g => [(g3, 199, [.slice A n c0, .int .i64 fr, .int .i64 tt, g.2.1]), (g2, 199, [.slice none 0 0, .int .i64 0, .int .i64 0, .slice none 0 0])]) (fun g => [⟨g.2.1, 3, 1, g.1, g.2.2⟩]) (fun g => [SlOld rtEnc 7 288 w.heap.size none A n l]) (fun g => D - g.1) (0, .slice none 0 0, []) ⟨Nat.zero_le _, rfl⟩ ⟨rfl, rfl, rfl, rfl, rfl, rfl, trivial⟩ (fun _ hm => hm.pick [0, 1] [0] [0] rfl rfl) ?_
 rintro ⟨k, v, xs⟩ hinv
 replace hinv : k ≤ D ∧ xs = (seasons l c fr k).flatMap itEnc := hinv
 dsimp only
 refine sr_ ?_
 obtain ⟨hi0, rfl⟩ := hinv
 refine wl_ov (ov_lss rfl rfl) rfl (nn_ (gw_seq ?_))
 refine gw_cond rfl (fun hh => ?_) (fun hh => ?_)
 ·have hk : ((k : Nat) : Int) < ((D : Nat) : Int) := by simpa using hh
  clear hh
  refine gw_skip (nx_then (gw_seq (gw_block (sr_ ?_))))
  obtain ⟨S, hS⟩ : ∃ S, S = seaV l c fr k := ⟨_, rfl⟩
  have hbv : 0 ≤ begV fr k ∧ begV fr k ≤ 10000000 := by unfold begV; omega
  have hbv0 := hbv.1
  have hbv1 := hbv.2
  refine mv_ rfl (sg_ rfl (nn_ ?_))
  refine gd (fun wz => Blk wz g2 199 [.slice none 0 0, .int .i64 0, .int .i64 0, .slice none 0 0] ∧ (SlOld rtEnc 7 288 w.heap.size none A n l) wz ∧ True) mixed (fun _ hm => ⟨hm.bl 1, hm.fa 0, trivial⟩) fun z => ?_
  refine wt 0 13 1 rfl z (ov_field fo199_2 rfl rfl) ?_
  refine wt 2 13 5 rfl z (ov_move rfl) ?_
  refine wt 3 13 13 rfl z (ov_move rfl) ?_
  refine wt 5 13 45 rfl z (ov_move rfl) ?_
  refine wa_all [1, 4] (by kernel_rfl) rfl ⟨⟨_, rfl, ?_⟩, ⟨_, rfl, ?_⟩, trivial⟩
  ·refine lk_ sc22 0 rfl rfl rfl (wl_nil ?_)
   refine nw 13 47 (fun _ hm => ⟨hm.bl 1, hm.fa 0, trivial⟩) fun z => ?_
   refine wa1 4 rfl ?_
   refine wl_ov (ov_loads rz199 rfl (fun _ hm => hm.blkI 0 rfl) rfl rfl) rfl ?_
   refine wl_nil ?_
   refine nw 13 63 (fun _ hm => ⟨hm.bl 1, hm.fa 0, trivial⟩) fun z => ?_
   refine wa1 6 rfl ?_
   refine wl_callv rfl cb219 rfl rfl (fun wx hm => (tbegin_any A n c0 fr tt v k wx h0 (by omega) (by omega))) ?_
   refine wl_nil ?_
   refine nw 13 127 (fun _ hm => ⟨hm.bl 1, hm.fa 0, trivial⟩) fun z => ?_
   refine wt 7 13 255 rfl z (ov_quo rfl rfl (by omega) (by omega) (by omega)) ?_
   refine wa1 8 rfl ?_
   refine wl_callv (v := .int .i64 S) rfl cb218 rfl rfl (fun wx hm => (by rw [hS]; exact rateOn_any l A n c0 c (begV fr k / 1440) wx (hm.fact 0 rfl).1 hn hpos)) ?_
   refine wl_nil ?_
   refine nw 13 511 (fun _ hm => ⟨hm.bl 1, hm.fa 0, trivial⟩) fun z => ?_
   refine wa1 9 rfl ?_
   refine wl_buildSlice (e := 3) (cs := [.int .i64 S]) rfl (by kernel_rfl) rfl fun g4 => ?_
   refine wl_nil ?_
   refine nw 13 1023 (fun _ hm => ⟨hm.bl 2, hm.fa 0, trivial⟩) fun z => ?_
   refine wa1 10 rfl ?_
   refine wl_append (news := [.int .i64 S]) 0 0 ap22 rfl rfl rfl rfl rfl rfl rfl (by omega) (by unfold maxLen; omega) rfl rfl fun v2 hv2 => ?_
   refine wl_look (R := ∃ A cc, v2 = .slice A (k + 1) cc) (fun wx hm => own_slice (hm.ownI 0 rfl)) ?_
   rintro ⟨A9, c9, rfl⟩
   refine wl_nil ?_
   refine nw 13 2047 (fun _ hm => ⟨hm.bl 2, hm.fa 0, trivial⟩) fun z => ?_
   refine wt 11 13 4095 rfl z (ov_field fo199_2 rfl rfl) ?_
   refine wa1 12 rfl ?_
   refine wl_store 1 sc22 rfl rfl rfl rfl rfl rfl ?_
   refine wl_nil ?_
   refine nw 13 8191 (fun _ hm => ⟨hm.bl 2, hm.fa 0, trivial⟩) fun z => ?_
   refine wa_done (by kernel_rfl) ?_
   refine nx_blk_nrm (nx_then (gw_region (ad_ rfl rfl (mv_ rfl (wl_nil ?_)))))
   exact nx_round (k + 1, .slice A9 (k + 1) c9, (seasons l c fr k).flatMap itEnc ++ ([.int .i64 S] : List Value)) ⟨by dsimp only; omega, by rw [hS, seasons_succ]; simp [itEnc]⟩ (by dsimp only; omega) ⟨rfl, rfl, rfl, rfl, rfl, (some_int (by omega)), trivial⟩ (fun _ hm => hm.pick [1, 2] [0] [0] rfl rfl)
  refine wl_ov (ov_loads rz199 rfl (fun _ hm => hm.blkI 0 rfl) rfl rfl) rfl ?_
  refine wl_nil ?_
  refine nw 13 61 (fun _ hm => ⟨hm.bl 1, hm.fa 0, trivial⟩) fun z => ?_
  refine wa_all [1, 6] (by kernel_rfl) rfl ⟨⟨_, rfl, ?_⟩, ⟨_, rfl, ?_⟩, trivial⟩
  ·refine lk_ sc22 0 rfl rfl rfl (wl_nil ?_)
   refine nw 13 63 (fun _ hm => ⟨hm.bl 1, hm.fa 0, trivial⟩) fun z => ?_
   refine wa1 6 rfl ?_
   refine wl_callv rfl cb219 rfl rfl (fun wx hm => (tbegin_any A n c0 fr tt v k wx h0 (by omega) (by omega))) ?_
   refine wl_nil ?_
   refine nw 13 127 (fun _ hm => ⟨hm.bl 1, hm.fa 0, trivial⟩) fun z => ?_
   refine wt 7 13 255 rfl z (ov_quo rfl rfl (by omega) (by omega) (by omega)) ?_
   refine wa1 8 rfl ?_
   refine wl_callv (v := .int .i64 S) rfl cb218 rfl rfl (fun wx hm => (by rw [hS]; exact rateOn_any l A n c0 c (begV fr k / 1440) wx (hm.fact 0 rfl).1 hn hpos)) ?_
   refine wl_nil ?_
   refine nw 13 511 (fun _ hm => ⟨hm.bl 1, hm.fa 0, trivial⟩) fun z => ?_
   refine wa1 9 rfl ?_
   refine wl_buildSlice (e := 3) (cs := [.int .i64 S]) rfl (by kernel_rfl) rfl fun g5 => ?_
   refine wl_nil ?_
   refine nw 13 1023 (fun _ hm => ⟨hm.bl 2, hm.fa 0, trivial⟩) fun z => ?_
   refine wa1 10 rfl ?_
   refine wl_append (news := [.int .i64 S]) 0 0 ap22 rfl rfl rfl rfl rfl rfl rfl (by omega) (by unfold maxLen; omega) rfl rfl fun v2 hv2 => ?_
   refine wl_look (R := ∃ A cc, v2 = .slice A (k + 1) cc) (fun wx hm => own_slice (hm.ownI 0 rfl)) ?_
   rintro ⟨A9, c9, rfl⟩
   refine wl_nil ?_
   refine nw 13 2047 (fun _ hm => ⟨hm.bl 2, hm.fa 0, trivial⟩) fun z => ?_
   refine wt 11 13 4095 rfl z (ov_field fo199_2 rfl rfl) ?_
   refine wa1 12 rfl ?_
   refine wl_store 1 sc22 rfl rfl rfl rfl rfl rfl ?_
   refine wl_nil ?_
   refine nw 13 8191 (fun _ hm => ⟨hm.bl 2, hm.fa 0, trivial⟩) fun z => ?_
   refine wa_done (by kernel_rfl) ?_
   refine nx_blk_nrm (nx_then (gw_region (ad_ rfl rfl (mv_ rfl (wl_nil ?_)))))
   exact nx_round (k + 1, .slice A9 (k + 1) c9, (seasons l c fr k).flatMap itEnc ++ ([.int .i64 S] : List Value)) ⟨by dsimp only; omega, by rw [hS, seasons_succ]; simp [itEnc]⟩ (by dsimp only; omega) ⟨rfl, rfl, rfl, rfl, rfl, (some_int (by omega)), trivial⟩ (fun _ hm => hm.pick [1, 2] [0] [0] rfl rfl)
  refine wl_callv rfl cb219 rfl rfl (fun wx hm => (tbegin_any A n c0 fr tt v k wx h0 (by omega) (by omega))) ?_
  refine wl_nil ?_
  refine nw 13 125 (fun _ hm => ⟨hm.bl 1, hm.fa 0, trivial⟩) fun z => ?_
  refine wt 7 13 253 rfl z (ov_quo rfl rfl (by omega) (by omega) (by omega)) ?_
  refine wa_all [1, 8] (by kernel_rfl) rfl ⟨⟨_, rfl, ?_⟩, ⟨_, rfl, ?_⟩, trivial⟩
  ·refine lk_ sc22 0 rfl rfl rfl (wl_nil ?_)
   refine nw 13 255 (fun _ hm => ⟨hm.bl 1, hm.fa 0, trivial⟩) fun z => ?_
   refine wa1 8 rfl ?_
   refine wl_callv (v := .int .i64 S) rfl cb218 rfl rfl (fun wx hm => (by rw [hS]; exact rateOn_any l A n c0 c (begV fr k / 1440) wx (hm.fact 0 rfl).1 hn hpos)) ?_
   refine wl_nil ?_
   refine nw 13 511 (fun _ hm => ⟨hm.bl 1, hm.fa 0, trivial⟩) fun z => ?_
   refine wa1 9 rfl ?_
   refine wl_buildSlice (e := 3) (cs := [.int .i64 S]) rfl (by kernel_rfl) rfl fun g6 => ?_
   refine wl_nil ?_
   refine nw 13 1023 (fun _ hm => ⟨hm.bl 2, hm.fa 0, trivial⟩) fun z => ?_
   refine wa1 10 rfl ?_
   refine wl_append (news := [.int .i64 S]) 0 0 ap22 rfl rfl rfl rfl rfl rfl rfl (by omega) (by unfold maxLen; omega) rfl rfl fun v2 hv2 => ?_
   refine wl_look (R := ∃ A cc, v2 = .slice A (k + 1) cc) (fun wx hm => own_slice (hm.ownI 0 rfl)) ?_
   rintro ⟨A9, c9, rfl⟩
   refine wl_nil ?_
   refine nw 13 2047 (fun _ hm => ⟨hm.bl 2, hm.fa 0, trivial⟩) fun z => ?_
   refine wt 11 13 4095 rfl z (ov_field fo199_2 rfl rfl) ?_
   refine wa1 12 rfl ?_
   refine wl_store 1 sc22 rfl rfl rfl rfl rfl rfl ?_
   refine wl_nil ?_
   refine nw 13 8191 (fun _ hm => ⟨hm.bl 2, hm.fa 0, trivial⟩) fun z => ?_
   refine wa_done (by kernel_rfl) ?_
   refine nx_blk_nrm (nx_then (gw_region (ad_ rfl rfl (mv_ rfl (wl_nil ?_)))))
   exact nx_round (k + 1, .slice A9 (k + 1) c9, (seasons l c fr k).flatMap itEnc ++ ([.int .i64 S] : List Value)) ⟨by dsimp only; omega, by rw [hS, seasons_succ]; simp [itEnc]⟩ (by dsimp only; omega) ⟨rfl, rfl, rfl, rfl, rfl, (some_int (by omega)), trivial⟩ (fun _ hm => hm.pick [1, 2] [0] [0] rfl rfl)
  refine wl_callv (v := .int .i64 S) rfl cb218 rfl rfl (fun wx hm => (by rw [hS]; exact rateOn_any l A n c0 c (begV fr k / 1440) wx (hm.fact 0 rfl).1 hn hpos)) ?_
  refine wl_nil ?_
  refine nw 13 509 (fun _ hm => ⟨hm.bl 1, hm.fa 0, trivial⟩) fun z => ?_
  refine wa_all [1, 9] (by kernel_rfl) rfl ⟨⟨_, rfl, ?_⟩, ⟨_, rfl, ?_⟩, trivial⟩
  ·refine lk_ sc22 0 rfl rfl rfl (wl_nil ?_)
   refine nw 13 511 (fun _ hm => ⟨hm.bl 1, hm.fa 0, trivial⟩) fun z => ?_
   refine wa1 9 rfl ?_
   refine wl_buildSlice (e := 3) (cs := [.int .i64 S]) rfl (by kernel_rfl) rfl fun g7 => ?_
   refine wl_nil ?_
   refine nw 13 1023 (fun _ hm => ⟨hm.bl 2, hm.fa 0, trivial⟩) fun z => ?_
   refine wa1 10 rfl ?_
   refine wl_append (news := [.int .i64 S]) 0 0 ap22 rfl rfl rfl rfl rfl rfl rfl (by omega) (by unfold maxLen; omega) rfl rfl fun v2 hv2 => ?_
   refine wl_look (R := ∃ A cc, v2 = .slice A (k + 1) cc) (fun wx hm => own_slice (hm.ownI 0 rfl)) ?_
   rintro ⟨A9, c9, rfl⟩
   refine wl_nil ?_
   refine nw 13 2047 (fun _ hm => ⟨hm.bl 2, hm.fa 0, trivial⟩) fun z => ?_
   refine wt 11 13 4095 rfl z (ov_field fo199_2 rfl rfl) ?_
   refine wa1 12 rfl ?_
   refine wl_store 1 sc22 rfl rfl rfl rfl rfl rfl ?_
   refine wl_nil ?_
   refine nw 13 8191 (fun _ hm => ⟨hm.bl 2, hm.fa 0, trivial⟩) fun z => ?_
   refine wa_done (by kernel_rfl) ?_
   refine nx_blk_nrm (nx_then (gw_region (ad_ rfl rfl (mv_ rfl (wl_nil ?_)))))
   exact nx_round (k + 1, .slice A9 (k + 1) c9, (seasons l c fr k).flatMap itEnc ++ ([.int .i64 S] : List Value)) ⟨by dsimp only; omega, by rw [hS, seasons_succ]; simp [itEnc]⟩ (by dsimp only; omega) ⟨rfl, rfl, rfl, rfl, rfl, (some_int (by omega)), trivial⟩ (fun _ hm => hm.pick [1, 2] [0] [0] rfl rfl)
  refine wl_buildSlice (e := 3) (cs := [.int .i64 S]) rfl (by kernel_rfl) rfl fun g8 => ?_
  refine wl_nil ?_
  refine nw 13 1021 (fun _ hm => ⟨hm.bl 2, hm.fa 0, trivial⟩) fun z => ?_
  refine wa1 1 rfl ?_
  refine lk_ sc22 1 rfl rfl rfl (wl_nil ?_)
  refine nw 13 1023 (fun _ hm => ⟨hm.bl 2, hm.fa 0, trivial⟩) fun z => ?_
  refine wa1 10 rfl ?_
  refine wl_append (news := [.int .i64 S]) 0 0 ap22 rfl rfl rfl rfl rfl rfl rfl (by omega) (by unfold maxLen; omega) rfl rfl fun v2 hv2 => ?_
  refine wl_look (R := ∃ A cc, v2 = .slice A (k + 1) cc) (fun wx hm => own_slice (hm.ownI 0 rfl)) ?_
  rintro ⟨A9, c9, rfl⟩
  refine wl_nil ?_
  refine nw 13 2047 (fun _ hm => ⟨hm.bl 2, hm.fa 0, trivial⟩) fun z => ?_
  refine wt 11 13 4095 rfl z (ov_field fo199_2 rfl rfl) ?_
  refine wa1 12 rfl ?_
  refine wl_store 1 sc22 rfl rfl rfl rfl rfl rfl ?_
  refine wl_nil ?_
  refine nw 13 8191 (fun _ hm => ⟨hm.bl 2, hm.fa 0, trivial⟩) fun z => ?_
  refine wa_done (by kernel_rfl) ?_
  refine nx_blk_nrm (nx_then (gw_region (ad_ rfl rfl (mv_ rfl (wl_nil ?_)))))
  exact nx_round (k + 1, .slice A9 (k + 1) c9, (seasons l c fr k).flatMap itEnc ++ ([.int .i64 S] : List Value)) ⟨by dsimp only; omega, by rw [hS, seasons_succ]; simp [itEnc]⟩ (by dsimp only; omega) ⟨rfl, rfl, rfl, rfl, rfl, (some_int (by omega)), trivial⟩ (fun _ hm => hm.pick [1, 2] [0] [0] rfl rfl)
 have hk : ¬ (((k : Nat) : Int) < ((D : Nat) : Int)) := by simpa using hh
 clear hh
 refine gw_exit ?_
 refine nx_then_exit (nx_then_exit ?_)
 refine nx_blk_here ?_
 refine nx_then (sr_ ?_)
 have hkD : k = D := by omega
 subst hkD
 refine wl_look (R := ∃ A cc, v = .slice A k cc) (fun wx hm => own_slice (hm.ownI 0 rfl)) ?_
 rintro ⟨A2, c2, rfl⟩
 refine wl_ov (ov_loads rz199 rfl (fun _ hm => hm.blkI 0 rfl) rfl rfl) rfl ?_
 refine wl_stores (cs' := [.slice A n c0, .int .i64 fr, .int .i64 tt, .slice A2 k c2]) 1 rz199 rfl rfl rfl rfl rfl rfl rfl rfl ?_
 refine nn_ ?_
 refine gw_ret ?_
 refine nx_retc 1 rfl rz199 rfl rfl rfl fun wx hm => ?_
 exact ⟨A2, c2, rfl, hm.g, SlT.ofOwn it_len (hm.ownI 0 rfl) (seasons_len ..), own_cap (hm.ownI 0 rfl)⟩
end Go.Proofs.YtdoooppeiphefaaGreatDoor
namespace Go.Proofs.YtdoooppeiphefaaGreatDoor
open Go.RowKit
def RateOk (r : Rt) : Prop := (-1 ≤ r.hr ∧ r.hr ≤ 1000000) ∧ (-1 ≤ r.dy ∧ r.dy ≤ 1000000) ∧ (-1 ≤ r.we ∧ r.we ≤ 1000000) ∧ (-1 ≤ r.wk ∧ r.wk ≤ 1000000)
theorem rate_ok {l : List Rt} (h : ratesE l = 0) : ∀ r ∈ l, RateOk r := fun r hr => ((ratesE_ok h).2.2 r hr).2.2
theorem take_one {α : Type} {l : List α} {i mm : Nat} {x : α} (h : l[i]? = some x) (hm : 0 < mm) : x ∈ (l.drop i).take mm := by
  apply List.mem_of_getElem? (i := 0)
  rw [List.getElem?_take, if_pos hm, List.getElem?_drop, Nat.add_zero, h]
theorem same_step {l : List Int} {i j : Nat} {x k : Int} (h : l[i + j]? = some x) : ((l.drop i).take (j + 1)).all (fun y => decide (y = k)) = (((l.drop i).take j).all (fun y => decide (y = k)) && decide (x = k)) := by
  rw [List.take_add_one, List.getElem?_drop, h, List.all_append]; simp
theorem all_same {l : List Int} {k : Int} : l.all (fun y => decide (y = k)) = true ↔ ∀ y ∈ l, some k = some y := by
  rw [List.all_eq_true]
  exact ⟨fun h y hy => by rw [of_decide_eq_true (h y hy)], fun h y hy => decide_eq_true (Option.some.inj (h y hy)).symm⟩
theorem tprice_any (l : List Rt) (A : Option Addr) (n c0 : Nat) (fr tt : Int) (sea : List Int) (A2 : Option Addr) (n2 c2 : Nat) (kd : Int) (i : Nat) (mv : Int) (w : World) (hl : SlT rtEnc 7 288 w A n l) (hs : SlT itEnc 1 3 w A2 n2 sea) (hc2 : n2 ≤ c2) (hn2 : n2 ≤ 120) (hi : i < n2) (hsea : ∀ k ∈ sea, -1 ≤ k ∧ k < (l.length : Int)) (hr : ∀ r ∈ l, RateOk r) (h0 : 0 ≤ fr) (h00 : fr ≤ 5761439) (ht0 : 0 ≤ tt) (ht1 : tt ≤ 5761439) (hto : begV fr i ≤ tt) :
  Calls Tryz.prog 220 #[.agg #[.slice A n c0, .int .i64 fr, .int .i64 tt, .slice A2 n2 c2], .int .i64 kd, .int .i64 ((i : Nat) : Int), .int .i64 mv] w (fun e w' => e = .returned (.tuple #[.int .i64 ((priceO l sea fr tt kd i mv).getD 0), .bool (priceO l sea fr tt kd i mv).isSome]) ∧ w.grownBy w' none) := by
 refine gw_enter ⟨135, w, none, []⟩ Tryz.func220 rfl Tryz.ntmps220 rfl (mem0 (X := [SlOld rtEnc 7 288 w.heap.size none A n l, SlOld itEnc 1 3 w.heap.size none A2 n2 sea]) (allF_cons hl.old (allF_cons hs.old allF_nil)) (allL_cons SlOld.lasts (allL_cons SlOld.lasts allL_nil))) ?_
 refine sr_ ?_
 have hlen := hl.len
 have hslen := hs.len
 refine wl_box rfl rfl rfl fun g1 => ?_
 refine sg_ rfl (sg_ rfl (nn_ (sr_ (fd_ fo199_2 rfl rfl (lk_ sc22 0 rfl rfl rfl (wl_ov (ov_len es22 rfl) rfl (mv_ rfl ?_)))))))
 refine wl_ov (ov_sub rfl rfl (by omega) (by omega)) rfl ?_
 refine sg_ rfl (nn_ (gw_seq (sr_ (mv_ rfl (wl_ov (ov_lss rfl rfl) rfl (mv_ rfl ?_))))))
 rcases Bool.eq_false_or_eq_true (decide (mv < 1)) with h1 | h1
 ·refine wl_set 24 rfl (congrArg Value.bool h1) ?_
  refine goff rfl rfl rfl (goff rfl rfl rfl (goff rfl rfl rfl (pt_ rfl rfl (mv_ rfl (goff rfl rfl rfl (goff rfl rfl rfl (goff rfl rfl rfl (goff rfl rfl rfl (goff rfl rfl rfl (goff rfl rfl rfl (goff rfl rfl rfl (goff rfl rfl rfl (pt_ rfl rfl ?_)))))))))))))
  refine nn_ (ct_ rfl (sr_ (sg_ rfl (sg_ rfl (nn_ ?_)))))
  refine gw_ret ?_
  refine nx_then_ret ?_
  refine nx_ret2 rfl rfl rfl fun wx hm => ?_
  have hP : priceO l sea fr tt kd i mv = none := price_no (.inl (of_decide_eq_true h1))
  refine ⟨?_, hm.g⟩
  rw [hP]; rfl
 refine wl_set 24 rfl (congrArg Value.bool h1) ?_
 have h1 := of_decide_eq_false h1
 obtain ⟨mm, hmm⟩ := Int.eq_ofNat_of_zero_le (show 0 ≤ mv by omega)
 subst hmm
 have hm1 : 0 < mm := by omega
 refine wl_guard_on rfl rfl rfl (mv_ rfl (wl_guard_on rfl rfl rfl (mv_ rfl (wl_guard_on rfl rfl rfl ?_))))
 refine wl_ov (ov_gtr rfl rfl) rfl ?_
 refine pf_ rfl rfl (mv_ rfl ?_)
 rcases Bool.eq_false_or_eq_true (decide (((n2 : Nat) : Int) - ((i : Nat) : Int) < ((mm : Nat) : Int))) with h2 | h2
 ·refine wl_set 29 rfl (congrArg Value.bool h2) ?_
  refine goff rfl rfl rfl (goff rfl rfl rfl (goff rfl rfl rfl (goff rfl rfl rfl (goff rfl rfl rfl (goff rfl rfl rfl (goff rfl rfl rfl (goff rfl rfl rfl (pt_ rfl rfl (nn_ (ct_ rfl (sr_ ?_)))))))))))
  refine sg_ rfl (sg_ rfl (nn_ ?_))
  refine gw_ret ?_
  refine nx_then_ret ?_
  refine nx_ret2 rfl rfl rfl fun wx hm => ?_
  have hP : priceO l sea fr tt kd i ((mm : Nat) : Int) = none := price_no (.inr (.inl (by have h2 := of_decide_eq_true h2; omega)))
  refine ⟨?_, hm.g⟩
  rw [hP]; rfl
 refine wl_set 29 rfl (congrArg Value.bool h2) ?_
 have h2 := of_decide_eq_false h2
 have himm : i + mm ≤ n2 := by omega
 obtain ⟨b2, o2, hA, _, _⟩ := hs.get (by omega)
 subst hA
 refine wl_guard_on rfl rfl rfl (fd_ fo199_2 rfl rfl (wl_guard_on rfl rfl rfl (lk_ sc22 0 rfl rfl rfl (wl_guard_on rfl rfl rfl (mv_ rfl (wl_guard_on rfl rfl rfl (mv_ rfl (wl_guard_on rfl rfl rfl (mv_ rfl (wl_guard_on rfl rfl rfl (ad_ rfl rfl ?_)))))))))))
 refine wl_set 35 (v' := .int .i64 ((i + mm : Nat) : Int)) rfl (congrArg (Value.int .i64) (by omega)) ?_
 refine wl_guard_on rfl rfl rfl ?_
 refine wl_ov (ov_sliceLH (lo := i) (hi := i + mm) es22 rfl rfl rfl rfl rfl (by omega) (by omega)) rfl ?_
 refine wl_set 36 (v' := .slice (some ⟨b2, o2 + i, none⟩) mm (c2 - i)) rfl (slice_cut (by omega)) ?_
 refine wl_guard_on rfl rfl rfl ?_
 refine wl_callv rfl cb216 rfl rfl (fun wx hm => (contains_int ((sea.drop i).take mm) _ mm _ (-1) wx (SlT.cut (hm.fact 1 rfl).1 himm hi) (by omega))) ?_
 refine pf_ rfl rfl (nn_ ?_)
 refine gw_cond rfl (fun hh => ?_) (fun hh => ?_)
 ·have h3 : (-1 : Int) ∈ (sea.drop i).take mm := by simpa using hh
  clear hh
  refine sr_ (sg_ rfl (sg_ rfl (nn_ ?_)))
  refine gw_ret ?_
  refine nx_then_ret ?_
  refine nx_ret2 rfl rfl rfl fun wx hm => ?_
  have hP : priceO l sea fr tt kd i ((mm : Nat) : Int) = none := price_no (.inr (.inr (by simpa using h3)))
  refine ⟨?_, hm.g⟩
  rw [hP]; rfl
 have h3 : ¬ ((-1 : Int) ∈ (sea.drop i).take mm) := by simpa using hh
 clear hh
 refine gw_skip (nx_then (gw_seq ?_))
 have hbad : ¬ (((mm : Nat) : Int) < 1 ∨ (sea.length : Int) - (i : Int) < ((mm : Nat) : Int) ∨ (-1 : Int) ∈ (sea.drop i).take (((mm : Nat) : Int)).toNat) := by
  rw [Int.toNat_natCast]
  rintro (h | h | h)
  ·omega
  ·omega
  exact h3 h
 obtain ⟨k0, hk0⟩ : ∃ x, sea[i]? = some x := ⟨_, List.getElem?_eq_getElem (by omega)⟩
 obtain ⟨hk1, hk2⟩ := hsea k0 (List.mem_of_getElem? hk0)
 have hk3 : k0 ≠ -1 := fun h => h3 (h ▸ take_one hk0 hm1)
 obtain ⟨kk, hkk⟩ := Int.eq_ofNat_of_zero_le (show 0 ≤ k0 by omega)
 subst hkk
 have hkn : kk < n := by omega
 obtain ⟨y, hy⟩ : ∃ x, l[kk]? = some x := ⟨_, List.getElem?_eq_getElem (by omega)⟩
 obtain ⟨⟨q1, q2⟩, ⟨q3, q4⟩, ⟨q5, q6⟩, ⟨q7, q8⟩⟩ := hr y (List.mem_of_getElem? hy)
 obtain ⟨cl, rf, rt, ho, dd, we, wk⟩ := y
 dsimp only at q1 q2 q3 q4 q5 q6 q7 q8
 have hgo := price_go (fr := fr) (to_ := tt) (kind := kd) hbad hk0 (by rw [Int.toNat_natCast]; exact hy)
 obtain ⟨b, off, hA, _, _⟩ := hl.get (by omega)
 subst hA
 refine gd (fun wz => Blk wz g1 199 [.slice (some ⟨b, off, none⟩) n c0, .int .i64 fr, .int .i64 tt, .slice (some ⟨b2, o2, none⟩) n2 c2] ∧ (SlOld rtEnc 7 288 w.heap.size none (some ⟨b, off, none⟩) n l) wz ∧ (SlOld itEnc 1 3 w.heap.size none (some ⟨b2, o2, none⟩) n2 sea) wz ∧ True) mixed (fun _ hm => ⟨hm.bl 0, hm.fa 0, hm.fa 1, trivial⟩) fun z => ?_
 refine wt 0 11 1 rfl z (ov_field fo199_0 rfl rfl) ?_
 refine wt 1 11 3 rfl z (ov_load sc71 rfl (fun _ hm => hm.1) rfl) ?_
 refine wt 2 11 7 rfl z (ov_field fo199_2 rfl rfl) ?_
 refine wt 3 11 15 rfl z (ov_load sc22 rfl (fun _ hm => hm.1) rfl) ?_
 refine wt 4 11 31 rfl z (ov_move rfl) ?_
 refine wt 5 11 63 rfl z (ov_index (j := i) es22 rfl rfl (by omega)) ?_
 refine wt 6 11 127 rfl z (ov_elem1 (k := 0) (v := .int .i64 ((kk : Nat) : Int)) sc3 rfl (fun _ hm => (hm.2.2.1).1) hk0 rfl rfl) ?_
 refine wt 7 11 255 rfl z (ov_index (j := kk) es71 rfl rfl (by omega)) ?_
 refine wt 8 11 511 rfl z (ov_elem (vs := [.string cl, .int .i64 rf, .int .i64 rt, .int .i64 ho, .int .i64 dd, .int .i64 we, .int .i64 wk]) rz288 rfl (fun _ hm => (hm.2.1).1) hy rfl rfl) ?_
 refine wa1 9 rfl ?_
 refine wl_alloc zc288 rfl fun g2 => ?_
 refine wl_nil ?_
 refine nw 11 1023 (fun _ hm => ⟨hm.bl 1, hm.fa 0, hm.fa 1, trivial⟩) fun z => ?_
 refine wa1 10 rfl ?_
 refine wl_stores (cs' := [.string cl, .int .i64 rf, .int .i64 rt, .int .i64 ho, .int .i64 dd, .int .i64 we, .int .i64 wk]) 0 rz288 rfl rfl rfl rfl rfl rfl rfl rfl ?_
 refine wl_nil ?_
 refine nw 11 2047 (fun _ hm => ⟨hm.bl 1, hm.fa 0, hm.fa 1, trivial⟩) fun z => ?_
 refine wa_done (by kernel_rfl) ?_
 refine nx_then (sr_ (mv_ rfl (wl_ov (ov_eql rfl rfl) rfl (sg_ rfl ?_))))
 refine wl_set 12 (v' := .int .i64 (-1)) rfl rfl ?_
 refine sg_ rfl (nn_ (gw_seq (sr_ (mv_ rfl (nn_ (gw_block (sr_ (wl_ov (ov_eql rfl rfl) rfl (sg_ rfl ?_)))))))))
 refine nn_ ?_
 refine gw_cond rfl (fun hh => ?_) (fun hh => ?_)
 ·have hk : kd = 1 := by simpa using hh
  clear hh
  refine gw_region (fd_ fo288_3 rfl rfl (lk_ sc3 0 rfl rfl rfl (mv_ rfl (mv_ rfl ?_))))
  rcases Bool.eq_false_or_eq_true (decide (((mm : Nat) : Int) = 1)) with hmm1 | hmm1
  ·refine wl_set 56 rfl (congrArg Value.bool hmm1) ?_
   have hmm1 := of_decide_eq_true hmm1
   refine wl_guard_on rfl rfl rfl (mv_ rfl (wl_guard_on rfl rfl rfl (wl_ov (ov_eql rfl rfl) rfl (pt_ rfl rfl (sg_ rfl (sg_ rfl (wl_nil (nx_blk_nrm (nx_then (gw_seq (sr_ (mv_ rfl ?_))))))))))))
   refine wl_ov (ov_un_not rfl) rfl (mv_ rfl ?_)
   rcases Bool.eq_false_or_eq_true (!(decide (((n2 : Nat) : Int) - ((i : Nat) : Int) = 1))) with hL | hL
   ·refine wl_set 117 rfl (congrArg Value.bool hL) ?_
    have hL : ¬ (sea.length = i + 1) := by simp at hL; omega
    refine goff rfl rfl rfl (goff rfl rfl rfl (pt_ rfl rfl (nn_ (ct_ rfl (sr_ (sg_ rfl (sg_ rfl (nn_ ?_))))))))
    refine gw_ret ?_
    refine nx_then_ret ?_
    refine nx_ret2 rfl rfl rfl fun wx hm => ?_
    have hP : priceK ⟨cl, rf, rt, ho, dd, we, wk⟩ sea fr tt kd i ((mm : Nat) : Int) = none := by
     unfold priceK
     rw [if_pos hk, if_neg (fun h => hL h.2.1)]
    refine ⟨?_, hm.g⟩
    rw [hgo, hP]; rfl
   refine wl_set 117 rfl (congrArg Value.bool hL) ?_
   have hL : sea.length = i + 1 := by simp at hL; omega
   refine wl_guard_on rfl rfl rfl (mv_ rfl (wl_guard_on rfl rfl rfl (wl_ov (ov_lss rfl rfl) rfl (pf_ rfl rfl (nn_ ?_)))))
   refine gw_cond rfl (fun hh => ?_) (fun hh => ?_)
   ·have hz : ho < 0 := by simpa using hh
    clear hh
    refine sr_ (sg_ rfl (sg_ rfl (nn_ ?_)))
    refine gw_ret ?_
    refine nx_then_ret ?_
    refine nx_ret2 rfl rfl rfl fun wx hm => ?_
    have hP : priceK ⟨cl, rf, rt, ho, dd, we, wk⟩ sea fr tt kd i ((mm : Nat) : Int) = none := by
     unfold priceK
     rw [if_pos hk]; rw [if_neg (fun h => absurd h.2.2 (show ¬ 0 ≤ ho by omega))]
    refine ⟨?_, hm.g⟩
    rw [hgo, hP]; rfl
   have hz : ¬ (ho < 0) := by simpa using hh
   clear hh
   refine gw_skip (nx_then (gw_seq (sr_ ?_)))
   obtain ⟨E, hE⟩ : ∃ E, E = endV fr tt i := ⟨_, rfl⟩
   obtain ⟨G, hG⟩ : ∃ E, E = begV fr i := ⟨_, rfl⟩
   have hEG : 0 ≤ E - G ∧ E - G ≤ 1440 := by rw [hE, hG]; unfold endV; unfold begV at hto ⊢; omega
   have hG0 : 0 ≤ G := by rw [hG]; unfold begV; omega
   have hE0 : E ≤ 10000000 := by rw [hE]; unfold endV; omega
   have hq0 : 0 ≤ (E - G + 59) / 60 := by omega
   have hq1 : (E - G + 59) / 60 ≤ 24 := by omega
   have hml0 : 0 ≤ ho * ((E - G + 59) / 60) := Int.mul_nonneg (by omega) hq0
   have hml1 : ho * ((E - G + 59) / 60) ≤ 1000000 * 24 := Int.mul_le_mul q2 hq1 hq0 (by omega)
   have hEG0 := hEG.1
   have hEG1 := hEG.2
   refine mv_ rfl (wl_ov (ov_eql rfl rfl) rfl ?_)
   refine wl_set 122 (v' := .bool true) rfl (congrArg Value.bool (decide_eq_true hk)) ?_
   refine nn_ (ct_ rfl ?_)
   refine gd (fun wz => Blk wz g2 288 [.string cl, .int .i64 rf, .int .i64 rt, .int .i64 ho, .int .i64 dd, .int .i64 we, .int .i64 wk] ∧ Blk wz g1 199 [.slice (some ⟨b, off, none⟩) n c0, .int .i64 fr, .int .i64 tt, .slice (some ⟨b2, o2, none⟩) n2 c2] ∧ (SlOld rtEnc 7 288 w.heap.size none (some ⟨b, off, none⟩) n l) wz ∧ (SlOld itEnc 1 3 w.heap.size none (some ⟨b2, o2, none⟩) n2 sea) wz ∧ True) mixed (fun _ hm => ⟨hm.bl 0, hm.bl 1, hm.fa 0, hm.fa 1, trivial⟩) fun z => ?_
   refine wt 0 12 1 rfl z (ov_move rfl) ?_
   refine wt 1 12 3 rfl z (ov_loads rz199 rfl (fun _ hm => hm.2.1) rfl rfl) ?_
   refine wt 2 12 7 rfl z (ov_move rfl) ?_
   refine wt 4 12 23 rfl z (ov_loads rz199 rfl (fun _ hm => hm.2.1) rfl rfl) ?_
   refine wt 5 12 55 rfl z (ov_move rfl) ?_
   refine wa1 3 rfl ?_
   refine wl_callv (v := .int .i64 E) rfl cb284 rfl rfl (fun wx hm => (by rw [hE]; exact tend_any _ _ _ fr tt _ i wx h0 h00 (by omega))) ?_
   refine wl_nil ?_
   refine nw 12 63 (fun _ hm => ⟨hm.bl 0, hm.bl 1, hm.fa 0, hm.fa 1, trivial⟩) fun z => ?_
   refine wa1 6 rfl ?_
   refine wl_callv (v := .int .i64 G) rfl cb219 rfl rfl (fun wx hm => (by rw [hG]; exact tbegin_any _ _ _ fr tt _ i wx h0 h00 (by omega))) ?_
   refine wl_nil ?_
   refine nw 12 127 (fun _ hm => ⟨hm.bl 0, hm.bl 1, hm.fa 0, hm.fa 1, trivial⟩) fun z => ?_
   refine wt 7 12 255 rfl z (ov_sub rfl rfl (by omega) (by omega)) ?_
   refine wt 8 12 511 rfl z (ov_add rfl rfl (by omega) (by omega)) ?_
   refine wt 9 12 1023 rfl z (ov_quo rfl rfl (by omega) (by omega) (by omega)) ?_
   refine wt 10 12 2047 rfl z (ov_mul rfl rfl (by omega) (by omega)) ?_
   refine wt 11 12 4095 rfl z (ov_assign rfl) ?_
   refine wa_done (by kernel_rfl) ?_
   refine nx_then (sr_ (mv_ rfl (sg_ rfl (sg_ rfl (nn_ ?_)))))
   refine gw_ret ?_
   refine nx_ret2 rfl rfl rfl fun wx hm => ?_
   have hP : priceK ⟨cl, rf, rt, ho, dd, we, wk⟩ sea fr tt kd i ((mm : Nat) : Int) = some (ho * ((E - G + 59) / 60)) := by
    unfold priceK
    rw [if_pos hk]; rw [if_pos ⟨hmm1, hL, (show 0 ≤ ho by omega)⟩]; rw [hE, hG]
   refine ⟨?_, hm.g⟩
   rw [hgo, hP]; rfl
  refine wl_set 56 rfl (congrArg Value.bool hmm1) ?_
  have hmm1 := of_decide_eq_false hmm1
  refine goff rfl rfl rfl (goff rfl rfl rfl (pf_ rfl rfl (sg_ rfl (sg_ rfl (wl_nil (nx_blk_nrm (nx_then (gw_seq (sr_ (mv_ rfl (wl_ov (ov_un_not rfl) rfl ?_)))))))))))
  refine wl_set 116 (v' := .bool true) rfl (congrArg Value.bool (by decide)) ?_
  refine mv_ rfl (goff rfl rfl rfl (goff rfl rfl rfl (pt_ rfl rfl (nn_ (ct_ rfl (sr_ (sg_ rfl (sg_ rfl (nn_ ?_)))))))))
  refine gw_ret ?_
  refine nx_then_ret ?_
  refine nx_ret2 rfl rfl rfl fun wx hm => ?_
  have hP : priceK ⟨cl, rf, rt, ho, dd, we, wk⟩ sea fr tt kd i ((mm : Nat) : Int) = none := by
   unfold priceK
   rw [if_pos hk, if_neg (fun h => hmm1 h.1)]
  refine ⟨?_, hm.g⟩
  rw [hgo, hP]; rfl
 have hk : ¬ (kd = 1) := by simpa using hh
 clear hh
 refine sr_ (wl_ov (ov_eql rfl rfl) rfl (sg_ rfl (nn_ ?_)))
 refine gw_cond rfl (fun hh => ?_) (fun hh => ?_)
 ·have hk : kd = 2 := by simpa using hh
  clear hh
  refine gw_region ?_
  have hk1 : ¬ kd = 1 := by omega
  refine fd_ fo288_4 rfl rfl (lk_ sc3 0 rfl rfl rfl (sg_ rfl (wl_nil (nx_blk_nrm (nx_then (gw_seq (sr_ (mv_ rfl (wl_ov (ov_un_not rfl) rfl (mv_ rfl ?_))))))))))
  rcases Bool.eq_false_or_eq_true (!(decide (((mm : Nat) : Int) = 1))) with hmm1 | hmm1
  ·refine wl_set 117 rfl (congrArg Value.bool hmm1) ?_
   have hmm1 : ¬ ((mm : Nat) : Int) = 1 := by simpa using hmm1
   refine goff rfl rfl rfl (goff rfl rfl rfl (pt_ rfl rfl (nn_ (ct_ rfl (sr_ (sg_ rfl (sg_ rfl (nn_ ?_))))))))
   refine gw_ret ?_
   refine nx_then_ret ?_
   refine nx_ret2 rfl rfl rfl fun wx hm => ?_
   have hP : priceK ⟨cl, rf, rt, ho, dd, we, wk⟩ sea fr tt kd i ((mm : Nat) : Int) = none := by
    unfold priceK
    rw [if_neg hk1, if_pos hk, if_neg (fun h => hmm1 h.1)]
   refine ⟨?_, hm.g⟩
   rw [hgo, hP]; rfl
  refine wl_set 117 rfl (congrArg Value.bool hmm1) ?_
  have hmm1 : ((mm : Nat) : Int) = 1 := by simpa using hmm1
  refine wl_guard_on rfl rfl rfl (mv_ rfl (wl_guard_on rfl rfl rfl (wl_ov (ov_lss rfl rfl) rfl (pf_ rfl rfl (nn_ ?_)))))
  refine gw_cond rfl (fun hh => ?_) (fun hh => ?_)
  ·have hz : dd < 0 := by simpa using hh
   clear hh
   refine sr_ (sg_ rfl (sg_ rfl (nn_ ?_)))
   refine gw_ret ?_
   refine nx_then_ret ?_
   refine nx_ret2 rfl rfl rfl fun wx hm => ?_
   have hP : priceK ⟨cl, rf, rt, ho, dd, we, wk⟩ sea fr tt kd i ((mm : Nat) : Int) = none := by
    unfold priceK
    rw [if_neg hk1, if_pos hk]; rw [if_neg (fun h => absurd h.2 (show ¬ 0 ≤ dd by omega))]
   refine ⟨?_, hm.g⟩
   rw [hgo, hP]; rfl
  have hz : ¬ (dd < 0) := by simpa using hh
  clear hh
  refine gw_skip (nx_then (gw_seq (sr_ (mv_ rfl (wl_ov (ov_eql rfl rfl) rfl ?_)))))
  refine wl_set 122 (v' := .bool false) rfl (congrArg Value.bool (decide_eq_false (by omega))) ?_
  refine nn_ (cf_ rfl (gw_skip (nx_then (sr_ (mv_ rfl (sg_ rfl (sg_ rfl (nn_ ?_))))))))
  refine gw_ret ?_
  refine nx_ret2 rfl rfl rfl fun wx hm => ?_
  have hP : priceK ⟨cl, rf, rt, ho, dd, we, wk⟩ sea fr tt kd i ((mm : Nat) : Int) = some (dd) := by
   unfold priceK
   rw [if_neg hk1, if_pos hk]; rw [if_pos ⟨hmm1, (show 0 ≤ dd by omega)⟩]
  refine ⟨?_, hm.g⟩
  rw [hgo, hP]; rfl
 have hk : ¬ (kd = 2) := by simpa using hh
 clear hh
 refine sr_ (wl_ov (ov_eql rfl rfl) rfl (sg_ rfl (nn_ ?_)))
 refine gw_cond rfl (fun hh => ?_) (fun hh => ?_)
 ·have hk : kd = 3 := by simpa using hh
  clear hh
  refine sr_ ?_
  have hk1 : ¬ kd = 1 := by omega
  have hk2 : ¬ kd = 2 := by omega
  obtain ⟨G, hG⟩ : ∃ E, E = begV fr i := ⟨_, rfl⟩
  have hG0 : 0 ≤ G := by rw [hG]; unfold begV; omega
  have hG1 : G ≤ 10000000 := by rw [hG]; unfold begV; omega
  obtain ⟨W, hW⟩ : ∃ E, E = wkE G := ⟨_, rfl⟩
  obtain ⟨E2, hE2⟩ : ∃ E, E = endV fr tt (i + mm - 1) := ⟨_, rfl⟩
  refine wl_ov (ov_loads rz199 rfl (fun _ hm => hm.blkI 1 rfl) rfl rfl) rfl ?_
  refine mv_ rfl ?_
  refine wl_callv (v := .int .i64 G) rfl cb219 rfl rfl (fun wx hm => (by rw [hG]; exact tbegin_any _ _ _ fr tt _ i wx h0 h00 (by omega))) ?_
  refine wl_callv (v := .int .i64 W) rfl cb283 rfl rfl (fun wx hm => (by rw [hW]; exact tweekend_any G wx hG0 (by omega))) ?_
  refine sg_ rfl (nn_ ?_)
  refine gd (fun wz => Blk wz g2 288 [.string cl, .int .i64 rf, .int .i64 rt, .int .i64 ho, .int .i64 dd, .int .i64 we, .int .i64 wk] ∧ Blk wz g1 199 [.slice (some ⟨b, off, none⟩) n c0, .int .i64 fr, .int .i64 tt, .slice (some ⟨b2, o2, none⟩) n2 c2] ∧ (SlOld rtEnc 7 288 w.heap.size none (some ⟨b, off, none⟩) n l) wz ∧ (SlOld itEnc 1 3 w.heap.size none (some ⟨b2, o2, none⟩) n2 sea) wz ∧ True) mixed (fun _ hm => ⟨hm.bl 0, hm.bl 1, hm.fa 0, hm.fa 1, trivial⟩) fun z => ?_
  refine wt 0 16 1 rfl z (ov_field fo288_5 rfl rfl) ?_
  refine wt 1 16 3 rfl z (ov_load sc3 rfl (fun _ hm => hm.1) rfl) ?_
  refine wt 2 16 7 rfl z (ov_move rfl) ?_
  refine wt 3 16 15 rfl z (ov_geq rfl rfl) ?_
  refine wt 4 16 31 rfl z (ov_move rfl) ?_
  rcases Bool.eq_false_or_eq_true (decide (0 ≤ W)) with hW0 | hW0
  ·refine wa_set 74 rfl (congrArg Value.bool hW0) ?_
   have hW0 : 0 ≤ W := of_decide_eq_true hW0
   refine wto 5 16 63 rfl rfl rfl z (ov_loads rz199 rfl (fun _ hm => hm.2.1) rfl rfl) ?_
   refine wto 6 16 127 rfl rfl rfl z (ov_move rfl) ?_
   refine wto 7 16 255 rfl rfl rfl z (ov_move rfl) ?_
   refine wto 8 16 511 rfl rfl rfl z (ov_add rfl rfl (by omega) (by omega)) ?_
   refine wa_set 78 (v' := .int .i64 ((i + mm : Nat) : Int)) rfl (congrArg (Value.int .i64) (by omega)) ?_
   refine wto 9 16 1023 rfl rfl rfl z (ov_sub rfl rfl (by omega) (by omega)) ?_
   refine wa_set 79 (v' := .int .i64 ((i + mm - 1 : Nat) : Int)) rfl (congrArg (Value.int .i64) (by omega)) ?_
   refine wto 11 16 3071 rfl rfl rfl z (ov_move rfl) ?_
   refine wa1 10 rfl ?_
   refine wl_guard_on rfl rfl rfl ?_
   refine wl_callv (v := .int .i64 E2) rfl cb284 rfl rfl (fun wx hm => (by rw [hE2]; exact tend_any _ _ _ fr tt _ (i + mm - 1) wx h0 h00 (by omega))) ?_
   refine wl_nil ?_
   refine nw 16 4095 (fun _ hm => ⟨hm.bl 0, hm.bl 1, hm.fa 0, hm.fa 1, trivial⟩) fun z => ?_
   refine wto 12 16 8191 rfl rfl rfl z (ov_leq rfl rfl) ?_
   refine wt 13 16 16383 rfl z (ov_pick_t rfl rfl) ?_
   refine wt 14 16 32767 rfl z (ov_assign rfl) ?_
   refine wt 15 16 65535 rfl z (ov_assign rfl) ?_
   refine wa_done (by kernel_rfl) ?_
   refine nx_blk_nrm (nx_then (gw_seq (sr_ (mv_ rfl (wl_ov (ov_un_not rfl) rfl (mv_ rfl ?_))))))
   rcases Bool.eq_false_or_eq_true (!(decide (E2 ≤ W))) with hW1 | hW1
   ·refine wl_set 117 rfl (congrArg Value.bool hW1) ?_
    have hW1 : ¬ E2 ≤ W := by simpa using hW1
    refine goff rfl rfl rfl (goff rfl rfl rfl (pt_ rfl rfl (nn_ (ct_ rfl (sr_ (sg_ rfl (sg_ rfl (nn_ ?_))))))))
    refine gw_ret ?_
    refine nx_then_ret ?_
    refine nx_ret2 rfl rfl rfl fun wx hm => ?_
    have hP : priceK ⟨cl, rf, rt, ho, dd, we, wk⟩ sea fr tt kd i ((mm : Nat) : Int) = none := by
     unfold priceK
     rw [if_neg hk1, if_neg hk2, if_pos hk, Int.toNat_natCast, ← hE2, ← hG, ← hW]; rw [if_neg (fun h => hW1 h.1.2)]
    refine ⟨?_, hm.g⟩
    rw [hgo, hP]; rfl
   refine wl_set 117 rfl (congrArg Value.bool hW1) ?_
   have hW1 : E2 ≤ W := by simpa using hW1
   refine wl_guard_on rfl rfl rfl (mv_ rfl (wl_guard_on rfl rfl rfl (wl_ov (ov_lss rfl rfl) rfl (pf_ rfl rfl (nn_ ?_)))))
   refine gw_cond rfl (fun hh => ?_) (fun hh => ?_)
   ·have hz : we < 0 := by simpa using hh
    clear hh
    refine sr_ (sg_ rfl (sg_ rfl (nn_ ?_)))
    refine gw_ret ?_
    refine nx_then_ret ?_
    refine nx_ret2 rfl rfl rfl fun wx hm => ?_
    have hP : priceK ⟨cl, rf, rt, ho, dd, we, wk⟩ sea fr tt kd i ((mm : Nat) : Int) = none := by
     unfold priceK
     rw [if_neg hk1, if_neg hk2, if_pos hk, Int.toNat_natCast, ← hE2, ← hG, ← hW]; rw [if_neg (fun h => absurd h.2 (show ¬ 0 ≤ we by omega))]
    refine ⟨?_, hm.g⟩
    rw [hgo, hP]; rfl
   have hz : ¬ (we < 0) := by simpa using hh
   clear hh
   refine gw_skip (nx_then (gw_seq (sr_ (mv_ rfl (wl_ov (ov_eql rfl rfl) rfl ?_)))))
   refine wl_set 122 (v' := .bool false) rfl (congrArg Value.bool (decide_eq_false (by omega))) ?_
   refine nn_ (cf_ rfl (gw_skip (nx_then (sr_ (mv_ rfl (sg_ rfl (sg_ rfl (nn_ ?_))))))))
   refine gw_ret ?_
   refine nx_ret2 rfl rfl rfl fun wx hm => ?_
   have hP : priceK ⟨cl, rf, rt, ho, dd, we, wk⟩ sea fr tt kd i ((mm : Nat) : Int) = some (we) := by
    unfold priceK
    rw [if_neg hk1, if_neg hk2, if_pos hk, Int.toNat_natCast, ← hE2, ← hG, ← hW]; rw [if_pos ⟨⟨hW0, hW1⟩, (show 0 ≤ we by omega)⟩]
   refine ⟨?_, hm.g⟩
   rw [hgo, hP]; rfl
  refine wa_set 74 rfl (congrArg Value.bool hW0) ?_
  have hW0 : ¬ 0 ≤ W := of_decide_eq_false hW0
  refine wtf 5 16 63 rfl rfl rfl z ?_
  refine wtf 6 16 127 rfl rfl rfl z ?_
  refine wtf 7 16 255 rfl rfl rfl z ?_
  refine wtf 8 16 511 rfl rfl rfl z ?_
  refine wtf 9 16 1023 rfl rfl rfl z ?_
  refine wtf 10 16 2047 rfl rfl rfl z ?_
  refine wtf 11 16 4095 rfl rfl rfl z ?_
  refine wtf 12 16 8191 rfl rfl rfl z ?_
  refine wt 13 16 16383 rfl z (ov_pick_f rfl rfl) ?_
  refine wt 14 16 32767 rfl z (ov_assign rfl) ?_
  refine wt 15 16 65535 rfl z (ov_assign rfl) ?_
  refine wa_done (by kernel_rfl) ?_
  refine nx_blk_nrm (nx_then (gw_seq (sr_ (mv_ rfl (wl_ov (ov_un_not rfl) rfl ?_)))))
  refine wl_set 116 (v' := .bool true) rfl (congrArg Value.bool (by decide)) ?_
  refine mv_ rfl (goff rfl rfl rfl (goff rfl rfl rfl (pt_ rfl rfl (nn_ (ct_ rfl (sr_ (sg_ rfl (sg_ rfl (nn_ ?_)))))))))
  refine gw_ret ?_
  refine nx_then_ret ?_
  refine nx_ret2 rfl rfl rfl fun wx hm => ?_
  have hP : priceK ⟨cl, rf, rt, ho, dd, we, wk⟩ sea fr tt kd i ((mm : Nat) : Int) = none := by
   unfold priceK
   rw [if_neg hk1, if_neg hk2, if_pos hk, Int.toNat_natCast, ← hE2, ← hG, ← hW]; rw [if_neg (fun h => hW0 h.1.1)]
  refine ⟨?_, hm.g⟩
  rw [hgo, hP]; rfl
 have hk : ¬ (kd = 3) := by simpa using hh
 clear hh
 refine sr_ (wl_ov (ov_eql rfl rfl) rfl (sg_ rfl (nn_ ?_)))
 refine gw_cond rfl (fun hh => ?_) (fun hh => ?_)
 ·have hk : kd = 4 := by simpa using hh
  clear hh
  refine sr_ ?_
  have hk1 : ¬ kd = 1 := by omega
  have hk2 : ¬ kd = 2 := by omega
  have hk3 : ¬ kd = 3 := by omega
  refine fd_ fo288_6 rfl rfl (lk_ sc3 0 rfl rfl rfl (mv_ rfl (mv_ rfl ?_)))
  refine wl_ov (ov_min rfl rfl) rfl ?_
  refine wl_ov (ov_eql rfl rfl) rfl (sg_ rfl (sg_ rfl (nn_ (sr_ (fd_ fo199_2 rfl rfl (lk_ sc22 1 rfl rfl rfl (mv_ rfl (mv_ rfl (mv_ rfl (ad_ rfl rfl ?_))))))))))
  refine wl_set 97 (v' := .int .i64 ((i + mm : Nat) : Int)) rfl (congrArg (Value.int .i64) (by omega)) ?_
  refine wl_ov (ov_sliceLH (lo := i) (hi := i + mm) es22 rfl rfl rfl rfl rfl (by omega) (by omega)) rfl ?_
  refine wl_set 98 (v' := .slice (some ⟨b2, o2 + i, none⟩) mm (c2 - i)) rfl (slice_cut (by omega)) ?_
  refine wl_ov (ov_len es22 rfl) rfl (mv_ rfl (nn_ (gw_block ?_)))
  obtain ⟨MN, hMN⟩ : ∃ b : Bool, b = decide (((mm : Nat) : Int) = min 7 (((n2 : Nat) : Int) - ((i : Nat) : Int))) := ⟨_, rfl⟩
  refine gw_set 13 (v' := .bool MN) rfl (congrArg Value.bool hMN.symm) ?_
  refine gw_loop (γ := Nat × Bool) (fun g => g.1 ≤ mm ∧ g.2 = (MN && ((sea.drop i).take g.1).all (fun y => decide (y = ((kk : Nat) : Int))))) (fun g => [(1, .int .i64 kd), (2, .int .i64 ((i : Nat) : Int)), (4, .pointer (some ⟨g1, 0, none⟩)), (8, .int .i64 0), (9, .bool false), (12, .int .i64 wk), (13, .bool g.2), (98, .slice (some ⟨b2, o2 + i, none⟩) mm (c2 - i)), (99, .int .i64 ((mm : Nat) : Int)), (100, .int .i64 ((g.1 : Nat) : Int))]) (fun g => fun _ => True) (fun g => [(g2, 288, [.string cl, .int .i64 rf, .int .i64 rt, .int .i64 ho, .int .i64 dd, .int .i64 we, .int .i64 wk]), (g1, 199, [.slice (some ⟨b, off, none⟩) n c0, .int .i64 fr, .int .i64 tt, .slice (some ⟨b2, o2, none⟩) n2 c2])]) (fun g => []) (fun g => [SlOld rtEnc 7 288 w.heap.size none (some ⟨b, off, none⟩) n l, SlOld itEnc 1 3 w.heap.size none (some ⟨b2, o2, none⟩) n2 sea]) (fun g => mm - g.1) (0, MN) ⟨Nat.zero_le _, by simp⟩ ⟨rfl, rfl, rfl, rfl, rfl, rfl, rfl, rfl, rfl, rfl, trivial⟩ (fun _ hm => hm.pick [0, 1] [] [0, 1] rfl rfl) ?_
  rintro ⟨j, bb⟩ hinv
  replace hinv : j ≤ mm ∧ bb = (MN && ((sea.drop i).take j).all (fun y => decide (y = ((kk : Nat) : Int)))) := hinv
  dsimp only
  refine sr_ ?_
  obtain ⟨hj0, hj1⟩ := hinv
  refine wl_ov (ov_lss rfl rfl) rfl (nn_ (gw_seq ?_))
  refine gw_cond rfl (fun hh => ?_) (fun hh => ?_)
  ·have hj : ((j : Nat) : Int) < ((mm : Nat) : Int) := by simpa using hh
   clear hh
   refine gw_skip (nx_then (gw_seq (gw_block (sr_ ?_))))
   obtain ⟨xj, hxj⟩ : ∃ x, sea[i + j]? = some x := ⟨_, List.getElem?_eq_getElem (by omega)⟩
   have hst := same_step (k := ((kk : Nat) : Int)) hxj
   refine wl_ov (ov_index (j := j) es22 rfl rfl (by omega)) rfl ?_
   refine wl_ov (ov_elem1 (k := 0) (v := .int .i64 xj) sc3 rfl (fun _ hm => (SlT.cut (hm.fact 1 rfl).1 himm hi)) (show ((sea.drop i).take mm)[j]? = some xj by rw [List.getElem?_take, if_pos (by omega), List.getElem?_drop]; exact hxj) rfl rfl) rfl ?_
   refine sg_ rfl (nn_ (gw_region (mv_ rfl (mv_ rfl ?_))))
   rcases Bool.eq_false_or_eq_true bb with hb | hb
   ·refine wl_set 105 rfl (congrArg Value.bool hb) ?_
    refine wl_guard_on rfl rfl rfl (mv_ rfl (wl_guard_on rfl rfl rfl (fd_ fo199_2 rfl rfl (wl_guard_on rfl rfl rfl (lk_ sc22 1 rfl rfl rfl (wl_guard_on rfl rfl rfl (mv_ rfl (wl_guard_on rfl rfl rfl ?_))))))))
    refine wl_ov (ov_index (j := i) es22 rfl rfl (by omega)) rfl ?_
    refine wl_guard_on rfl rfl rfl ?_
    refine wl_ov (ov_elem1 (k := 0) (v := .int .i64 ((kk : Nat) : Int)) sc3 rfl (fun _ hm => (hm.fact 1 rfl).1) hk0 rfl rfl) rfl ?_
    refine wl_guard_on rfl rfl rfl (wl_ov (ov_eql rfl rfl) rfl (pt_ rfl rfl (sg_ rfl (wl_nil (nx_blk_nrm (nx_then (gw_region (ad_ rfl rfl (mv_ rfl (wl_nil ?_))))))))))
    exact nx_round (j + 1, decide (xj = ((kk : Nat) : Int))) ⟨by dsimp only; omega, by dsimp only; rw [hst, ← Bool.and_assoc, ← hj1, hb]; rfl⟩ (by dsimp only; omega) ⟨rfl, rfl, rfl, rfl, rfl, rfl, rfl, rfl, rfl, (some_int (by omega)), trivial⟩ (fun _ hm => hm.pick [0, 1] [] [0, 1] rfl rfl)
   refine wl_set 105 rfl (congrArg Value.bool hb) ?_
   refine goff rfl rfl rfl (goff rfl rfl rfl (goff rfl rfl rfl (goff rfl rfl rfl (goff rfl rfl rfl (goff rfl rfl rfl (goff rfl rfl rfl (pf_ rfl rfl (sg_ rfl (wl_nil (nx_blk_nrm (nx_then (gw_region (ad_ rfl rfl ?_)))))))))))))
   refine mv_ rfl (wl_nil ?_)
   exact nx_round (j + 1, false) ⟨by dsimp only; omega, by dsimp only; rw [hst, ← Bool.and_assoc, ← hj1, hb]; rfl⟩ (by dsimp only; omega) ⟨rfl, rfl, rfl, rfl, rfl, rfl, rfl, rfl, rfl, (some_int (by omega)), trivial⟩ (fun _ hm => hm.pick [0, 1] [] [0, 1] rfl rfl)
  have hj : ¬ (((j : Nat) : Int) < ((mm : Nat) : Int)) := by simpa using hh
  clear hh
  refine gw_exit ?_
  refine nx_then_exit (nx_then_exit ?_)
  refine nx_blk_here ?_
  refine nx_blk_nrm (nx_then (gw_seq (sr_ ?_)))
  have hjm : j = mm := by omega
  subst hjm
  refine mv_ rfl (wl_ov (ov_un_not rfl) rfl (mv_ rfl ?_))
  rcases Bool.eq_false_or_eq_true (!bb) with hb | hb
  ·refine wl_set 117 rfl (congrArg Value.bool hb) ?_
   have hno : ¬ (((j : Nat) : Int) = min 7 (((n2 : Nat) : Int) - ((i : Nat) : Int)) ∧ ∀ y ∈ (sea.drop i).take j, some ((kk : Nat) : Int) = some y) := by
    have hb : bb = false := by simpa using hb
    rw [hj1, hMN] at hb
    rintro ⟨h1, h2⟩
    rw [decide_eq_true h1, all_same.2 h2] at hb
    cases hb
   refine goff rfl rfl rfl (goff rfl rfl rfl (pt_ rfl rfl (nn_ (ct_ rfl (sr_ (sg_ rfl (sg_ rfl (nn_ ?_))))))))
   refine gw_ret ?_
   refine nx_then_ret ?_
   refine nx_ret2 rfl rfl rfl fun wx hm => ?_
   have hP : priceK ⟨cl, rf, rt, ho, dd, we, wk⟩ sea fr tt kd i ((j : Nat) : Int) = none := by
    unfold priceK
    rw [if_neg hk1, if_neg hk2, if_neg hk3, if_pos hk, Int.toNat_natCast, hk0, hslen]; rw [if_neg (fun h => hno h.1)]
   refine ⟨?_, hm.g⟩
   rw [hgo, hP]; rfl
  refine wl_set 117 rfl (congrArg Value.bool hb) ?_
  have hys : ((j : Nat) : Int) = min 7 (((n2 : Nat) : Int) - ((i : Nat) : Int)) ∧ ∀ y ∈ (sea.drop i).take j, some ((kk : Nat) : Int) = some y := by
   have hb : bb = true := by simpa using hb
   rw [hj1, hMN, Bool.and_eq_true] at hb
   exact ⟨of_decide_eq_true hb.1, all_same.1 hb.2⟩
  obtain ⟨hmin, hsame⟩ := hys
  refine wl_guard_on rfl rfl rfl (mv_ rfl (wl_guard_on rfl rfl rfl (wl_ov (ov_lss rfl rfl) rfl (pf_ rfl rfl (nn_ ?_)))))
  refine gw_cond rfl (fun hh => ?_) (fun hh => ?_)
  ·have hz : wk < 0 := by simpa using hh
   clear hh
   refine sr_ (sg_ rfl (sg_ rfl (nn_ ?_)))
   refine gw_ret ?_
   refine nx_then_ret ?_
   refine nx_ret2 rfl rfl rfl fun wx hm => ?_
   have hP : priceK ⟨cl, rf, rt, ho, dd, we, wk⟩ sea fr tt kd i ((j : Nat) : Int) = none := by
    unfold priceK
    rw [if_neg hk1, if_neg hk2, if_neg hk3, if_pos hk, Int.toNat_natCast, hk0, hslen]; rw [if_neg (fun h => absurd h.2 (show ¬ 0 ≤ wk by omega))]
   refine ⟨?_, hm.g⟩
   rw [hgo, hP]; rfl
  have hz : ¬ (wk < 0) := by simpa using hh
  clear hh
  refine gw_skip (nx_then (gw_seq (sr_ (mv_ rfl (wl_ov (ov_eql rfl rfl) rfl ?_)))))
  refine wl_set 122 (v' := .bool false) rfl (congrArg Value.bool (decide_eq_false (by omega))) ?_
  refine nn_ (cf_ rfl (gw_skip (nx_then (sr_ (mv_ rfl (sg_ rfl (sg_ rfl (nn_ ?_))))))))
  refine gw_ret ?_
  refine nx_ret2 rfl rfl rfl fun wx hm => ?_
  have hP : priceK ⟨cl, rf, rt, ho, dd, we, wk⟩ sea fr tt kd i ((j : Nat) : Int) = some (wk) := by
   unfold priceK
   rw [if_neg hk1, if_neg hk2, if_neg hk3, if_pos hk, Int.toNat_natCast, hk0, hslen]; rw [if_pos ⟨⟨hmin, hsame⟩, (show 0 ≤ wk by omega)⟩]
  refine ⟨?_, hm.g⟩
  rw [hgo, hP]; rfl
 have hk : ¬ (kd = 4) := by simpa using hh
 clear hh
 refine gw_skip (nx_blk_nrm (nx_then (gw_seq (sr_ ?_))))
 have hk1 : ¬ kd = 1 := by omega
 have hk2 : ¬ kd = 2 := by omega
 have hk3 : ¬ kd = 3 := by omega
 refine mv_ rfl (wl_ov (ov_un_not rfl) rfl (mv_ rfl ?_))
 rcases Bool.eq_false_or_eq_true (!(decide (((mm : Nat) : Int) = 1))) with hmm1 | hmm1
 ·refine wl_set 117 rfl (congrArg Value.bool hmm1) ?_
  refine goff rfl rfl rfl (goff rfl rfl rfl (pt_ rfl rfl (nn_ (ct_ rfl (sr_ (sg_ rfl (sg_ rfl (nn_ ?_))))))))
  refine gw_ret ?_
  refine nx_then_ret ?_
  refine nx_ret2 rfl rfl rfl fun wx hm => ?_
  have hP : priceK ⟨cl, rf, rt, ho, dd, we, wk⟩ sea fr tt kd i ((mm : Nat) : Int) = none := by
   unfold priceK
   rw [if_neg hk1, if_neg hk2, if_neg hk3, if_neg hk]
  refine ⟨?_, hm.g⟩
  rw [hgo, hP]; rfl
 refine wl_set 117 rfl (congrArg Value.bool hmm1) ?_
 refine wl_guard_on rfl rfl rfl (mv_ rfl (wl_guard_on rfl rfl rfl (wl_ov (ov_lss rfl rfl) rfl ?_)))
 refine wl_set 119 (v' := .bool true) rfl (congrArg Value.bool (by decide)) ?_
 refine pf_ rfl rfl (nn_ (ct_ rfl (sr_ (sg_ rfl (sg_ rfl (nn_ ?_))))))
 refine gw_ret ?_
 refine nx_then_ret ?_
 refine nx_ret2 rfl rfl rfl fun wx hm => ?_
 have hP : priceK ⟨cl, rf, rt, ho, dd, we, wk⟩ sea fr tt kd i ((mm : Nat) : Int) = none := by
  unfold priceK
  rw [if_neg hk1, if_neg hk2, if_neg hk3, if_neg hk]
 refine ⟨?_, hm.g⟩
 rw [hgo, hP]; rfl
end Go.Proofs.YtdoooppeiphefaaGreatDoor
namespace Go.Proofs.YtdoooppeiphefaaGreatDoor
open Go.RowKit
structure Dv where
  cost : Int
  pieces : Int
  kind : Int
  days : Int
  cents : Int
  fine : Bool
def dvEnc (x : Dv) : List Value := [.int .i64 x.cost, .int .i64 x.pieces, .int .i64 x.kind, .int .i64 x.days, .int .i64 x.cents, .bool x.fine]
theorem dv_len (x : Dv) : (dvEnc x).length = 6 := rfl
def dvZ : Dv := ⟨0, 0, 0, 0, 0, false⟩
def DvIs (x : Dv) : Option (List Pc) → Prop
  | none => x.fine = false
  | some ps => x.fine = true ∧ x.cost = pcSum ps ∧ x.pieces = ps.length ∧ ∀ p r, ps = p :: r → x.kind = p.kind ∧ x.days = p.days ∧ x.cents = p.cents
theorem DvIs.none_ {x : Dv} {s : Option (List Pc)} (h : DvIs x s) (hf : x.fine = false) : s = none := by
  cases s with
  | none => rfl
  | some ps => exact absurd (hf.symm.trans h.1) (by decide)
theorem DvIs.some_ {x : Dv} {s : Option (List Pc)} (h : DvIs x s) (hf : x.fine = true) : ∃ ps, s = some ps := by
  cases s with
  | none => rw [show x.fine = false from h] at hf; cases hf
  | some ps => exact ⟨ps, rfl⟩
/-- All rests from i on are known; of the rest at i those whose first piece came up. -/
def DvOk (pr : Int → Nat → Int → Option Int) (n j : Nat) (x : Dv) : Prop := ∃ s, RestOk pr n j s ∧ DvIs x s
def DvRow (pr : Int → Nat → Int → Option Int) (n i : Nat) (k m : Int) (ds : List Dv) : Prop := ds.length = n + 1 ∧ (∀ j x, i < j → ds[j]? = some x → DvOk pr n j x) ∧ (∀ j x, j < i → ds[j]? = some x → x = dvZ) ∧ ∃ x s, ds[i]? = some x ∧ Cur pr n i k m s ∧ DvIs x s
section
variable {pr : Int → Nat → Int → Option Int} {n i : Nat} {k m : Int} {ds : List Dv}
theorem chain_sum (hb : ∀ k i m c, pr k i m = some c → 0 ≤ c ∧ c ≤ 24000000) : ∀ {ps : List Pc} {i j : Nat}, Chain pr i j ps → 0 ≤ pcSum ps ∧ pcSum ps ≤ 24000000 * (ps.length : Int)
  | [], _, _, _ => by simp [pcSum]
  | p :: r, i, j, h => by
    have h1 := hb _ _ _ _ h.1.2.2.2.2
    have h2 := chain_sum hb h.2
    simp only [pcSum, List.length_cons]
    omega
theorem dv_bound {j : Nat} {x : Dv} (hb : ∀ k i m c, pr k i m = some c → 0 ≤ c ∧ c ≤ 24000000) (hn : n ≤ 120) (h : DvOk pr n j x) (hf : x.fine = true) : (0 ≤ x.cost ∧ x.cost ≤ 3000000000) ∧ 0 ≤ x.pieces ∧ x.pieces ≤ 120 := by
  obtain ⟨s, h1, h2⟩ := h
  obtain ⟨ps, rfl⟩ := h2.some_ hf
  have h3 := chain_sum hb h1.1
  have h4 := chain_le h1.1
  obtain ⟨_, e1, e2, _⟩ := h2
  rw [e1, e2]
  omega
theorem dv_step {mm : Nat} (h : DvRow pr n i k mm ds) (hc : ∀ s, Cur pr n i k mm s → Cur pr n i k (mm + 1) s) : DvRow pr n i k ((mm + 1 : Nat) : Int) ds := by
  obtain ⟨h1, h2, h3, x, s, hx, hs, hd⟩ := h
  exact ⟨h1, h2, h3, x, s, hx, by simpa using hc s hs, hd⟩
theorem dv_none {mm : Nat} (h : DvRow pr n i k mm ds) (hno : pr k i mm = none) : DvRow pr n i k ((mm + 1 : Nat) : Int) ds := dv_step h fun _ hs => cur_none hs hno
theorem dv_dead {mm : Nat} {y : Dv} (h : DvRow pr n i k mm ds) (hy : ds[i + mm]? = some y) (hm : 0 < mm) (hf : y.fine = false) : DvRow pr n i k ((mm + 1 : Nat) : Int) ds := dv_step h fun _ hs => by
  obtain ⟨s, h1, h2⟩ := h.2.1 (i + mm) y (by omega) hy
  rw [h2.none_ hf] at h1
  exact cur_dead hs (by simpa using h1)
theorem dv_set {mm : Nat} {y : Dv} {c : Int} {rest : List Pc} (h : DvRow pr n i k mm ds) (hd : DvIs y (some rest)) (hc : Cur pr n i k (mm + 1) (some (⟨k, mm, c⟩ :: rest))) : DvRow pr n i k ((mm + 1 : Nat) : Int) (ds.set i ⟨c + y.cost, 1 + y.pieces, k, mm, c, true⟩) := by
  obtain ⟨h1, h2, h3, x, s, hx, hs, _⟩ := h
  have hi : i < ds.length := (List.getElem?_eq_some_iff.1 hx).1
  obtain ⟨_, e1, e2, _⟩ := hd
  refine ⟨by simp [h1], fun j z hj hz => h2 j z hj (by rw [List.getElem?_set_ne (by omega)] at hz; exact hz), fun j z hj hz => h3 j z hj (by rw [List.getElem?_set_ne (by omega)] at hz; exact hz), _, some (⟨k, mm, c⟩ :: rest), List.getElem?_set_self hi, by simpa using hc, rfl, ?_, ?_, fun p r e => ?_⟩
  · simp only [pcSum, e1]
  · simp only [List.length_cons, e2]; omega
  · injection e with e _; subst e; exact ⟨rfl, rfl, rfl⟩
theorem dv_rest {mm : Nat} {y : Dv} (h : DvRow pr n i k mm ds) (hy : ds[i + mm]? = some y) (hm : 0 < mm) (hf : y.fine = true) : ∃ rest, Best pr (i + mm) n rest ∧ DvIs y (some rest) := by
  obtain ⟨s, h1, h2⟩ := h.2.1 (i + mm) y (by omega) hy
  obtain ⟨rest, rfl⟩ := h2.some_ hf
  exact ⟨rest, h1, h2⟩
theorem dv_first {mm : Nat} {x y : Dv} {c : Int} (h : DvRow pr n i k mm ds) (hk : 1 ≤ k ∧ k ≤ 4) (hm : 1 ≤ mm ∧ mm ≤ 7) (hp : pr k i mm = some c) (hy : ds[i + mm]? = some y) (hf : y.fine = true) (hx : ds[i]? = some x) (hxf : x.fine = false) : DvRow pr n i k ((mm + 1 : Nat) : Int) (ds.set i ⟨c + y.cost, 1 + y.pieces, k, mm, c, true⟩) := by
  obtain ⟨rest, hr, hd⟩ := dv_rest h hy (by omega) hf
  refine dv_set h hd ?_
  obtain ⟨h1, h2, h3, x', s, hx', hs, hd'⟩ := h
  obtain rfl : x = x' := Option.some.inj (hx.symm.trans hx')
  rw [hd'.none_ hxf] at hs
  exact cur_first hs hk (by omega) hp (by simpa using hr)
theorem cmp_dv {a b c d : Int} : firstE [cmpI a b, cmpI c d] < 0 ↔ a < b ∨ (a = b ∧ c < d) := by
  rw [firstE_pair]
  unfold cmpI
  by_cases h1 : a < b
  · rw [if_pos h1]; simp [h1]
  · rw [if_neg h1]
    by_cases h2 : b < a
    · rw [if_pos h2]
      simp
      omega
    · rw [if_neg h2, if_pos rfl]
      by_cases h3 : c < d
      · rw [if_pos h3]; simp; omega
      · rw [if_neg h3]
        by_cases h4 : d < c
        · rw [if_pos h4]; simp; omega
        · rw [if_neg h4]; simp; omega
theorem dv_better {mm : Nat} {x y : Dv} {c : Int} (h : DvRow pr n i k mm ds) (hk : 1 ≤ k ∧ k ≤ 4) (hm : 1 ≤ mm ∧ mm ≤ 7) (hp : pr k i mm = some c) (hy : ds[i + mm]? = some y) (hf : y.fine = true) (hx : ds[i]? = some x) (hxf : x.fine = true) (hl : firstE [cmpI (c + y.cost) x.cost, cmpI (1 + y.pieces) x.pieces] < 0) : DvRow pr n i k ((mm + 1 : Nat) : Int) (ds.set i ⟨c + y.cost, 1 + y.pieces, k, mm, c, true⟩) := by
  obtain ⟨rest, hr, hd⟩ := dv_rest h hy (by omega) hf
  refine dv_set h hd ?_
  obtain ⟨h1, h2, h3, x', s, hx', hs, hd'⟩ := h
  obtain rfl : x = x' := Option.some.inj (hx.symm.trans hx')
  obtain ⟨ps, rfl⟩ := hd'.some_ hxf
  obtain ⟨_, e1, e2, _⟩ := hd
  obtain ⟨_, f1, f2, _⟩ := hd'
  rw [cmp_dv, e1, e2, f1, f2] at hl
  exact cur_better hs hk (by omega) hp (by simpa using hr) (by omega)
theorem dv_keep {mm : Nat} {x y : Dv} {c : Int} (h : DvRow pr n i k mm ds) (hk : 1 ≤ k ∧ k ≤ 4) (hm : 1 ≤ mm ∧ mm ≤ 7) (hp : pr k i mm = some c) (hy : ds[i + mm]? = some y) (hf : y.fine = true) (hx : ds[i]? = some x) (hxf : x.fine = true) (hl : ¬ firstE [cmpI (c + y.cost) x.cost, cmpI (1 + y.pieces) x.pieces] < 0) : DvRow pr n i k ((mm + 1 : Nat) : Int) ds := by
  obtain ⟨rest, hr, hd⟩ := dv_rest h hy (by omega) hf
  obtain ⟨h1, h2, h3, x', s, hx', hs, hd'⟩ := h
  obtain rfl : x = x' := Option.some.inj (hx.symm.trans hx')
  refine ⟨h1, h2, h3, x, s, hx, ?_, hd'⟩
  obtain ⟨ps, rfl⟩ := hd'.some_ hxf
  obtain ⟨_, e1, e2, _⟩ := hd
  obtain ⟨_, f1, f2, _⟩ := hd'
  rw [cmp_dv, e1, e2, f1, f2] at hl
  have := cur_keep hs hk (by omega) hp (by simpa using hr) (by omega)
  simpa using this
theorem dv_kind (h : DvRow pr n i k m ds) (hm : 7 < m ∨ (n : Int) - i < m) : DvRow pr n i (k + 1) 1 ds := by
  obtain ⟨h1, h2, h3, x, s, hx, hs, hd⟩ := h
  exact ⟨h1, h2, h3, x, s, hx, cur_kind hs hm, hd⟩
/-- The rests from r on are known. -/
def DvFrom (pr : Int → Nat → Int → Option Int) (n r : Nat) (ds : List Dv) : Prop := ds.length = n + 1 ∧ (∀ j x, r ≤ j → ds[j]? = some x → DvOk pr n j x) ∧ (∀ j x, j < r → ds[j]? = some x → x = dvZ)
theorem dv_done (h : DvRow pr n i 5 1 ds) (hi : i < n) : DvFrom pr n i ds := by
  obtain ⟨h1, h2, h3, x, s, hx, hs, hd⟩ := h
  refine ⟨h1, fun j z hj hz => ?_, h3⟩
  by_cases hji : j = i
  · subst hji
    obtain rfl : x = z := Option.some.inj (hx.symm.trans hz)
    exact ⟨s, cur_done hs hi, hd⟩
  · exact h2 j z (by omega) hz
theorem dv_begin (h : DvFrom pr n (i + 1) ds) (hi : i < n) : DvRow pr n i 1 1 ds := by
  obtain ⟨h1, h2, h3⟩ := h
  have hx : ds[i]? = some dvZ := by
    obtain ⟨x, hx⟩ : ∃ x, ds[i]? = some x := ⟨_, List.getElem?_eq_getElem (by omega)⟩
    rw [hx, h3 i x (by omega) hx]
  exact ⟨h1, fun j x hj hx => h2 j x (by omega) hx, fun j x hj hx => h3 j x (by omega) hx, dvZ, none, hx, cur_start, rfl⟩
theorem dv_start : DvFrom pr n n ((List.replicate (n + 1) dvZ).set n ⟨0, 0, 0, 0, 0, true⟩) := by
  refine ⟨by simp, fun j x hj hx => ?_, fun j x hj hx => ?_⟩
  · have hjn : j = n := by
      have := (List.getElem?_eq_some_iff.1 hx).1
      simp at this; omega
    subst hjn
    rw [List.getElem?_set_self (by simp)] at hx
    injection hx with hx
    subst hx
    exact ⟨some [], best_end j, rfl, rfl, rfl, fun p r e => by cases e⟩
  · rw [List.getElem?_set_ne (by omega), List.getElem?_replicate] at hx
    split at hx
    · exact (Option.some.inj hx).symm
    · cases hx
end
theorem price_all {l : List Rt} {sea : List Int} {fr tt : Int} (hr : ∀ r ∈ l, RateOk r) (hend : ∀ i, i < sea.length → begV fr i ≤ tt) : ∀ k i m c, priceO l sea fr tt k i m = some c → 0 ≤ c ∧ c ≤ 24000000 := fun k i m c h => by
  obtain ⟨h1, h2, _⟩ := price_some h
  exact price_bound hr (hend i (by omega)) h
theorem tdivide_any (l : List Rt) (A : Option Addr) (n c0 : Nat) (fr tt : Int) (sea : List Int) (A2 : Option Addr) (n2 c2 : Nat) (w : World) (hl : SlT rtEnc 7 288 w A n l) (hs : SlT itEnc 1 3 w A2 n2 sea) (hc2 : n2 ≤ c2) (hn2 : n2 ≤ 120) (hsea : ∀ k ∈ sea, -1 ≤ k ∧ k < (l.length : Int)) (hr : ∀ r ∈ l, RateOk r) (h0 : 0 ≤ fr) (h00 : fr ≤ 5761439) (ht0 : 0 ≤ tt) (ht1 : tt ≤ 5761439) (hend : ∀ i, i < n2 → begV fr i ≤ tt) :
  Calls Tryz.prog 111 #[.agg #[.slice A n c0, .int .i64 fr, .int .i64 tt, .slice A2 n2 c2]] w (fun e w' => ∃ A3 c3 ds, e = .returned (.slice A3 (n2 + 1) c3) ∧ w.grownBy w' none ∧ w'.ownsRow w.heap.size 205 6 (.slice A3 (n2 + 1) c3) (n2 + 1) (ds.flatMap dvEnc) ∧ DvFrom (priceO l sea fr tt) n2 0 ds) := by
 refine gw_enter ⟨105, w, none, []⟩ Tryz.func111 rfl Tryz.ntmps111 rfl (mem0 (X := [SlOld rtEnc 7 288 w.heap.size none A n l, SlOld itEnc 1 3 w.heap.size none A2 n2 sea]) (allF_cons hl.old (allF_cons hs.old allF_nil)) (allL_cons SlOld.lasts (allL_cons SlOld.lasts allL_nil))) ?_
 refine sr_ ?_
 have hlen := hl.len
 have hslen := hs.len
 have hpb := price_all (l := l) (sea := sea) (fr := fr) (tt := tt) hr (fun i hi => hend i (by omega))
 refine wl_box rfl rfl rfl fun g1 => ?_
 refine sg_ rfl (nn_ (sr_ (fd_ fo199_2 rfl rfl (lk_ sc22 0 rfl rfl rfl (wl_ov (ov_len es22 rfl) rfl (sg_ rfl (nn_ (sr_ (mv_ rfl ?_)))))))))
 refine ad_ rfl rfl ?_
 refine wl_makeO (n := (n2 + 1)) (sz := 6) (e := 205) (by_ := 48) (z := .agg #[.int .i64 0, .int .i64 0, .int .i64 0, .int .i64 0, .int .i64 0, .bool false]) (by kernel_rfl) (by kernel_rfl) rfl rfl (by omega) (by omega) (by omega) (by unfold maxLen; omega) (made_flat (enc := dvEnc) (x := dvZ) rfl rfl (by decide) (n2 + 1)) rfl fun g2 => ?_
 refine sg_ rfl (nn_ (sr_ (mv_ rfl (mv_ rfl ?_))))
 refine wl_ov (ov_index (j := n2) es197 rfl rfl (by omega)) rfl ?_
 refine fd_ fo205_3 rfl rfl ?_
 refine wl_storeE (l := (List.replicate (n2 + 1) dvZ)) (j := n2) (r := 5) (el := dvZ) (el' := ⟨0, 0, 0, 0, 0, true⟩) 0 sc4 rfl rfl rfl rfl dv_len rfl (by rw [List.getElem?_replicate, if_pos (by omega)]) List.length_replicate (by decide) rfl rfl ?_
 refine nn_ (gw_seq (sr_ (mv_ rfl ?_)))
 refine wl_ov (ov_sub rfl rfl (by omega) (by omega)) rfl ?_
 refine sg_ rfl (nn_ (gw_block ?_))
 refine gw_loop (γ := Nat × List Dv) (fun g => g.1 ≤ n2 ∧ DvFrom (priceO l sea fr tt) n2 g.1 g.2) (fun g => [(1, .pointer (some ⟨g1, 0, none⟩)), (2, .slice none 0 0), (3, .int .i64 ((n2 : Nat) : Int)), (4, .slice (some ⟨g2, 0, none⟩) (n2 + 1) (n2 + 1)), (5, .int .i64 (((g.1 : Nat) : Int) - 1))]) (fun g => fun _ => True) (fun g => [(g1, 199, [.slice A n c0, .int .i64 fr, .int .i64 tt, .slice A2 n2 c2])]) (fun g => [⟨.slice (some ⟨g2, 0, none⟩) (n2 + 1) (n2 + 1), 205, 6, (n2 + 1), g.2.flatMap dvEnc⟩]) (fun g => [SlOld rtEnc 7 288 w.heap.size none A n l, SlOld itEnc 1 3 w.heap.size none A2 n2 sea]) (fun g => g.1) (n2, (List.replicate (n2 + 1) dvZ).set n2 ⟨0, 0, 0, 0, 0, true⟩) ⟨Nat.le_refl _, dv_start⟩ ⟨rfl, rfl, rfl, rfl, rfl, trivial⟩ (fun _ hm => hm.pick [0] [0] [0, 1] rfl rfl) ?_
 rintro ⟨r, ds⟩ hinv
 replace hinv : r ≤ n2 ∧ DvFrom (priceO l sea fr tt) n2 r ds := hinv
 dsimp only
 refine gw_seq (sr_ ?_)
 obtain ⟨hr0, hr1⟩ := hinv
 refine mv_ rfl ?_
 refine wl_ov (ov_geq rfl rfl) rfl ?_
 refine nn_ ?_
 refine gw_cond rfl (fun hh => ?_) (fun hh => ?_)
 ·have hk : 0 ≤ ((r : Nat) : Int) - 1 := by simpa using hh
  clear hh
  refine gw_skip (nx_then (gw_seq (gw_block (sr_ ?_))))
  obtain ⟨i, hi⟩ : ∃ i, r = i + 1 := ⟨r - 1, by omega⟩
  subst hi
  have hin : i < n2 := by omega
  have hrow := dv_begin hr1 hin
  refine wl_set 5 (v' := .int .i64 ((i : Nat) : Int)) rfl (congrArg (Value.int .i64) (by omega)) ?_
  refine sg_ rfl (nn_ (gw_block ?_))
  refine gw_loop (γ := Int × List Dv) (fun g => (1 ≤ g.1 ∧ g.1 ≤ 5) ∧ DvRow (priceO l sea fr tt) n2 i g.1 1 g.2) (fun g => [(1, .pointer (some ⟨g1, 0, none⟩)), (2, .slice none 0 0), (3, .int .i64 ((n2 : Nat) : Int)), (4, .slice (some ⟨g2, 0, none⟩) (n2 + 1) (n2 + 1)), (5, .int .i64 ((i : Nat) : Int)), (6, .int .i64 g.1)]) (fun g => fun _ => True) (fun g => [(g1, 199, [.slice A n c0, .int .i64 fr, .int .i64 tt, .slice A2 n2 c2])]) (fun g => [⟨.slice (some ⟨g2, 0, none⟩) (n2 + 1) (n2 + 1), 205, 6, (n2 + 1), g.2.flatMap dvEnc⟩]) (fun g => [SlOld rtEnc 7 288 w.heap.size none A n l, SlOld itEnc 1 3 w.heap.size none A2 n2 sea]) (fun g => (5 - g.1).toNat) (1, ds) ⟨⟨by dsimp only; omega, by dsimp only; omega⟩, hrow⟩ ⟨rfl, rfl, rfl, rfl, rfl, rfl, trivial⟩ (fun _ hm => hm.pick [0] [0] [0, 1] rfl rfl) ?_
  rintro ⟨kd, ds2⟩ hinv
  replace hinv : (1 ≤ kd ∧ kd ≤ 5) ∧ DvRow (priceO l sea fr tt) n2 i kd 1 ds2 := hinv
  dsimp only
  refine gw_seq (sr_ ?_)
  obtain ⟨⟨hk1, hk2⟩, hrw⟩ := hinv
  refine mv_ rfl (wl_ov (ov_leq rfl rfl) rfl (nn_ ?_))
  refine gw_cond rfl (fun hh => ?_) (fun hh => ?_)
  ·have hk4 : kd ≤ 4 := by simpa using hh
   clear hh
   refine gw_skip (nx_then (gw_seq (gw_block (sr_ (sg_ rfl (nn_ (gw_block ?_)))))))
   refine gw_loop (γ := Nat × List Dv) (fun g => (1 ≤ g.1 ∧ g.1 ≤ 8) ∧ DvRow (priceO l sea fr tt) n2 i kd ((g.1 : Nat) : Int) g.2) (fun g => [(1, .pointer (some ⟨g1, 0, none⟩)), (2, .slice none 0 0), (3, .int .i64 ((n2 : Nat) : Int)), (4, .slice (some ⟨g2, 0, none⟩) (n2 + 1) (n2 + 1)), (5, .int .i64 ((i : Nat) : Int)), (6, .int .i64 kd), (7, .int .i64 ((g.1 : Nat) : Int))]) (fun g => fun _ => True) (fun g => [(g1, 199, [.slice A n c0, .int .i64 fr, .int .i64 tt, .slice A2 n2 c2])]) (fun g => [⟨.slice (some ⟨g2, 0, none⟩) (n2 + 1) (n2 + 1), 205, 6, (n2 + 1), g.2.flatMap dvEnc⟩]) (fun g => [SlOld rtEnc 7 288 w.heap.size none A n l, SlOld itEnc 1 3 w.heap.size none A2 n2 sea]) (fun g => 8 - g.1) (1, ds2) ⟨⟨by dsimp only; omega, by dsimp only; omega⟩, hrw⟩ ⟨rfl, rfl, rfl, rfl, rfl, rfl, rfl, trivial⟩ (fun _ hm => hm.pick [0] [0] [0, 1] rfl rfl) ?_
   rintro ⟨mm, ds3⟩ hinv
   replace hinv : (1 ≤ mm ∧ mm ≤ 8) ∧ DvRow (priceO l sea fr tt) n2 i kd ((mm : Nat) : Int) ds3 := hinv
   dsimp only
   refine gw_seq (sr_ ?_)
   obtain ⟨⟨hm1, hm2⟩, hrm⟩ := hinv
   refine mv_ rfl (mv_ rfl (mv_ rfl ?_))
   refine wl_ov (ov_sub rfl rfl (by omega) (by omega)) rfl ?_
   refine wl_ov (ov_min rfl rfl) rfl ?_
   refine wl_ov (ov_leq rfl rfl) rfl (nn_ ?_)
   refine gw_cond rfl (fun hh => ?_) (fun hh => ?_)
   ·have hmc : ((mm : Nat) : Int) ≤ min 7 (((n2 : Nat) : Int) - ((i : Nat) : Int)) := by simpa using hh
    clear hh
    refine gw_skip (nx_then (gw_seq (gw_block (sr_ ?_))))
    have hm7 : mm ≤ 7 := by omega
    have himn : i + mm ≤ n2 := by omega
    have hdl := hrm.1
    obtain ⟨y, hy⟩ : ∃ y, ds3[i + mm]? = some y := ⟨_, List.getElem?_eq_getElem (by omega)⟩
    obtain ⟨x, hx⟩ : ∃ x, ds3[i]? = some x := ⟨_, List.getElem?_eq_getElem (by omega)⟩
    have hyo := hrm.2.1 (i + mm) y (by omega) hy
    have hbd := dv_bound hpb hn2 hyo
    obtain ⟨x0, x1, x2, x3, x4, x5⟩ := x
    obtain ⟨y0, y1, y2, y3, y4, y5⟩ := y
    refine wl_ov (ov_loads rz199 rfl (fun _ hm => hm.blkI 0 rfl) rfl rfl) rfl ?_
    refine mv_ rfl (mv_ rfl (mv_ rfl ?_))
    rcases hpo : priceO l sea fr tt kd i ((mm : Nat) : Int) with _ | cc
    ·refine wl_callv (v := .tuple #[.int .i64 0, .bool false]) rfl cb220 rfl rfl (fun wx hm => (by have h := tprice_any l A n c0 fr tt sea A2 n2 c2 kd i ((mm : Nat) : Int) wx (hm.fact 0 rfl).1 (hm.fact 1 rfl).1 hc2 hn2 hin hsea hr h0 h00 ht0 ht1 (hend i hin); rw [hpo] at h; exact h)) ?_
     refine mv_ rfl (wl_ov (ov_extract rfl rfl) rfl (wl_ov (ov_extract rfl rfl) rfl (sg_ rfl (sg_ rfl (nn_ (sr_ (mv_ rfl (mv_ rfl (mv_ rfl (ad_ rfl rfl ?_))))))))))
     refine wl_set 51 (v' := .int .i64 ((i + mm : Nat) : Int)) rfl (congrArg (Value.int .i64) (by omega)) ?_
     refine wl_ov (ov_index (j := i + mm) es197 rfl rfl (by omega)) rfl ?_
     refine wl_ov (ov_elem (vs := [.int .i64 y0, .int .i64 y1, .int .i64 y2, .int .i64 y3, .int .i64 y4, .bool y5]) rz205 rfl (fun _ hm => (SlT.ofOwn dv_len (hm.ownI 0 rfl) hdl)) hy rfl rfl) rfl ?_
     refine wl_alloc zc205 rfl fun g3 => ?_
     refine wl_stores (cs' := [.int .i64 y0, .int .i64 y1, .int .i64 y2, .int .i64 y3, .int .i64 y4, .bool y5]) 0 rz205 rfl rfl rfl rfl rfl rfl rfl rfl ?_
     refine nn_ (gw_seq (sr_ (mv_ rfl (wl_ov (ov_un_not rfl) rfl ?_))))
     refine wl_set 55 (v' := .bool true) rfl (congrArg Value.bool (by decide)) ?_
     refine mv_ rfl (goff rfl rfl rfl (goff rfl rfl rfl (goff rfl rfl rfl (pt_ rfl rfl (nn_ (ct_ rfl ?_))))))
     refine gw_exit ?_
     refine nx_then_exit ?_
     refine nx_blk_here ?_
     refine nx_then (gw_region (mv_ rfl (ad_ rfl rfl (sg_ rfl (wl_nil ?_)))))
     exact nx_round (mm + 1, ds3) ⟨⟨by dsimp only; omega, by dsimp only; omega⟩, dv_none hrm hpo⟩ (by dsimp only; omega) ⟨rfl, rfl, rfl, rfl, rfl, rfl, (some_int (by omega)), trivial⟩ (fun _ hm => hm.pick [1] [0] [0, 1] rfl rfl)
    refine wl_callv (v := .tuple #[.int .i64 cc, .bool true]) rfl cb220 rfl rfl (fun wx hm => (by have h := tprice_any l A n c0 fr tt sea A2 n2 c2 kd i ((mm : Nat) : Int) wx (hm.fact 0 rfl).1 (hm.fact 1 rfl).1 hc2 hn2 hin hsea hr h0 h00 ht0 ht1 (hend i hin); rw [hpo] at h; exact h)) ?_
    have hcc := hpb _ _ _ _ hpo
    have hcc0 := hcc.1
    have hcc1 := hcc.2
    refine mv_ rfl (wl_ov (ov_extract rfl rfl) rfl (wl_ov (ov_extract rfl rfl) rfl (sg_ rfl (sg_ rfl (nn_ (sr_ (mv_ rfl (mv_ rfl (mv_ rfl (ad_ rfl rfl ?_))))))))))
    refine wl_set 51 (v' := .int .i64 ((i + mm : Nat) : Int)) rfl (congrArg (Value.int .i64) (by omega)) ?_
    refine wl_ov (ov_index (j := i + mm) es197 rfl rfl (by omega)) rfl ?_
    refine wl_ov (ov_elem (vs := [.int .i64 y0, .int .i64 y1, .int .i64 y2, .int .i64 y3, .int .i64 y4, .bool y5]) rz205 rfl (fun _ hm => (SlT.ofOwn dv_len (hm.ownI 0 rfl) hdl)) hy rfl rfl) rfl ?_
    refine wl_alloc zc205 rfl fun g4 => ?_
    refine wl_stores (cs' := [.int .i64 y0, .int .i64 y1, .int .i64 y2, .int .i64 y3, .int .i64 y4, .bool y5]) 0 rz205 rfl rfl rfl rfl rfl rfl rfl rfl ?_
    refine nn_ (gw_seq (sr_ (mv_ rfl (wl_ov (ov_un_not rfl) rfl ?_))))
    refine wl_set 55 (v' := .bool false) rfl (congrArg Value.bool (by decide)) ?_
    refine mv_ rfl (wl_guard_on rfl rfl rfl (fd_ fo205_3 rfl rfl (wl_guard_on rfl rfl rfl (lk_ sc4 0 rfl rfl rfl (wl_guard_on rfl rfl rfl (wl_ov (ov_un_not rfl) rfl (pf_ rfl rfl (nn_ ?_))))))))
    refine gw_cond rfl (fun hh => ?_) (fun hh => ?_)
    ·have hf : y5 = false := by simpa using hh
     clear hh
     refine gw_exit ?_
     refine nx_then_exit ?_
     refine nx_blk_here ?_
     refine nx_then (gw_region ?_)
     have hf : y5 = false := by simpa using hf
     refine mv_ rfl (ad_ rfl rfl (sg_ rfl (wl_nil ?_)))
     exact nx_round (mm + 1, ds3) ⟨⟨by dsimp only; omega, by dsimp only; omega⟩, dv_dead hrm hy (by omega) hf⟩ (by dsimp only; omega) ⟨rfl, rfl, rfl, rfl, rfl, rfl, (some_int (by omega)), trivial⟩ (fun _ hm => hm.pick [1] [0] [0, 1] rfl rfl)
    have hf : y5 = true := by simpa using hh
    clear hh
    refine gw_skip (nx_then (sr_ ?_))
    have hf : y5 = true := by simpa using hf
    subst hf
    obtain ⟨⟨hb0, hb1⟩, hb2, hb3⟩ := hbd rfl
    dsimp only at hb0 hb1 hb2 hb3
    refine mv_ rfl (fd_ fo205_0 rfl rfl (lk_ sc3 0 rfl rfl rfl (ad_ rfl rfl (fd_ fo205_1 rfl rfl (lk_ sc3 0 rfl rfl rfl (ad_ rfl rfl (mv_ rfl (mv_ rfl (mv_ rfl ?_)))))))))
    refine wl_ov (ov_build (cs := [.int .i64 kd, .int .i64 ((mm : Nat) : Int), .int .i64 cc]) rfl (by kernel_rfl)) rfl ?_
    refine wl_ov (ov_build (cs := [.int .i64 (cc + y0), .int .i64 (1 + y1), .int .i64 kd, .int .i64 ((mm : Nat) : Int), .int .i64 cc, .bool true]) rfl (by kernel_rfl)) rfl ?_
    refine wl_alloc zc205 rfl fun g5 => ?_
    refine wl_stores (cs' := [.int .i64 (cc + y0), .int .i64 (1 + y1), .int .i64 kd, .int .i64 ((mm : Nat) : Int), .int .i64 cc, .bool true]) 0 rz205 rfl rfl rfl rfl rfl rfl rfl rfl ?_
    refine nn_ (gw_seq ?_)
    refine gd (fun wz => Blk wz g5 205 [.int .i64 (cc + y0), .int .i64 (1 + y1), .int .i64 kd, .int .i64 ((mm : Nat) : Int), .int .i64 cc, .bool true] ∧ Blk wz g4 205 [.int .i64 y0, .int .i64 y1, .int .i64 y2, .int .i64 y3, .int .i64 y4, .bool true] ∧ Blk wz g1 199 [.slice A n c0, .int .i64 fr, .int .i64 tt, .slice A2 n2 c2] ∧ (SlOld rtEnc 7 288 w.heap.size none A n l) wz ∧ (SlOld itEnc 1 3 w.heap.size none A2 n2 sea) wz ∧ wz.ownsRow w.heap.size 205 6 (.slice (some ⟨g2, 0, none⟩) (n2 + 1) (n2 + 1)) (n2 + 1) (ds3.flatMap dvEnc) ∧ True) mixed (fun _ hm => ⟨hm.bl 0, hm.bl 1, hm.bl 2, hm.fa 0, hm.fa 1, hm.ownI 0 rfl, trivial⟩) fun z => ?_
    refine wt 0 27 1 rfl z (ov_move rfl) ?_
    refine wt 1 27 3 rfl z (ov_move rfl) ?_
    refine wt 2 27 7 rfl z (ov_index (j := i) es197 rfl rfl (by omega)) ?_
    refine wt 3 27 15 rfl z (ov_field fo205_3 rfl rfl) ?_
    refine wt 4 27 31 rfl z (ov_elem1 (k := 5) (v := .bool x5) sc4 rfl (fun _ hm => (SlT.ofOwn dv_len (hm.2.2.2.2.2.1) hdl)) hx rfl rfl) ?_
    refine wt 5 27 63 rfl z (ov_un_not rfl) ?_
    refine wt 6 27 127 rfl z (ov_move rfl) ?_
    rcases Bool.eq_false_or_eq_true (!x5) with hxf | hxf
    ·refine wa_set 79 rfl (congrArg Value.bool hxf) ?_
     have hxf : x5 = false := by simpa using hxf
     refine wtf 7 27 255 rfl rfl rfl z ?_
     refine wtf 8 27 511 rfl rfl rfl z ?_
     refine wtf 9 27 1023 rfl rfl rfl z ?_
     refine wtf 10 27 2047 rfl rfl rfl z ?_
     refine wtf 11 27 4095 rfl rfl rfl z ?_
     refine wtf 12 27 8191 rfl rfl rfl z ?_
     refine wtf 13 27 16383 rfl rfl rfl z ?_
     refine wtf 14 27 32767 rfl rfl rfl z ?_
     refine wtf 15 27 65535 rfl rfl rfl z ?_
     refine wtf 16 27 131071 rfl rfl rfl z ?_
     refine wtf 17 27 262143 rfl rfl rfl z ?_
     refine wtf 18 27 524287 rfl rfl rfl z ?_
     refine wtf 19 27 1048575 rfl rfl rfl z ?_
     refine wtf 20 27 2097151 rfl rfl rfl z ?_
     refine wtf 21 27 4194303 rfl rfl rfl z ?_
     refine wtf 22 27 8388607 rfl rfl rfl z ?_
     refine wtf 23 27 16777215 rfl rfl rfl z ?_
     refine wtf 24 27 33554431 rfl rfl rfl z ?_
     refine wtf 25 27 67108863 rfl rfl rfl z ?_
     refine wt 26 27 134217727 rfl z (ov_pick_t rfl rfl) ?_
     refine wa_done (by kernel_rfl) ?_
     refine nx_then (ct_ rfl (gw_region (mv_ rfl (mv_ rfl ?_))))
     refine wl_ov (ov_loads rz205 rfl (fun _ hm => hm.blkI 0 rfl) rfl rfl) rfl ?_
     refine wl_ov (ov_index (j := i) es197 rfl rfl (by omega)) rfl ?_
     refine wl_storesE (l := ds3) (j := i) (r := 0) (el := ⟨x0, x1, x2, x3, x4, x5⟩) (el' := ⟨cc + y0, 1 + y1, kd, ((mm : Nat) : Int), cc, true⟩) 0 rz205 rfl rfl rfl rfl rfl dv_len rfl hx hdl (by decide) rfl rfl ?_
     refine wl_nil (nx_blk_nrm (nx_then (gw_region (mv_ rfl (ad_ rfl rfl (sg_ rfl (wl_nil ?_)))))))
     exact nx_round (mm + 1, ds3.set i ⟨cc + y0, 1 + y1, kd, ((mm : Nat) : Int), cc, true⟩) ⟨⟨by dsimp only; omega, by dsimp only; omega⟩, dv_first hrm ⟨hk1, hk4⟩ ⟨hm1, hm7⟩ hpo hy rfl hx hxf⟩ (by dsimp only; omega) ⟨rfl, rfl, rfl, rfl, rfl, rfl, (some_int (by omega)), trivial⟩ (fun _ hm => hm.pick [2] [0] [0, 1] rfl rfl)
    refine wa_set 79 rfl (congrArg Value.bool hxf) ?_
    have hxf : x5 = true := by simpa using hxf
    refine wto 7 27 255 rfl rfl rfl z (ov_field fo205_0 rfl rfl) ?_
    refine wto 8 27 511 rfl rfl rfl z (ov_load sc3 rfl (fun _ hm => hm.1) rfl) ?_
    refine wto 9 27 1023 rfl rfl rfl z (ov_move rfl) ?_
    refine wto 10 27 2047 rfl rfl rfl z (ov_move rfl) ?_
    refine wto 11 27 4095 rfl rfl rfl z (ov_index (j := i) es197 rfl rfl (by omega)) ?_
    refine wto 12 27 8191 rfl rfl rfl z (ov_field fo205_0 rfl rfl) ?_
    refine wto 13 27 16383 rfl rfl rfl z (ov_elem1 (k := 0) (v := .int .i64 x0) sc3 rfl (fun _ hm => (SlT.ofOwn dv_len (hm.2.2.2.2.2.1) hdl)) hx rfl rfl) ?_
    refine wto 15 27 49151 rfl rfl rfl z (ov_field fo205_1 rfl rfl) ?_
    refine wto 16 27 114687 rfl rfl rfl z (ov_load sc3 rfl (fun _ hm => hm.1) rfl) ?_
    refine wto 17 27 245759 rfl rfl rfl z (ov_move rfl) ?_
    refine wto 18 27 507903 rfl rfl rfl z (ov_move rfl) ?_
    refine wto 19 27 1032191 rfl rfl rfl z (ov_index (j := i) es197 rfl rfl (by omega)) ?_
    refine wto 20 27 2080767 rfl rfl rfl z (ov_field fo205_1 rfl rfl) ?_
    refine wto 21 27 4177919 rfl rfl rfl z (ov_elem1 (k := 1) (v := .int .i64 x1) sc3 rfl (fun _ hm => (SlT.ofOwn dv_len (hm.2.2.2.2.2.1) hdl)) hx rfl rfl) ?_
    refine wa1 14 rfl ?_
    refine wl_guard_on rfl rfl rfl ?_
    refine wl_callv rfl cb119 rfl rfl (fun wx hm => (cmp_int _ _ wx)) ?_
    refine wl_nil ?_
    refine nw 27 4194303 (fun _ hm => ⟨hm.bl 0, hm.bl 1, hm.bl 2, hm.fa 0, hm.fa 1, hm.ownI 0 rfl, trivial⟩) fun z => ?_
    refine wa1 22 rfl ?_
    refine wl_guard_on rfl rfl rfl ?_
    refine wl_callv rfl cb119 rfl rfl (fun wx hm => (cmp_int _ _ wx)) ?_
    refine wl_nil ?_
    refine nw 27 8388607 (fun _ hm => ⟨hm.bl 0, hm.bl 1, hm.bl 2, hm.fa 0, hm.fa 1, hm.ownI 0 rfl, trivial⟩) fun z => ?_
    refine wa1 23 rfl ?_
    refine wl_guard_on rfl rfl rfl ?_
    refine wl_buildSlice (e := 3) (cs := [.int .i64 (cmpI (cc + y0) x0), .int .i64 (cmpI (1 + y1) x1)]) rfl (by kernel_rfl) rfl fun g6 => ?_
    refine wl_nil ?_
    refine nw 27 16777215 (fun _ hm => ⟨hm.bl 1, hm.bl 2, hm.bl 3, hm.fa 0, hm.fa 1, hm.ownI 0 rfl, trivial⟩) fun z => ?_
    refine wa1 24 rfl ?_
    refine wl_guard_on rfl rfl rfl ?_
    refine wl_callv rfl cb118 rfl rfl (fun wx hm => (or_two _ _ _ _ _ wx (hm.blkI 0 rfl))) ?_
    refine wl_nil ?_
    refine nw 27 33554431 (fun _ hm => ⟨hm.bl 1, hm.bl 2, hm.bl 3, hm.fa 0, hm.fa 1, hm.ownI 0 rfl, trivial⟩) fun z => ?_
    refine wto 25 27 67108863 rfl rfl rfl z (ov_lss rfl rfl) ?_
    refine wt 26 27 134217727 rfl z (ov_pick_f rfl rfl) ?_
    refine wa_done (by kernel_rfl) ?_
    refine nx_then ?_
    refine gw_cond rfl (fun hh => ?_) (fun hh => ?_)
    ·have hl9 : firstE [cmpI (cc + y0) x0, cmpI (1 + y1) x1] < 0 := by simpa using hh
     clear hh
     refine gw_region (mv_ rfl (mv_ rfl ?_))
     refine wl_ov (ov_loads rz205 rfl (fun _ hm => hm.blkI 1 rfl) rfl rfl) rfl ?_
     refine wl_ov (ov_index (j := i) es197 rfl rfl (by omega)) rfl ?_
     refine wl_storesE (l := ds3) (j := i) (r := 0) (el := ⟨x0, x1, x2, x3, x4, x5⟩) (el' := ⟨cc + y0, 1 + y1, kd, ((mm : Nat) : Int), cc, true⟩) 0 rz205 rfl rfl rfl rfl rfl dv_len rfl hx hdl (by decide) rfl rfl ?_
     refine wl_nil (nx_blk_nrm (nx_then (gw_region (mv_ rfl (ad_ rfl rfl (sg_ rfl (wl_nil ?_)))))))
     exact nx_round (mm + 1, ds3.set i ⟨cc + y0, 1 + y1, kd, ((mm : Nat) : Int), cc, true⟩) ⟨⟨by dsimp only; omega, by dsimp only; omega⟩, dv_better hrm ⟨hk1, hk4⟩ ⟨hm1, hm7⟩ hpo hy rfl hx hxf hl9⟩ (by dsimp only; omega) ⟨rfl, rfl, rfl, rfl, rfl, rfl, (some_int (by omega)), trivial⟩ (fun _ hm => hm.pick [3] [0] [0, 1] rfl rfl)
    have hl9 : ¬ (firstE [cmpI (cc + y0) x0, cmpI (1 + y1) x1] < 0) := by simpa using hh
    clear hh
    refine gw_skip (nx_blk_nrm (nx_then (gw_region (mv_ rfl (ad_ rfl rfl (sg_ rfl (wl_nil ?_)))))))
    exact nx_round (mm + 1, ds3) ⟨⟨by dsimp only; omega, by dsimp only; omega⟩, dv_keep hrm ⟨hk1, hk4⟩ ⟨hm1, hm7⟩ hpo hy rfl hx hxf hl9⟩ (by dsimp only; omega) ⟨rfl, rfl, rfl, rfl, rfl, rfl, (some_int (by omega)), trivial⟩ (fun _ hm => hm.pick [3] [0] [0, 1] rfl rfl)
   have hmc : ¬ (((mm : Nat) : Int) ≤ min 7 (((n2 : Nat) : Int) - ((i : Nat) : Int))) := by simpa using hh
   clear hh
   refine gw_exit ?_
   refine nx_then_exit (nx_then_exit ?_)
   refine nx_blk_here ?_
   refine nx_blk_nrm (nx_then (gw_region (mv_ rfl (ad_ rfl rfl (sg_ rfl (wl_nil ?_))))))
   exact nx_round (kd + 1, ds3) ⟨⟨by dsimp only; omega, by dsimp only; omega⟩, dv_kind hrm (by omega)⟩ (by dsimp only; omega) ⟨rfl, rfl, rfl, rfl, rfl, rfl, trivial⟩ (fun _ hm => hm.pick [0] [0] [0, 1] rfl rfl)
  have hk4 : ¬ (kd ≤ 4) := by simpa using hh
  clear hh
  refine gw_exit ?_
  refine nx_then_exit (nx_then_exit ?_)
  refine nx_blk_here ?_
  refine nx_blk_nrm (nx_then (gw_region ?_))
  have hk5 : kd = 5 := by omega
  subst hk5
  refine mv_ rfl ?_
  refine wl_ov (ov_sub rfl rfl (by omega) (by omega)) rfl ?_
  refine sg_ rfl (wl_nil ?_)
  exact nx_round (i, ds2) ⟨by dsimp only; omega, dv_done hrw hin⟩ (by dsimp only; omega) ⟨rfl, rfl, rfl, rfl, rfl, trivial⟩ (fun _ hm => hm.pick [0] [0] [0, 1] rfl rfl)
 have hk : ¬ (0 ≤ ((r : Nat) : Int) - 1) := by simpa using hh
 clear hh
 refine gw_exit ?_
 refine nx_then_exit (nx_then_exit ?_)
 refine nx_blk_here ?_
 refine nx_then (sr_ (mv_ rfl (sg_ rfl (nn_ ?_))))
 refine gw_ret ?_
 have hz : r = 0 := by omega
 subst hz
 refine nx_ret1 rfl rfl fun wx hm => ?_
 exact ⟨some ⟨g2, 0, none⟩, n2 + 1, ds, rfl, hm.g, hm.ownI 0 rfl, hr1⟩
end Go.Proofs.YtdoooppeiphefaaGreatDoor
namespace Go.Proofs.YtdoooppeiphefaaGreatDoor
open Go.RowKit
def pcEnc (p : Pc) : List Value := [.int .i64 p.kind, .int .i64 p.days, .int .i64 p.cents]
theorem pc_len (p : Pc) : (pcEnc p).length = 3 := rfl
def chkE (l : List Rt) (c : ByteArray) (fr tt : Int) : Int := firstE [ratesE l, whenE (!keyB c) 5, timeE fr tt]
theorem chkE_ok {l : List Rt} {c : ByteArray} {fr tt : Int} (h : chkE l c fr tt = 0) : ratesE l = 0 ∧ keyB c = true ∧ timeE fr tt = 0 := by
  have hz := fe_all h
  have h2 := we_ok (by decide) (hz (whenE (!keyB c) 5) (by simp))
  exact ⟨hz _ (by simp), by simpa using h2, hz _ (by simp)⟩
def daysN (fr tt : Int) : Nat := (daysV fr tt).toNat
/-- The prices of the pieces of a hire. -/
def prH (l : List Rt) (c : ByteArray) (fr tt : Int) : Int → Nat → Int → Option Int := priceO l (seasons l c fr (daysN fr tt)) fr tt
theorem seasons_bound (l : List Rt) (c : ByteArray) (fr : Int) (n : Nat) : ∀ k ∈ seasons l c fr n, -1 ≤ k ∧ k < (l.length : Int) := fun k hk => by
  unfold seasons at hk
  obtain ⟨i, _, rfl⟩ := List.mem_map.1 hk
  exact ixP_bound l
theorem begV_end {fr tt : Int} (h : timeE fr tt = 0) : ∀ i, i < daysN fr tt → begV fr i ≤ tt := fun i hi => by
  have h1 := timeE_ok h
  unfold daysN daysV at hi
  unfold begV
  omega
/-- The error and the pieces of Divide. -/
def DivIs (l : List Rt) (c : ByteArray) (fr tt : Int) (e : Int) (ps : List Pc) : Prop :=
  (chkE l c fr tt ≠ 0 ∧ e = chkE l c fr tt ∧ ps = []) ∨ (chkE l c fr tt = 0 ∧ ((e = 8 ∧ ps = [] ∧ ∀ qs, ¬ Chain (prH l c fr tt) 0 (daysN fr tt) qs) ∨ (e = 0 ∧ Best (prH l c fr tt) 0 (daysN fr tt) ps)))
theorem divIs_one {l : List Rt} {c : ByteArray} {fr tt e f : Int} {ps qs : List Pc} (h : DivIs l c fr tt e ps) (g : DivIs l c fr tt f qs) : e = f ∧ ps = qs := by
  rcases h with ⟨h1, rfl, rfl⟩ | ⟨h1, h | h⟩ <;> rcases g with ⟨g1, rfl, rfl⟩ | ⟨g1, g | g⟩
  · exact ⟨rfl, rfl⟩
  · exact absurd g1 h1
  · exact absurd g1 h1
  · exact absurd h1 g1
  · exact ⟨h.1.trans g.1.symm, h.2.1.trans g.2.1.symm⟩
  · exact absurd g.2.1 (h.2.2 _)
  · exact absurd h1 g1
  · exact absurd h.2.1 (g.2.2 _)
  · exact ⟨h.1.trans g.1.symm, best_one h.2 g.2⟩
theorem best_head {pr : Int → Nat → Int → Option Int} {i n : Nat} {ps : List Pc} (h : Best pr i n ps) (hi : i < n) : ∃ p r, ps = p :: r ∧ StepOk pr i p ∧ i + p.days.toNat ≤ n := by
  cases ps with
  | nil => have := h.1; simp only [Chain] at this; omega
  | cons p r => exact ⟨p, r, rfl, h.1.1, chain_head h.1⟩
theorem dv_at {pr : Int → Nat → Int → Option Int} {i n : Nat} {ds : List Dv} {x : Dv} {p : Pc} {r : List Pc} (h : DvFrom pr n 0 ds) (hx : ds[i]? = some x) (hb : Best pr i n (p :: r)) : x.kind = p.kind ∧ x.days = p.days ∧ x.cents = p.cents := by
  obtain ⟨s, h1, h2⟩ := h.2.1 i x (Nat.zero_le _) hx
  cases s with
  | none => exact absurd hb.1 (h1 _)
  | some qs => exact h2.2.2.2 p r (best_one h1 hb)
theorem dv_first0 {pr : Int → Nat → Int → Option Int} {n : Nat} {ds : List Dv} {x : Dv} (h : DvFrom pr n 0 ds) (hx : ds[0]? = some x) : (x.fine = false → ∀ qs, ¬ Chain pr 0 n qs) ∧ (x.fine = true → ∃ ps, Best pr 0 n ps ∧ x.cost = pcSum ps) := by
  obtain ⟨s, h1, h2⟩ := h.2.1 0 x (Nat.zero_le _) hx
  refine ⟨fun hf => ?_, fun hf => ?_⟩
  · rw [h2.none_ hf] at h1; exact h1
  · obtain ⟨ps, rfl⟩ := h2.some_ hf
    exact ⟨ps, h1, h2.2.1⟩
theorem checkHire_any (l : List Rt) (A : Option Addr) (n c0 : Nat) (c : ByteArray) (fr tt : Int) (w : World) (hl : SlT rtEnc 7 288 w A n l) (hok : ∀ b ∈ l, RtOk b) (hn : n ≤ 1000000) (hc : c.size ≤ 1000000) :
  Calls Tryz.prog 109 #[.slice A n c0, .string c, .agg #[.int .i64 fr, .int .i64 tt]] w (GotE w (chkE l c fr tt)) := by
 refine gw_enter ⟨17, w, none, []⟩ Tryz.func109 rfl Tryz.ntmps109 rfl (mem0 (X := [SlOld rtEnc 7 288 w.heap.size none A n l]) (allF_cons hl.old allF_nil) (allL_cons SlOld.lasts allL_nil)) ?_
 refine sr_ ?_
 obtain ⟨RE, hRE⟩ : ∃ E, E = ratesE l := ⟨_, rfl⟩
 refine wl_box rfl rfl rfl fun g1 => ?_
 refine sg_ rfl (nn_ (gw_seq ?_))
 refine gd (fun wz => Blk wz g1 39 [.int .i64 fr, .int .i64 tt] ∧ (SlOld rtEnc 7 288 w.heap.size none A n l) wz ∧ True) mixed (fun _ hm => ⟨hm.bl 0, hm.fa 0, trivial⟩) fun z => ?_
 refine wt 0 11 1 rfl z (ov_move rfl) ?_
 refine wt 2 11 5 rfl z (ov_move rfl) ?_
 refine wt 6 11 69 rfl z (ov_loads rz39 rfl (fun _ hm => hm.1) rfl rfl) ?_
 refine wa1 1 rfl ?_
 refine wl_callv (v := .int .i64 RE) rfl cb204 rfl rfl (fun wx hm => (by rw [hRE]; exact checkRates_any l A n c0 wx (hm.fact 0 rfl).1 hok hn)) ?_
 refine wl_nil ?_
 refine nw 11 71 (fun _ hm => ⟨hm.bl 0, hm.fa 0, trivial⟩) fun z => ?_
 refine wa1 3 rfl ?_
 refine wl_callw rfl cb112 rfl rfl (fun wx hm => (isKey_any _ wx (by omega))) ?_
 refine wl_nil ?_
 refine nw 11 79 (fun _ hm => ⟨hm.bl 0, hm.fa 0, trivial⟩) fun z => ?_
 refine wt 4 11 95 rfl z (ov_un_not rfl) ?_
 refine wa1 5 rfl ?_
 refine wl_callw rfl cb67 rfl rfl (fun wx hm => (when_any _ _ wx)) ?_
 refine wl_nil ?_
 refine nw 11 127 (fun _ hm => ⟨hm.bl 0, hm.fa 0, trivial⟩) fun z => ?_
 refine wa1 7 rfl ?_
 refine wl_callv rfl cb114 rfl rfl (fun wx hm => (time_any _ _ wx)) ?_
 refine wl_nil ?_
 refine nw 11 255 (fun _ hm => ⟨hm.bl 0, hm.fa 0, trivial⟩) fun z => ?_
 refine wa1 8 rfl ?_
 refine wl_buildSlice (e := 33) (cs := [.int .i64 RE, .int .i64 (whenE (!(keyB c)) 5), .int .i64 (timeE fr tt)]) rfl (by kernel_rfl) rfl fun g2 => ?_
 refine wl_nil ?_
 refine nw 11 511 (fun _ hm => ⟨hm.bl 1, hm.fa 0, trivial⟩) fun z => ?_
 refine wa1 9 rfl ?_
 refine wl_callw rfl cb66 rfl rfl (fun wx hm => (first_any [RE, whenE (!(keyB c)) 5, timeE fr tt] _ _ _ wx (hm.blkI 0 rfl) (by simp))) ?_
 refine wl_nil ?_
 refine nw 11 1023 (fun _ hm => ⟨hm.bl 1, hm.fa 0, trivial⟩) fun z => ?_
 refine wt 10 11 2047 rfl z (ov_assign rfl) ?_
 refine wa_done (by kernel_rfl) ?_
 refine nx_then ?_
 refine gw_ret ?_
 refine nx_ret1 rfl rfl fun wx hm => ?_
 exact ⟨ret_int (by unfold chkE; rw [hRE]), hm.g⟩
theorem tDivide_any (l : List Rt) (A : Option Addr) (n c0 : Nat) (c : ByteArray) (fr tt : Int) (w : World) (hl : SlT rtEnc 7 288 w A n l) (hok : ∀ b ∈ l, RtOk b) (hn : n ≤ 1000000) (hc : c.size ≤ 1000000) :
  Calls Tryz.prog 36 #[.slice A n c0, .string c, .agg #[.int .i64 fr, .int .i64 tt]] w (fun e w' => ∃ A3 n3 c3 ps er, e = .returned (.tuple #[.slice A3 n3 c3, .int .i64 er]) ∧ w.grownBy w' none ∧ SlT pcEnc 3 203 w' A3 n3 ps ∧ DivIs l c fr tt er ps ∧ n3 ≤ 120) := by
 refine gw_enter ⟨51, w, none, [205, 3]⟩ Tryz.func36 rfl Tryz.ntmps36 rfl (mem0 (X := [SlOld rtEnc 7 288 w.heap.size none A n l]) (allF_cons hl.old allF_nil) (allL_cons SlOld.lasts allL_nil)) ?_
 refine sr_ ?_
 obtain ⟨CE, hCE⟩ : ∃ E, E = chkE l c fr tt := ⟨_, rfl⟩
 refine wl_box rfl rfl rfl fun g1 => ?_
 refine sg_ rfl (sg_ rfl (nn_ (gw_seq (sr_ (mv_ rfl (mv_ rfl ?_))))))
 refine wl_ov (ov_loads rz39 rfl (fun _ hm => hm.blkI 0 rfl) rfl rfl) rfl ?_
 refine wl_callv (v := .int .i64 CE) rfl cb109 rfl rfl (fun wx hm => (by rw [hCE]; exact checkHire_any l A n c0 c fr tt wx (hm.fact 0 rfl).1 hok hn hc)) ?_
 refine sg_ rfl (nn_ (sr_ (mv_ rfl (wl_ov (ov_neq rfl rfl) rfl (nn_ ?_)))))
 refine gw_cond rfl (fun hh => ?_) (fun hh => ?_)
 ·have h1 : ¬ (CE = 0) := by simpa using hh
  clear hh
  refine sr_ (mv_ rfl (sg_ rfl (sg_ rfl (nn_ ?_))))
  refine gw_ret ?_
  refine nx_then_ret ?_
  refine nx_ret2 rfl rfl rfl fun wx hm => ?_
  exact ⟨none, 0, 0, [], CE, rfl, hm.g, SlT.nil_ _ _, .inl ⟨fun h => h1 (hCE.trans h), hCE, rfl⟩, by omega⟩
 have h1 : CE = 0 := by simpa using hh
 clear hh
 refine gw_skip (nx_then (sr_ ?_))
 obtain ⟨hr0, hkc, ht⟩ := chkE_ok (hCE.symm.trans h1)
 obtain ⟨h0, hlt, htt, _⟩ := timeE_ok ht
 have hpos := rt_pos hr0
 have hro := rate_ok hr0
 have hD1 := timeE_days ht
 obtain ⟨D, hD⟩ : ∃ D, D = daysN fr tt := ⟨_, rfl⟩
 have hD2 : 1 ≤ D ∧ D ≤ 120 := by rw [hD]; unfold daysN; omega
 have hD3 := hD2.1
 have hD4 := hD2.2
 obtain ⟨sea, hsea⟩ : ∃ x, x = seasons l c fr D := ⟨_, rfl⟩
 refine mv_ rfl (mv_ rfl ?_)
 refine wl_ov (ov_loads rz39 rfl (fun _ hm => hm.blkI 0 rfl) rfl rfl) rfl ?_
 refine wl_callx (γ := Option Addr × Nat) (val := (fun g => .agg #[.slice A n c0, .int .i64 fr, .int .i64 tt, .slice g.1 D g.2])) (φ := (fun g => D ≤ g.2)) (Y := (fun g => fun wy => SlT itEnc 1 3 wy g.1 D sea)) rfl cb110 rfl rfl (fun wx hm => (by rw [hsea, hD]; exact (trent_any l A n c0 c fr tt wx (hm.fact 0 rfl).1 hn hpos ht).mono fun _ _ ⟨A2, c2, he, hg, hs, hc⟩ => ⟨(A2, c2), he, hc, hg, hs⟩)) (fun _ => SlT.lasts2 rfl) ?_
 rintro ⟨A2, c2⟩ hDc
 dsimp only at hDc ⊢
 refine wl_callx (γ := Option Addr × Nat × List Dv) (val := (fun g => .slice g.1 (D + 1) g.2.1)) (φ := (fun g => DvFrom (priceO l sea fr tt) D 0 g.2.2)) (Y := (fun g => fun wy => SlT dvEnc 6 205 wy g.1 (D + 1) g.2.2)) rfl cb111 rfl rfl (fun wx hm => (tdivide_any l A n c0 fr tt sea A2 D c2 wx (hm.fact 1 rfl).1 (hm.fact 0 rfl) hDc hD4 (by rw [hsea]; exact seasons_bound l c fr D) hro h0 (by omega) (by omega) htt (by rw [hD]; exact begV_end ht)).mono fun _ _ ⟨A3, c3, ds, he, hg, hs, hd⟩ => ⟨(A3, c3, ds), he, hd, hg, SlT.ofOwn dv_len hs hd.1⟩) (fun _ => SlT.lasts2 rfl) ?_
 rintro ⟨A3, c3, ds⟩ hds
 dsimp only at hds ⊢
 have hpr : priceO l sea fr tt = prH l c fr tt := by unfold prH; rw [hsea, hD]
 rw [hpr] at hds
 have hdl := hds.1
 obtain ⟨x, hx⟩ : ∃ x, ds[0]? = some x := ⟨_, List.getElem?_eq_getElem (by omega)⟩
 have hd0 := dv_first0 hds hx
 obtain ⟨x0, x1, x2, x3, x4, x5⟩ := x
 refine wl_look (R := ∃ b3 o3, A3 = some ⟨b3, o3, none⟩) (fun wx hm => by obtain ⟨b3, o3, h, _, _⟩ := SlT.get (hm.fact 0 rfl) (by omega); exact ⟨b3, o3, h⟩) ?_
 rintro ⟨b3, o3, rfl⟩
 refine sg_ rfl (nn_ (gw_seq (sr_ (mv_ rfl ?_))))
 refine wl_ov (ov_index (j := 0) es197 rfl rfl (by omega)) rfl ?_
 refine fd_ fo205_3 rfl rfl ?_
 refine wl_ov (ov_elem1 (k := 5) (v := .bool x5) sc4 rfl (fun _ hm => (hm.fact 0 rfl)) (show ds[0]? = some _ from hx) rfl rfl) rfl ?_
 refine wl_ov (ov_un_not rfl) rfl (nn_ ?_)
 refine gw_cond rfl (fun hh => ?_) (fun hh => ?_)
 ·have hf : x5 = false := by simpa using hh
  clear hh
  refine sr_ (sg_ rfl (sg_ rfl (nn_ ?_)))
  refine gw_ret ?_
  refine nx_then_ret ?_
  refine nx_ret2 rfl rfl rfl fun wx hm => ?_
  exact ⟨none, 0, 0, [], 8, rfl, hm.g, SlT.nil_ _ _, .inr ⟨hCE.symm.trans h1, .inl ⟨rfl, rfl, hD ▸ hd0.1 (by simpa using hf)⟩⟩, by omega⟩
 have hf : x5 = true := by simpa using hh
 clear hh
 refine gw_skip (nx_then (sr_ ?_))
 obtain ⟨ps, hps, _⟩ := hd0.2 (by simpa using hf)
 refine sg_ rfl (nn_ (gw_seq (sr_ (sg_ rfl (nn_ (gw_block ?_))))))
 refine gw_nilOwn 203 3 ?_
 refine gw_loop (γ := Nat × Nat × Value × List Pc × List Pc × List Value) (fun g => g.1 ≤ D ∧ g.2.1 ≤ g.1 ∧ g.2.2.2.1.length = g.2.1 ∧ ps = g.2.2.2.1 ++ g.2.2.2.2.1 ∧ Best (prH l c fr tt) g.1 D g.2.2.2.2.1 ∧ g.2.2.2.2.2 = g.2.2.2.1.flatMap pcEnc) (fun g => [(6, .slice none 0 0), (7, .int .i64 0), (9, .slice (some ⟨b3, o3, none⟩) (D + 1) c3), (10, g.2.2.1), (11, .int .i64 ((g.1 : Nat) : Int))]) (fun g => fun _ => True) (fun g => [(g1, 39, [.int .i64 fr, .int .i64 tt])]) (fun g => [⟨g.2.2.1, 203, 3, g.2.1, g.2.2.2.2.2⟩]) (fun g => [fun wy => SlT dvEnc 6 205 wy (some ⟨b3, o3, none⟩) (D + 1) ds, fun wy => SlT itEnc 1 3 wy A2 D sea, SlOld rtEnc 7 288 w.heap.size none A n l]) (fun g => D - g.1) (0, 0, .slice none 0 0, [], ps, []) ⟨Nat.zero_le _, Nat.le_refl _, rfl, rfl, hps, rfl⟩ ⟨rfl, rfl, rfl, rfl, rfl, trivial⟩ (fun _ hm => hm.pick [0] [0] [0, 1, 2] rfl rfl) ?_
 rintro ⟨i, k, v, pl, rl, xs⟩ hinv
 replace hinv : i ≤ D ∧ k ≤ i ∧ pl.length = k ∧ ps = pl ++ rl ∧ Best (prH l c fr tt) i D rl ∧ xs = pl.flatMap pcEnc := hinv
 dsimp only
 refine gw_seq (sr_ ?_)
 obtain ⟨hi0, hi1, hi2, hi3, hi4, rfl⟩ := hinv
 refine mv_ rfl (mv_ rfl (wl_ov (ov_len es197 rfl) rfl ?_))
 refine wl_ov (ov_sub rfl rfl (by omega) (by omega)) rfl ?_
 refine wl_ov (ov_lss rfl rfl) rfl (nn_ ?_)
 refine gw_cond rfl (fun hh => ?_) (fun hh => ?_)
 ·have hk : ((i : Nat) : Int) < ((D + 1 : Nat) : Int) - 1 := by simpa using hh
  clear hh
  refine gw_skip (nx_then (gw_seq (gw_block (gw_region ?_))))
  have hiD : i < D := by omega
  obtain ⟨p, rr, hp1, hp2, hp3⟩ := best_head hi4 hiD
  subst hp1
  obtain ⟨y, hy⟩ : ∃ y, ds[i]? = some y := ⟨_, List.getElem?_eq_getElem (by omega)⟩
  obtain ⟨e1, e2, e3⟩ := dv_at hds hy hi4
  obtain ⟨y0, y1, y2, y3, y4, y5⟩ := y
  dsimp only at e1 e2 e3
  have hd1 : 1 ≤ y3 := by rw [e2]; exact hp2.2.2.1
  have hd2 : i + y3.toNat ≤ D := by rw [e2]; exact hp3
  refine mv_ rfl (mv_ rfl (mv_ rfl ?_))
  refine wl_ov (ov_index (j := i) es197 rfl rfl (by omega)) rfl ?_
  refine fd_ fo205_2 rfl rfl ?_
  refine wl_ov (ov_elemN (k := 2) (vs := [.int .i64 y2, .int .i64 y3, .int .i64 y4]) rz203 rfl (fun _ hm => (hm.fact 0 rfl)) hy rfl rfl rfl) rfl ?_
  refine wl_buildSlice (e := 203) (cs := [.int .i64 y2, .int .i64 y3, .int .i64 y4]) rfl (by kernel_rfl) rfl fun g2 => ?_
  refine wl_append (news := [.int .i64 y2, .int .i64 y3, .int .i64 y4]) 0 0 ap91 rfl rfl rfl rfl rfl rfl rfl (by omega) (by unfold maxLen; omega) rfl rfl fun v2 hv2 => ?_
  refine sg_ rfl (wl_nil (nx_blk_nrm (nx_then (gw_region (mv_ rfl (mv_ rfl (mv_ rfl ?_)))))))
  refine wl_ov (ov_index (j := i) es197 rfl rfl (by omega)) rfl ?_
  refine fd_ fo205_2 rfl rfl (fd_ fo203_1 rfl rfl ?_)
  refine wl_ov (ov_elem1 (k := 3) (v := .int .i64 y3) sc3 rfl (fun _ hm => (hm.fact 0 rfl)) hy rfl rfl) rfl ?_
  refine ad_ rfl rfl (sg_ rfl (wl_nil ?_))
  exact nx_round (i + y3.toNat, k + 1, v2, pl ++ [⟨y2, y3, y4⟩], rr, pl.flatMap pcEnc ++ ([.int .i64 y2, .int .i64 y3, .int .i64 y4] : List Value)) ⟨by dsimp only; omega, by dsimp only; omega, by simp [hi2], by dsimp only; rw [hi3, e1, e2, e3, List.append_assoc]; rfl, by rw [e2]; exact best_tail hi4, by simp [pcEnc]⟩ (by dsimp only; omega) ⟨rfl, rfl, rfl, rfl, (some_int (by omega)), trivial⟩ (fun _ hm => hm.pick [1] [0] [0, 1, 2] rfl rfl)
 have hk : ¬ (((i : Nat) : Int) < ((D + 1 : Nat) : Int) - 1) := by simpa using hh
 clear hh
 refine gw_exit ?_
 refine nx_then_exit (nx_then_exit ?_)
 refine nx_blk_here ?_
 refine nx_then (sr_ ?_)
 have hiD : i = D := by omega
 subst hiD
 have hrl : rl = [] := by
  cases rl with
  | nil => rfl
  | cons q t => have := chain_le hi4.1; simp only [List.length_cons] at this; omega
 subst hrl
 refine wl_look (R := ∃ A cc, v = .slice A k cc) (fun wx hm => own_slice (hm.ownI 0 rfl)) ?_
 rintro ⟨A4, c4, rfl⟩
 refine mv_ rfl (sg_ rfl (sg_ rfl (nn_ ?_)))
 refine gw_ret ?_
 refine nx_ret2 rfl rfl rfl fun wx hm => ?_
 exact ⟨A4, k, c4, pl, 0, rfl, hm.g, SlT.ofOwn pc_len (hm.ownI 0 rfl) hi2, .inr ⟨hCE.symm.trans h1, .inr ⟨rfl, by rw [← hD]; rw [List.append_nil] at hi3; rw [← hi3]; exact hps⟩⟩, by omega⟩
end Go.Proofs.YtdoooppeiphefaaGreatDoor
