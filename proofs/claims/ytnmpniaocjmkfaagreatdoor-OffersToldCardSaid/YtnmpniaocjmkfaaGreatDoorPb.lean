/- Several texts as one: Rt Ta Bt Of2 Tl Tw Td Pv Gb Tt Te -/
import Derived.Test.YtnmpniaocjmkfaaGreatDoorPa
import Derived.Laws.BitsLemmas
import Derived.Laws.Shifts
set_option maxRecDepth 100000
set_option maxHeartbeats 4000000
namespace Go.Proofs.YtnmpniaocjmkfaaGreatDoor
open Go.RowKit
set_option maxRecDepth 100000 in
set_option maxHeartbeats 1000000 in
theorem timeFault_any (a b : Int) (w : World) :
    Calls Tryz.prog 52 #[.agg #[.int .i64 a, .int .i64 b]] w (GotE w (timeE a b)) := by
  by_cases h : a < 0 ∨ b ≤ a ∨ 5761439 < b
  · have HE := Lib.hid (show timeE a b = 1 by unfold timeE; rw [if_pos h])
    by_cases h1 : a < 0
    · clear h
      go_enter Tryz.func52, Tryz.ntmps52
      go_wp2_with fail
      go_ret
      exact ⟨ret_int HE.out.symm, grow_alloc (World.grownBy.refl _ _) _⟩
    · by_cases h2 : b ≤ a
      · clear h
        have d1 : decide (a < 0) = false := by simp; omega
        go_enter Tryz.func52, Tryz.ntmps52
        go_wp2_with fail
        go_ret
        exact ⟨ret_int HE.out.symm, grow_alloc (World.grownBy.refl _ _) _⟩
      · have h3 : 5761439 < b := by omega
        have d1 : decide (a < 0) = false := by simp; omega
        have d2 : decide (b ≤ a) = false := by simp; omega
        clear h
        go_enter Tryz.func52, Tryz.ntmps52
        go_wp2_with fail
        go_ret
        exact ⟨ret_int HE.out.symm, grow_alloc (World.grownBy.refl _ _) _⟩
  · have hE : timeE a b = whenE (decide (120 < daysV a b)) 2 := by unfold timeE; rw [if_neg h]
    have h1 : 0 ≤ a := by omega
    have h2 : a < b := by omega
    have h3 : b ≤ 5761439 := by omega
    have d1 : decide (a < 0) = false := by simp; omega
    have d2 : decide (b ≤ a) = false := by simp; omega
    have d3 : decide (5761439 < b) = false := by simp; omega
    clear h
    by_cases h4 : 172800 < b - a
    · have HE := Lib.hid (show timeE a b = 2 by rw [hE, decide_eq_true (show 120 < daysV a b by unfold daysV; omega)]; rfl)
      clear hE
      go_enter Tryz.func52, Tryz.ntmps52
      go_wp2_with fail
      go_ret
      exact ⟨ret_int HE.out.symm, grow_alloc (World.grownBy.refl _ _) _⟩
    · have HE := Lib.hid (show timeE a b = 0 by rw [hE, decide_eq_false (show ¬ 120 < daysV a b by unfold daysV; omega)]; rfl)
      clear hE
      go_enter Tryz.func52, Tryz.ntmps52
      go_wp2_with fail
      go_ret
      exact ⟨ret_int HE.out.symm, grow_alloc (World.grownBy.refl _ _) _⟩
end Go.Proofs.YtnmpniaocjmkfaaGreatDoor
namespace Go.Proofs.YtnmpniaocjmkfaaGreatDoor
open Go.RowKit
def rtEnc (r : Rt) : List Value := [.string r.cls, .int .i64 r.fr, .int .i64 r.to_, .int .i64 r.hr, .int .i64 r.dy, .int .i64 r.we, .int .i64 r.wk]
theorem rt_len (r : Rt) : (rtEnc r).length = 7 := rfl
theorem b_ne_self (a : ByteArray) : (!(a.toList == a.toList)) = false := by simp
theorem i_ne_self (a : Int) : (!decide (a = a)) = false := by simp
theorem nan_string (a : ByteArray) (w : World) : Calls Tryz.prog 234 #[.string a] w (fun e w' => e = .returned (.bool false) ∧ w.grownBy w' none) := by
 refine gw_enter ⟨6, w, none, []⟩ Tryz.func234 rfl Tryz.ntmps234 rfl (mem0 (X := []) allF_nil allL_nil) ?_
 refine sr_ (sg_ rfl (nn_ (sr_ (mv_ rfl (mv_ rfl (wl_ov (ov_sneq rfl rfl) rfl ?_))))))
 refine wl_set 5 (v' := .bool false) rfl (congrArg Value.bool (b_ne_self a)) ?_
 refine sg_ rfl (nn_ ?_)
 refine gw_ret ?_
 refine nx_ret1 rfl rfl fun wx hm => ?_
 exact ⟨rfl, hm.g⟩
theorem cmp_string (a b : ByteArray) (w : World) : Calls Tryz.prog 154 #[.string a, .string b] w (fun e w' => e = .returned (.int .i64 (cmpS a b)) ∧ w.grownBy w' none) := by
 refine gw_enter ⟨20, w, none, []⟩ Tryz.func154 rfl Tryz.ntmps154 rfl (mem0 (X := []) allF_nil allL_nil) ?_
 refine sr_ (sg_ rfl (nn_ (sr_ (mv_ rfl ?_))))
 refine wl_callv rfl cb234 rfl rfl (fun wx hm => (nan_string _ wx)) ?_
 refine sg_ rfl (nn_ (sr_ (mv_ rfl ?_)))
 refine wl_callv rfl cb234 rfl rfl (fun wx hm => (nan_string _ wx)) ?_
 refine sg_ rfl (nn_ (gw_seq (sr_ (mv_ rfl (nn_ (cf_ rfl (gw_skip (nx_then (gw_seq (gw_seq ?_))))))))))
 refine gw_region (mv_ rfl (nn_ (cf_ rfl (gw_skip (nx_then (gw_seq (sr_ (mv_ rfl (mv_ rfl ?_)))))))))
 refine wl_ov (ov_slss rfl rfl) rfl ?_
 refine nn_ ?_
 refine gw_cond rfl (fun hh => ?_) (fun hh => ?_)
 ·have h1 : (Op.bytesLess a.toList b.toList) = true := by simpa using hh
  clear hh
  refine sr_ (sg_ rfl ?_)
  refine wl_set 4 (v' := .int .i64 (-1)) rfl rfl ?_
  refine nn_ ?_
  refine gw_ret ?_
  refine nx_then_ret ?_
  refine nx_ret1 rfl rfl fun wx hm => ?_
  refine ⟨?_, hm.g⟩
  unfold cmpS; rw [if_pos h1]
 have h1 : (Op.bytesLess a.toList b.toList) = false := by simpa using hh
 clear hh
 refine gw_skip (nx_then (gw_seq (sr_ (mv_ rfl (mv_ rfl ?_)))))
 refine wl_ov (ov_sgtr rfl rfl) rfl ?_
 refine nn_ ?_
 refine gw_cond rfl (fun hh => ?_) (fun hh => ?_)
 ·have h2 : (Op.bytesLess a.toList b.toList || a.toList == b.toList) = false := by simpa only [Bool.not_eq_true', Bool.not_eq_false'] using hh
  clear hh
  refine sr_ (sg_ rfl (nn_ ?_))
  refine gw_ret ?_
  refine nx_then_ret ?_
  refine nx_ret1 rfl rfl fun wx hm => ?_
  refine ⟨?_, hm.g⟩
  unfold cmpS; rw [if_neg (by rw [h1]; decide), if_pos h2]
 have h2 : (Op.bytesLess a.toList b.toList || a.toList == b.toList) = true := by simpa only [Bool.not_eq_true', Bool.not_eq_false'] using hh
 clear hh
 refine gw_skip (nx_then (sr_ (sg_ rfl (nn_ ?_))))
 refine gw_ret ?_
 refine nx_ret1 rfl rfl fun wx hm => ?_
 refine ⟨?_, hm.g⟩
 unfold cmpS; rw [if_neg (by rw [h1]; decide), if_neg (by rw [h2]; decide)]
theorem nan_int (a : Int) (w : World) : Calls Tryz.prog 233 #[.int .i64 a] w (fun e w' => e = .returned (.bool false) ∧ w.grownBy w' none) := by
 refine gw_enter ⟨6, w, none, []⟩ Tryz.func233 rfl Tryz.ntmps233 rfl (mem0 (X := []) allF_nil allL_nil) ?_
 refine sr_ (sg_ rfl (nn_ (sr_ (mv_ rfl (mv_ rfl (wl_ov (ov_neq rfl rfl) rfl ?_))))))
 refine wl_set 5 (v' := .bool false) rfl (congrArg Value.bool (i_ne_self a)) ?_
 refine sg_ rfl (nn_ ?_)
 refine gw_ret ?_
 refine nx_ret1 rfl rfl fun wx hm => ?_
 exact ⟨rfl, hm.g⟩
theorem cmp_int (a b : Int) (w : World) : Calls Tryz.prog 153 #[.int .i64 a, .int .i64 b] w (fun e w' => e = .returned (.int .i64 (cmpI a b)) ∧ w.grownBy w' none) := by
 refine gw_enter ⟨20, w, none, []⟩ Tryz.func153 rfl Tryz.ntmps153 rfl (mem0 (X := []) allF_nil allL_nil) ?_
 refine sr_ (sg_ rfl (nn_ (sr_ (mv_ rfl ?_))))
 refine wl_callv rfl cb233 rfl rfl (fun wx hm => (nan_int _ wx)) ?_
 refine sg_ rfl (nn_ (sr_ (mv_ rfl ?_)))
 refine wl_callv rfl cb233 rfl rfl (fun wx hm => (nan_int _ wx)) ?_
 refine sg_ rfl (nn_ (gw_seq (sr_ (mv_ rfl (nn_ (cf_ rfl (gw_skip (nx_then (gw_seq (gw_seq ?_))))))))))
 refine gw_region (mv_ rfl (nn_ (cf_ rfl (gw_skip (nx_then (gw_seq (sr_ (mv_ rfl (mv_ rfl (wl_ov (ov_lss rfl rfl) rfl (wl_nil ?_)))))))))))
 refine nx_then ?_
 refine gw_cond rfl (fun hh => ?_) (fun hh => ?_)
 ·have h1 : a < b := by simpa using hh
  clear hh
  refine sr_ (sg_ rfl ?_)
  refine wl_set 4 (v' := .int .i64 (-1)) rfl rfl ?_
  refine nn_ ?_
  refine gw_ret ?_
  refine nx_then_ret ?_
  refine nx_ret1 rfl rfl fun wx hm => ?_
  refine ⟨?_, hm.g⟩
  unfold cmpI; rw [if_pos h1]
 have h1 : ¬ (a < b) := by simpa using hh
 clear hh
 refine gw_skip (nx_then (gw_seq (sr_ (mv_ rfl (mv_ rfl ?_)))))
 refine wl_ov (ov_gtr rfl rfl) rfl ?_
 refine nn_ ?_
 refine gw_cond rfl (fun hh => ?_) (fun hh => ?_)
 ·have h2 : b < a := by simpa using hh
  clear hh
  refine sr_ (sg_ rfl (nn_ ?_))
  refine gw_ret ?_
  refine nx_then_ret ?_
  refine nx_ret1 rfl rfl fun wx hm => ?_
  refine ⟨?_, hm.g⟩
  unfold cmpI; rw [if_neg h1, if_pos h2]
 have h2 : ¬ (b < a) := by simpa using hh
 clear hh
 refine gw_skip (nx_then (sr_ (sg_ rfl (nn_ ?_))))
 refine gw_ret ?_
 refine nx_ret1 rfl rfl fun wx hm => ?_
 refine ⟨?_, hm.g⟩
 unfold cmpI; rw [if_neg h1, if_neg h2]
theorem or_two (a b : Int) (g T c : Nat) (w : World) (h : Blk w g T [.int .i64 a, .int .i64 b]) : Calls Tryz.prog 152 #[.slice (some ⟨g, 0, none⟩) 2 c] w (fun e w' => e = .returned (.int .i64 (firstE [a, b])) ∧ w.grownBy w' none) := by
 refine gw_enter ⟨18, w, none, []⟩ Tryz.func152 rfl Tryz.ntmps152 rfl (mem0 (X := [BlkOld w.heap.size none g T [.int .i64 a, .int .i64 b] ]) (allF_cons h.old allF_nil) (allL_cons BlkOld.lasts allL_nil)) ?_
 refine sr_ (sg_ rfl (nn_ (sr_ (sg_ rfl (nn_ (gw_seq (sr_ (mv_ rfl ?_))))))))
 refine wl_ov (ov_len es22 rfl) rfl ?_
 refine wl_set 7 (v' := .int .i64 2) rfl rfl ?_
 refine mv_ rfl (nn_ (gw_block ?_))
 refine gw_rounds 3 ?_
 refine gr_next ?_
 refine sr_ (wl_ov (ov_lss rfl rfl) rfl ?_)
 refine wl_set 9 (v' := .bool true) rfl (congrArg Value.bool (by decide)) ?_
 refine nn_ (gw_seq (ct_ rfl (gw_skip (nx_then (gw_seq (gw_block (sr_ ?_)))))))
 refine wl_ov (ov_index (j := 0) es22 rfl rfl (by decide)) rfl ?_
 refine wl_ov (ov_load (v := .int .i64 a) sc3 rfl (fun _ hm => (hm.fact 0 rfl).2) rfl) rfl ?_
 refine sg_ rfl (nn_ (sr_ (mv_ rfl (mv_ rfl (wl_ov (ov_neq rfl rfl) rfl (nn_ ?_))))))
 refine gw_cond rfl (fun hh => ?_) (fun hh => ?_)
 ·have h1 : ¬ (a = 0) := by simpa using hh
  clear hh
  refine sr_ (mv_ rfl (sg_ rfl (nn_ ?_)))
  refine gw_ret ?_
  refine nx_blk_ret (nx_then_ret (nx_then_ret (nx_blk_ret (nx_then_ret ?_))))
  refine nx_ret1 rfl rfl fun wx hm => ?_
  refine ⟨?_, hm.g⟩
  rw [firstE_pair, if_neg h1]
 have h1 : a = 0 := by simpa using hh
 clear hh
 refine gw_skip (nx_blk_nrm (nx_then (gw_region (ad_ rfl rfl ?_))))
 refine wl_set 16 (v' := .int .i64 1) rfl rfl ?_
 refine mv_ rfl (wl_nil ?_)
 refine nx_next ?_
 refine gr_next ?_
 refine sr_ (wl_ov (ov_lss rfl rfl) rfl ?_)
 refine wl_set 9 (v' := .bool true) rfl (congrArg Value.bool (by decide)) ?_
 refine nn_ (gw_seq (ct_ rfl (gw_skip (nx_then (gw_seq (gw_block (sr_ ?_)))))))
 refine wl_ov (ov_index (j := 1) es22 rfl rfl (by decide)) rfl ?_
 refine wl_ov (ov_load (v := .int .i64 b) sc3 rfl (fun _ hm => (hm.fact 0 rfl).2) rfl) rfl ?_
 refine sg_ rfl (nn_ (sr_ (mv_ rfl (mv_ rfl (wl_ov (ov_neq rfl rfl) rfl (nn_ ?_))))))
 refine gw_cond rfl (fun hh => ?_) (fun hh => ?_)
 ·have h2 : ¬ (b = 0) := by simpa using hh
  clear hh
  refine sr_ (mv_ rfl (sg_ rfl (nn_ ?_)))
  refine gw_ret ?_
  refine nx_blk_ret (nx_then_ret (nx_then_ret (nx_blk_ret (nx_then_ret ?_))))
  refine nx_ret1 rfl rfl fun wx hm => ?_
  refine ⟨?_, hm.g⟩
  rw [firstE_pair, if_pos h1]
 have h2 : b = 0 := by simpa using hh
 clear hh
 refine gw_skip (nx_blk_nrm (nx_then (gw_region (ad_ rfl rfl ?_))))
 refine wl_set 16 (v' := .int .i64 2) rfl rfl ?_
 refine mv_ rfl (wl_nil ?_)
 refine nx_next ?_
 refine gr_next ?_
 refine sr_ (wl_ov (ov_lss rfl rfl) rfl ?_)
 refine wl_set 9 (v' := .bool false) rfl (congrArg Value.bool (by decide)) ?_
 refine nn_ (gw_seq (cf_ rfl ?_))
 refine gw_exit ?_
 refine nx_then_exit (nx_then_exit ?_)
 refine nx_blk_here ?_
 refine nx_then (sr_ (mv_ rfl (sg_ rfl (nn_ ?_))))
 refine gw_ret ?_
 refine nx_ret1 rfl rfl fun wx hm => ?_
 refine ⟨?_, hm.g⟩
 rw [firstE_pair, if_pos h1, h2]
theorem checkRates_any (l : List Rt) (A : Option Addr) (n c : Nat) (w : World) (hl : SlT rtEnc 7 170 w A n l) (hok : ∀ b ∈ l, RtOk b) (hn : n ≤ 1000000) :
  Calls Tryz.prog 103 #[.slice A n c] w (GotE w (ratesE l)) := by
 refine gw_enter ⟨90, w, none, []⟩ Tryz.func103 rfl Tryz.ntmps103 rfl (mem0 (X := [SlOld rtEnc 7 170 w.heap.size none A n l]) (allF_cons hl.old allF_nil) (allL_cons SlOld.lasts allL_nil)) ?_
 refine sr_ ?_
 have hlen := hl.len
 refine sg_ rfl (nn_ (gw_seq (sr_ (mv_ rfl (wl_ov (ov_len es26 rfl) rfl ?_)))))
 refine wl_ov (ov_gtr rfl rfl) rfl ?_
 refine nn_ ?_
 refine gw_cond rfl (fun hh => ?_) (fun hh => ?_)
 ·have h1 : 200 < ((n : Nat) : Int) := by simpa using hh
  clear hh
  refine sr_ (sg_ rfl (nn_ ?_))
  refine gw_ret ?_
  refine nx_then_ret ?_
  refine nx_ret1 rfl rfl fun wx hm => ?_
  exact ⟨ret_int (by unfold ratesE; rw [if_pos (by omega)]), hm.g⟩
 have h1 : ¬ (200 < ((n : Nat) : Int)) := by simpa using hh
 clear hh
 refine gw_skip (nx_then (gw_seq (sr_ (mv_ rfl (wl_ov (ov_len es26 rfl) rfl (mv_ rfl (nn_ (gw_block ?_))))))))
 refine gw_loop (γ := Nat) (fun (k : Nat) => k ≤ n ∧ ratesE l = scanE rateE (prevOf l k) (l.drop k)) (fun (k : Nat) => [(0, .slice A n c), (11, .slice A n c), (12, .int .i64 ((n : Nat) : Int)), (13, .int .i64 ((k : Nat) : Int))]) (fun (k : Nat) => fun _ => True) (fun (k : Nat) => []) (fun (k : Nat) => []) (fun (k : Nat) => [SlOld rtEnc 7 170 w.heap.size none A n l]) (fun (k : Nat) => n - k) 0 ⟨Nat.zero_le _, by unfold ratesE; rw [if_neg (by omega)]; rfl⟩ ⟨rfl, rfl, rfl, rfl, trivial⟩ (fun _ hm => hm.pick [] [] [0] rfl rfl) ?_
 intro k hinv
 replace hinv : k ≤ n ∧ ratesE l = scanE rateE (prevOf l k) (l.drop k) := hinv
 refine sr_ (wl_ov (ov_lss rfl rfl) rfl (nn_ (gw_seq ?_)))
 refine gw_cond rfl (fun hh => ?_) (fun hh => ?_)
 ·have hk : ((k : Nat) : Int) < ((n : Nat) : Int) := by simpa using hh
  clear hh
  refine gw_skip (nx_then (gw_seq (gw_block (sr_ ?_))))
  obtain ⟨b, off, hA, _, _⟩ := hl.get (by omega)
  subst hA
  obtain ⟨x, hx⟩ : ∃ x, l[k]? = some x := ⟨_, List.getElem?_eq_getElem (by omega)⟩
  obtain ⟨cl, fr, tt, ho, dd, we, wk⟩ := x
  have hat := scanE_at rateE l k _ hx
  have hcl : cl.size ≤ 1000000 := hok _ (List.mem_of_getElem? hx)
  refine mv_ rfl ?_
  refine wl_ov (ov_index (j := k) es26 rfl rfl (by omega)) rfl ?_
  refine wl_ov (ov_elem (vs := [.string cl, .int .i64 fr, .int .i64 tt, .int .i64 ho, .int .i64 dd, .int .i64 we, .int .i64 wk]) rz170 rfl (fun _ hm => (hm.fact 0 rfl).1) hx rfl rfl) rfl ?_
  refine wl_alloc zc170 rfl fun g1 => ?_
  refine sg_ rfl ?_
  refine wl_stores (cs' := [.string cl, .int .i64 fr, .int .i64 tt, .int .i64 ho, .int .i64 dd, .int .i64 we, .int .i64 wk]) 0 rz170 rfl rfl rfl rfl rfl rfl rfl rfl ?_
  refine nn_ (gw_seq (gw_block (sr_ (fd_ fo170_0 rfl rfl (lk_ sc9 0 rfl rfl rfl ?_)))))
  refine wl_callw rfl cb137 rfl rfl (fun wx hm => (isKey_any _ wx (by omega))) ?_
  refine wl_ov (ov_un_not rfl) rfl (sg_ rfl (nn_ ?_))
  refine gw_cond rfl (fun hh => ?_) (fun hh => ?_)
  ·have h2 : (keyB cl) = false := by simpa using hh
   clear hh
   refine sr_ (sg_ rfl (nn_ ?_))
   refine gw_ret ?_
   refine nx_blk_ret (nx_then_ret (nx_blk_ret (nx_then_ret (nx_then_ret (nx_blk_ret (nx_then_ret ?_))))))
   have hE : rateE (prevOf l k) ⟨cl, fr, tt, ho, dd, we, wk⟩ = 5 := by unfold rateE; simp [h2]
   refine nx_ret1 rfl rfl fun wx hm => ?_
   exact ⟨ret_int (by rw [hinv.2, hat, if_neg (by rw [hE]; decide), hE]), hm.g⟩
  have h2 : (keyB cl) = true := by simpa using hh
  clear hh
  refine sr_ (fd_ fo170_1 rfl rfl (lk_ sc3 0 rfl rfl rfl (wl_ov (ov_lss rfl rfl) rfl (mv_ rfl ?_))))
  rcases Bool.eq_false_or_eq_true (decide (fr < 0)) with h3 | h3
  ·refine wl_set 27 rfl (congrArg Value.bool h3) ?_
   replace h3 := of_decide_eq_true h3
   refine goff rfl rfl rfl (goff rfl rfl rfl (goff rfl rfl rfl (goff rfl rfl rfl (goff rfl rfl rfl (pt_ rfl rfl (mv_ rfl (goff rfl rfl rfl (goff rfl rfl rfl (goff rfl rfl rfl (pt_ rfl rfl (sg_ rfl (nn_ ?_))))))))))))
   refine ct_ rfl (sr_ (sg_ rfl (nn_ ?_)))
   refine gw_ret ?_
   refine nx_blk_ret (nx_then_ret (nx_blk_ret (nx_then_ret (nx_then_ret (nx_blk_ret (nx_then_ret ?_))))))
   have hE : rateE (prevOf l k) ⟨cl, fr, tt, ho, dd, we, wk⟩ = 1 := by unfold rateE; simp [h2, h3]
   refine nx_ret1 rfl rfl fun wx hm => ?_
   exact ⟨ret_int (by rw [hinv.2, hat, if_neg (by rw [hE]; decide), hE]), hm.g⟩
  refine wl_set 27 rfl (congrArg Value.bool h3) ?_
  replace h3 := of_decide_eq_false h3
  refine wl_guard_on rfl rfl rfl (fd_ fo170_1 rfl rfl (wl_guard_on rfl rfl rfl (lk_ sc3 0 rfl rfl rfl (wl_guard_on rfl rfl rfl (fd_ fo170_2 rfl rfl (wl_guard_on rfl rfl rfl (lk_ sc3 0 rfl rfl rfl (wl_guard_on rfl rfl rfl ?_))))))))
  refine wl_ov (ov_geq rfl rfl) rfl ?_
  refine pf_ rfl rfl (mv_ rfl ?_)
  rcases Bool.eq_false_or_eq_true (decide (tt ≤ fr)) with h4 | h4
  ·refine wl_set 34 rfl (congrArg Value.bool h4) ?_
   replace h4 := of_decide_eq_true h4
   refine goff rfl rfl rfl (goff rfl rfl rfl (goff rfl rfl rfl (pt_ rfl rfl (sg_ rfl (nn_ (ct_ rfl (sr_ (sg_ rfl (nn_ ?_)))))))))
   refine gw_ret ?_
   refine nx_blk_ret (nx_then_ret (nx_blk_ret (nx_then_ret (nx_then_ret (nx_blk_ret (nx_then_ret ?_))))))
   have hE : rateE (prevOf l k) ⟨cl, fr, tt, ho, dd, we, wk⟩ = 1 := by unfold rateE; simp [h2, h3, h4]
   refine nx_ret1 rfl rfl fun wx hm => ?_
   exact ⟨ret_int (by rw [hinv.2, hat, if_neg (by rw [hE]; decide), hE]), hm.g⟩
  refine wl_set 34 rfl (congrArg Value.bool h4) ?_
  replace h4 := of_decide_eq_false h4
  refine wl_guard_on rfl rfl rfl (fd_ fo170_2 rfl rfl (wl_guard_on rfl rfl rfl (lk_ sc3 0 rfl rfl rfl (wl_guard_on rfl rfl rfl ?_))))
  refine wl_ov (ov_gtr rfl rfl) rfl ?_
  refine pf_ rfl rfl (sg_ rfl (nn_ ?_))
  refine gw_cond rfl (fun hh => ?_) (fun hh => ?_)
  ·have h5 : 4001 < tt := by simpa using hh
   clear hh
   refine sr_ (sg_ rfl (nn_ ?_))
   refine gw_ret ?_
   refine nx_blk_ret (nx_then_ret (nx_blk_ret (nx_then_ret (nx_then_ret (nx_blk_ret (nx_then_ret ?_))))))
   have hE : rateE (prevOf l k) ⟨cl, fr, tt, ho, dd, we, wk⟩ = 1 := by unfold rateE; simp [h2, h3, h4, h5]
   refine nx_ret1 rfl rfl fun wx hm => ?_
   exact ⟨ret_int (by rw [hinv.2, hat, if_neg (by rw [hE]; decide), hE]), hm.g⟩
  have h5 : ¬ (4001 < tt) := by simpa using hh
  clear hh
  refine gw_skip (nx_blk_nrm (nx_then (gw_seq (sr_ (fd_ fo170_3 rfl rfl (lk_ sc3 0 rfl rfl rfl (fd_ fo170_4 rfl rfl (lk_ sc3 0 rfl rfl rfl (fd_ fo170_5 rfl rfl (lk_ sc3 0 rfl rfl rfl (fd_ fo170_6 rfl rfl (lk_ sc3 0 rfl rfl rfl ?_))))))))))))
  refine wl_buildSlice (e := 3) (cs := [.int .i64 ho, .int .i64 dd, .int .i64 we, .int .i64 wk]) rfl (by kernel_rfl) rfl fun g2 => ?_
  refine wl_ov (ov_len es22 rfl) rfl ?_
  refine wl_set 48 (v' := .int .i64 4) rfl rfl ?_
  refine mv_ rfl (nn_ (gw_block ?_))
  refine gw_rounds 5 ?_
  refine gr_next ?_
  refine sr_ (wl_ov (ov_lss rfl rfl) rfl ?_)
  refine wl_set 50 (v' := .bool true) rfl (congrArg Value.bool (by decide)) ?_
  refine nn_ (gw_seq (ct_ rfl (gw_skip (nx_then (gw_seq (gw_block (sr_ ?_)))))))
  refine wl_ov (ov_index (j := 0) es22 rfl rfl (by decide)) rfl ?_
  refine lk_ sc3 0 rfl rfl rfl (sg_ rfl (nn_ (sr_ (mv_ rfl ?_))))
  refine wl_callw rfl cb175 rfl rfl (fun wx hm => (in_any _ _ _ wx)) ?_
  refine wl_ov (ov_un_not rfl) rfl (nn_ ?_)
  refine gw_cond rfl (fun hh => ?_) (fun hh => ?_)
  ·have i1 : (inB ho (-1) 1000000) = false := by simpa using hh
   clear hh
   refine sr_ (sg_ rfl (nn_ ?_))
   refine gw_ret ?_
   refine nx_blk_ret (nx_then_ret (nx_then_ret (nx_blk_ret (nx_then_ret (nx_blk_ret (nx_then_ret (nx_then_ret (nx_blk_ret (nx_then_ret ?_)))))))))
   have hE : rateE (prevOf l k) ⟨cl, fr, tt, ho, dd, we, wk⟩ = 1 := by unfold rateE; simp [h2, h3, h4, h5, i1]
   refine nx_ret1 rfl rfl fun wx hm => ?_
   exact ⟨ret_int (by rw [hinv.2, hat, if_neg (by rw [hE]; decide), hE]), hm.g⟩
  have i1 : (inB ho (-1) 1000000) = true := by simpa using hh
  clear hh
  refine gw_skip (nx_blk_nrm (nx_then (gw_region (ad_ rfl rfl ?_))))
  refine wl_set 56 (v' := .int .i64 1) rfl rfl ?_
  refine mv_ rfl (wl_nil ?_)
  refine nx_next ?_
  refine gr_next ?_
  refine sr_ (wl_ov (ov_lss rfl rfl) rfl ?_)
  refine wl_set 50 (v' := .bool true) rfl (congrArg Value.bool (by decide)) ?_
  refine nn_ (gw_seq (ct_ rfl (gw_skip (nx_then (gw_seq (gw_block (sr_ ?_)))))))
  refine wl_ov (ov_index (j := 1) es22 rfl rfl (by decide)) rfl ?_
  refine lk_ sc3 0 rfl rfl rfl (sg_ rfl (nn_ (sr_ (mv_ rfl ?_))))
  refine wl_callw rfl cb175 rfl rfl (fun wx hm => (in_any _ _ _ wx)) ?_
  refine wl_ov (ov_un_not rfl) rfl (nn_ ?_)
  refine gw_cond rfl (fun hh => ?_) (fun hh => ?_)
  ·have i2 : (inB dd (-1) 1000000) = false := by simpa using hh
   clear hh
   refine sr_ (sg_ rfl (nn_ ?_))
   refine gw_ret ?_
   refine nx_blk_ret (nx_then_ret (nx_then_ret (nx_blk_ret (nx_then_ret (nx_blk_ret (nx_then_ret (nx_then_ret (nx_blk_ret (nx_then_ret ?_)))))))))
   have hE : rateE (prevOf l k) ⟨cl, fr, tt, ho, dd, we, wk⟩ = 1 := by unfold rateE; simp [h2, h3, h4, h5, i1, i2]
   refine nx_ret1 rfl rfl fun wx hm => ?_
   exact ⟨ret_int (by rw [hinv.2, hat, if_neg (by rw [hE]; decide), hE]), hm.g⟩
  have i2 : (inB dd (-1) 1000000) = true := by simpa using hh
  clear hh
  refine gw_skip (nx_blk_nrm (nx_then (gw_region (ad_ rfl rfl ?_))))
  refine wl_set 56 (v' := .int .i64 2) rfl rfl ?_
  refine mv_ rfl (wl_nil ?_)
  refine nx_next ?_
  refine gr_next ?_
  refine sr_ (wl_ov (ov_lss rfl rfl) rfl ?_)
  refine wl_set 50 (v' := .bool true) rfl (congrArg Value.bool (by decide)) ?_
  refine nn_ (gw_seq (ct_ rfl (gw_skip (nx_then (gw_seq (gw_block (sr_ ?_)))))))
  refine wl_ov (ov_index (j := 2) es22 rfl rfl (by decide)) rfl ?_
  refine lk_ sc3 0 rfl rfl rfl (sg_ rfl (nn_ (sr_ (mv_ rfl ?_))))
  refine wl_callw rfl cb175 rfl rfl (fun wx hm => (in_any _ _ _ wx)) ?_
  refine wl_ov (ov_un_not rfl) rfl (nn_ ?_)
  refine gw_cond rfl (fun hh => ?_) (fun hh => ?_)
  ·have i3 : (inB we (-1) 1000000) = false := by simpa using hh
   clear hh
   refine sr_ (sg_ rfl (nn_ ?_))
   refine gw_ret ?_
   refine nx_blk_ret (nx_then_ret (nx_then_ret (nx_blk_ret (nx_then_ret (nx_blk_ret (nx_then_ret (nx_then_ret (nx_blk_ret (nx_then_ret ?_)))))))))
   have hE : rateE (prevOf l k) ⟨cl, fr, tt, ho, dd, we, wk⟩ = 1 := by unfold rateE; simp [h2, h3, h4, h5, i1, i2, i3]
   refine nx_ret1 rfl rfl fun wx hm => ?_
   exact ⟨ret_int (by rw [hinv.2, hat, if_neg (by rw [hE]; decide), hE]), hm.g⟩
  have i3 : (inB we (-1) 1000000) = true := by simpa using hh
  clear hh
  refine gw_skip (nx_blk_nrm (nx_then (gw_region (ad_ rfl rfl ?_))))
  refine wl_set 56 (v' := .int .i64 3) rfl rfl ?_
  refine mv_ rfl (wl_nil ?_)
  refine nx_next ?_
  refine gr_next ?_
  refine sr_ (wl_ov (ov_lss rfl rfl) rfl ?_)
  refine wl_set 50 (v' := .bool true) rfl (congrArg Value.bool (by decide)) ?_
  refine nn_ (gw_seq (ct_ rfl (gw_skip (nx_then (gw_seq (gw_block (sr_ ?_)))))))
  refine wl_ov (ov_index (j := 3) es22 rfl rfl (by decide)) rfl ?_
  refine lk_ sc3 0 rfl rfl rfl (sg_ rfl (nn_ (sr_ (mv_ rfl ?_))))
  refine wl_callw rfl cb175 rfl rfl (fun wx hm => (in_any _ _ _ wx)) ?_
  refine wl_ov (ov_un_not rfl) rfl (nn_ ?_)
  refine gw_cond rfl (fun hh => ?_) (fun hh => ?_)
  ·have i4 : (inB wk (-1) 1000000) = false := by simpa using hh
   clear hh
   refine sr_ (sg_ rfl (nn_ ?_))
   refine gw_ret ?_
   refine nx_blk_ret (nx_then_ret (nx_then_ret (nx_blk_ret (nx_then_ret (nx_blk_ret (nx_then_ret (nx_then_ret (nx_blk_ret (nx_then_ret ?_)))))))))
   have hE : rateE (prevOf l k) ⟨cl, fr, tt, ho, dd, we, wk⟩ = 1 := by unfold rateE; simp [h2, h3, h4, h5, i1, i2, i3, i4]
   refine nx_ret1 rfl rfl fun wx hm => ?_
   exact ⟨ret_int (by rw [hinv.2, hat, if_neg (by rw [hE]; decide), hE]), hm.g⟩
  have i4 : (inB wk (-1) 1000000) = true := by simpa using hh
  clear hh
  refine gw_skip (nx_blk_nrm (nx_then (gw_region ?_)))
  by_cases hk0 : k = 0
  ·have hE : rateE (prevOf l k) ⟨cl, fr, tt, ho, dd, we, wk⟩ = 0 := by unfold rateE; rw [pv_zero hk0]; simp [h2, h3, h4, h5, i1, i2, i3, i4]
   refine ad_ rfl rfl ?_
   refine wl_set 56 (v' := .int .i64 4) rfl rfl ?_
   refine mv_ rfl (wl_nil ?_)
   refine nx_next ?_
   refine gr_next ?_
   refine sr_ (wl_ov (ov_lss rfl rfl) rfl ?_)
   refine wl_set 50 (v' := .bool false) rfl (congrArg Value.bool (by decide)) ?_
   refine nn_ (gw_seq (cf_ rfl ?_))
   refine gw_exit ?_
   refine nx_then_exit (nx_then_exit ?_)
   refine nx_blk_here ?_
   refine nx_then (gw_seq (sr_ (mv_ rfl (wl_ov (ov_eql rfl rfl) rfl ?_))))
   refine wl_set 58 (v' := .bool true) rfl (congrArg Value.bool (decide_eq_true (by omega))) ?_
   refine nn_ (ct_ rfl ?_)
   refine gw_exit ?_
   refine nx_then_exit ?_
   refine nx_blk_here ?_
   refine nx_then (gw_region (ad_ rfl rfl (mv_ rfl (wl_nil ?_))))
   exact nx_round (k + 1) ⟨by omega, by rw [hinv.2, hat, if_pos hE]⟩ (by omega) ⟨rfl, rfl, rfl, (some_int (by omega)), trivial⟩ (fun _ hm => hm.pick [] [] [0] rfl rfl)
  obtain ⟨y, hy⟩ : ∃ x, l[k - 1]? = some x := ⟨_, List.getElem?_eq_getElem (by omega)⟩
  obtain ⟨p0, p1, p2, p3, p4, p5, p6⟩ := y
  have hpv := pv_pos hk0 hy
  refine ad_ rfl rfl ?_
  refine wl_set 56 (v' := .int .i64 4) rfl rfl ?_
  refine mv_ rfl (wl_nil ?_)
  refine nx_next ?_
  refine gr_next ?_
  refine sr_ (wl_ov (ov_lss rfl rfl) rfl ?_)
  refine wl_set 50 (v' := .bool false) rfl (congrArg Value.bool (by decide)) ?_
  refine nn_ (gw_seq (cf_ rfl ?_))
  refine gw_exit ?_
  refine nx_then_exit (nx_then_exit ?_)
  refine nx_blk_here ?_
  refine nx_then (gw_seq (sr_ (mv_ rfl (wl_ov (ov_eql rfl rfl) rfl ?_))))
  refine wl_set 58 (v' := .bool false) rfl (congrArg Value.bool (decide_eq_false (by omega))) ?_
  refine nn_ (cf_ rfl (gw_skip (nx_then (sr_ (mv_ rfl (mv_ rfl ?_))))))
  refine wl_ov (ov_sub rfl rfl (by omega) (by omega)) rfl ?_
  refine wl_set 61 (v' := .int .i64 ((k - 1 : Nat) : Int)) rfl (congrArg (Value.int .i64) (by omega)) ?_
  refine wl_ov (ov_index (j := k - 1) es26 rfl rfl (by omega)) rfl ?_
  refine wl_ov (ov_elem (vs := [.string p0, .int .i64 p1, .int .i64 p2, .int .i64 p3, .int .i64 p4, .int .i64 p5, .int .i64 p6]) rz170 rfl (fun _ hm => (hm.fact 0 rfl).1) hy rfl rfl) rfl ?_
  refine wl_alloc zc170 rfl fun g3 => ?_
  refine wl_stores (cs' := [.string p0, .int .i64 p1, .int .i64 p2, .int .i64 p3, .int .i64 p4, .int .i64 p5, .int .i64 p6]) 0 rz170 rfl rfl rfl rfl rfl rfl rfl rfl ?_
  refine nn_ (gw_seq (gw_seq ?_))
  refine gd (fun wz => Blk wz g3 170 [.string p0, .int .i64 p1, .int .i64 p2, .int .i64 p3, .int .i64 p4, .int .i64 p5, .int .i64 p6] ∧ Blk wz g2 3 [.int .i64 ho, .int .i64 dd, .int .i64 we, .int .i64 wk] ∧ Blk wz g1 170 [.string cl, .int .i64 fr, .int .i64 tt, .int .i64 ho, .int .i64 dd, .int .i64 we, .int .i64 wk] ∧ (SlOld rtEnc 7 170 w.heap.size none (some ⟨b, off, none⟩) n l) wz ∧ True) mixed (fun _ hm => ⟨hm.bl 0, hm.bl 1, hm.bl 2, hm.fa 0, trivial⟩) fun z => ?_
  refine wt 0 13 1 rfl z (ov_field fo170_0 rfl rfl) ?_
  refine wt 1 13 3 rfl z (ov_load sc9 rfl (fun _ hm => hm.1) rfl) ?_
  refine wt 2 13 7 rfl z (ov_field fo170_0 rfl rfl) ?_
  refine wt 3 13 15 rfl z (ov_load sc9 rfl (fun _ hm => hm.2.2.1) rfl) ?_
  refine wt 5 13 47 rfl z (ov_field fo170_1 rfl rfl) ?_
  refine wt 6 13 111 rfl z (ov_load sc3 rfl (fun _ hm => hm.1) rfl) ?_
  refine wt 7 13 239 rfl z (ov_field fo170_1 rfl rfl) ?_
  refine wt 8 13 495 rfl z (ov_load sc3 rfl (fun _ hm => hm.2.2.1) rfl) ?_
  refine wa1 4 rfl ?_
  refine wl_callv rfl cb154 rfl rfl (fun wx hm => (cmp_string _ _ wx)) ?_
  refine wl_nil ?_
  refine nw 13 511 (fun _ hm => ⟨hm.bl 0, hm.bl 1, hm.bl 2, hm.fa 0, trivial⟩) fun z => ?_
  refine wa1 9 rfl ?_
  refine wl_callv rfl cb153 rfl rfl (fun wx hm => (cmp_int _ _ wx)) ?_
  refine wl_nil ?_
  refine nw 13 1023 (fun _ hm => ⟨hm.bl 0, hm.bl 1, hm.bl 2, hm.fa 0, trivial⟩) fun z => ?_
  refine wa1 10 rfl ?_
  refine wl_buildSlice (e := 3) (cs := [.int .i64 (cmpS p0 cl), .int .i64 (cmpI p1 fr)]) rfl (by kernel_rfl) rfl fun g4 => ?_
  refine wl_nil ?_
  refine nw 13 2047 (fun _ hm => ⟨hm.bl 1, hm.bl 2, hm.bl 3, hm.fa 0, trivial⟩) fun z => ?_
  refine wa1 11 rfl ?_
  refine wl_callv rfl cb152 rfl rfl (fun wx hm => (or_two _ _ _ _ _ wx (hm.blkI 0 rfl))) ?_
  refine wl_nil ?_
  refine nw 13 4095 (fun _ hm => ⟨hm.bl 1, hm.bl 2, hm.bl 3, hm.fa 0, trivial⟩) fun z => ?_
  refine wt 12 13 8191 rfl z (ov_geq rfl rfl) ?_
  refine wa_done (by kernel_rfl) ?_
  refine nx_then ?_
  refine gw_cond rfl (fun hh => ?_) (fun hh => ?_)
  ·have h8 : 0 ≤ firstE [cmpS p0 cl, cmpI p1 fr] := by simpa using hh
   clear hh
   refine sr_ ?_
   have h9 : rtLt ⟨p0, p1, p2, p3, p4, p5, p6⟩ ⟨cl, fr, tt, ho, dd, we, wk⟩ = false := (or_rt' ⟨p0, p1, p2, p3, p4, p5, p6⟩ ⟨cl, fr, tt, ho, dd, we, wk⟩).1 h8
   refine sg_ rfl (nn_ ?_)
   refine gw_ret ?_
   refine nx_then_ret (nx_blk_ret (nx_then_ret (nx_then_ret (nx_blk_ret (nx_then_ret ?_)))))
   have hE : rateE (prevOf l k) ⟨cl, fr, tt, ho, dd, we, wk⟩ = 7 := by unfold rateE; rw [hpv]; simp [h2, h3, h4, h5, i1, i2, i3, i4, h9]
   refine nx_ret1 rfl rfl fun wx hm => ?_
   exact ⟨ret_int (by rw [hinv.2, hat, if_neg (by rw [hE]; decide), hE]), hm.g⟩
  have h8 : ¬ (0 ≤ firstE [cmpS p0 cl, cmpI p1 fr]) := by simpa using hh
  clear hh
  refine gw_skip (nx_then (sr_ ?_))
  have h9 : rtLt ⟨p0, p1, p2, p3, p4, p5, p6⟩ ⟨cl, fr, tt, ho, dd, we, wk⟩ = true := by
   cases h : rtLt ⟨p0, p1, p2, p3, p4, p5, p6⟩ ⟨cl, fr, tt, ho, dd, we, wk⟩
   ·exact absurd ((or_rt' ⟨p0, p1, p2, p3, p4, p5, p6⟩ ⟨cl, fr, tt, ho, dd, we, wk⟩).2 h) h8
   rfl
  refine fd_ fo170_0 rfl rfl (lk_ sc9 1 rfl rfl rfl (fd_ fo170_0 rfl rfl (lk_ sc9 3 rfl rfl rfl (wl_ov (ov_seql rfl rfl) rfl (mv_ rfl ?_)))))
  rcases Bool.eq_false_or_eq_true (p0.toList == cl.toList) with h12 | h12
  ·refine wl_set 82 rfl (congrArg Value.bool h12) ?_
   have h13 : eqS p0 cl = true := h12
   refine wl_guard_on rfl rfl rfl (fd_ fo170_2 rfl rfl (wl_guard_on rfl rfl rfl (lk_ sc3 1 rfl rfl rfl (wl_guard_on rfl rfl rfl (fd_ fo170_1 rfl rfl (wl_guard_on rfl rfl rfl (lk_ sc3 3 rfl rfl rfl (wl_guard_on rfl rfl rfl ?_))))))))
   refine wl_ov (ov_gtr rfl rfl) rfl ?_
   refine pt_ rfl rfl (nn_ ?_)
   refine gw_cond rfl (fun hh => ?_) (fun hh => ?_)
   ·have h14 : fr < p2 := by simpa using hh
    clear hh
    refine sr_ (sg_ rfl (nn_ ?_))
    refine gw_ret ?_
    refine nx_blk_ret (nx_then_ret (nx_then_ret (nx_blk_ret (nx_then_ret ?_))))
    have hE : rateE (prevOf l k) ⟨cl, fr, tt, ho, dd, we, wk⟩ = 13 := by unfold rateE; rw [hpv]; simp [h2, h3, h4, h5, i1, i2, i3, i4, h9, h13, h14]
    refine nx_ret1 rfl rfl fun wx hm => ?_
    exact ⟨ret_int (by rw [hinv.2, hat, if_neg (by rw [hE]; decide), hE]), hm.g⟩
   have h14 : ¬ (fr < p2) := by simpa using hh
   clear hh
   refine gw_skip (nx_blk_nrm (nx_then (gw_region ?_)))
   have hE : rateE (prevOf l k) ⟨cl, fr, tt, ho, dd, we, wk⟩ = 0 := by unfold rateE; rw [hpv]; simp [h2, h3, h4, h5, i1, i2, i3, i4, h9, h13, h14]
   refine ad_ rfl rfl (mv_ rfl (wl_nil ?_))
   exact nx_round (k + 1) ⟨by omega, by rw [hinv.2, hat, if_pos hE]⟩ (by omega) ⟨rfl, rfl, rfl, (some_int (by omega)), trivial⟩ (fun _ hm => hm.pick [] [] [0] rfl rfl)
  refine wl_set 82 rfl (congrArg Value.bool h12) ?_
  have h13 : eqS p0 cl = false := h12
  have hE : rateE (prevOf l k) ⟨cl, fr, tt, ho, dd, we, wk⟩ = 0 := by unfold rateE; rw [hpv]; simp [h2, h3, h4, h5, i1, i2, i3, i4, h9, h13]
  refine goff rfl rfl rfl (goff rfl rfl rfl (goff rfl rfl rfl (goff rfl rfl rfl (goff rfl rfl rfl (pf_ rfl rfl (nn_ (cf_ rfl (gw_skip (nx_blk_nrm (nx_then (gw_region (ad_ rfl rfl ?_))))))))))))
  refine mv_ rfl (wl_nil ?_)
  exact nx_round (k + 1) ⟨by omega, by rw [hinv.2, hat, if_pos hE]⟩ (by omega) ⟨rfl, rfl, rfl, (some_int (by omega)), trivial⟩ (fun _ hm => hm.pick [] [] [0] rfl rfl)
 have hk : ¬ (((k : Nat) : Int) < ((n : Nat) : Int)) := by simpa using hh
 clear hh
 refine gw_exit ?_
 refine nx_then_exit (nx_then_exit ?_)
 refine nx_blk_here ?_
 refine nx_then (sr_ (sg_ rfl (nn_ ?_)))
 refine gw_ret ?_
 refine nx_ret1 rfl rfl fun wx hm => ?_
 exact ⟨ret_int (by rw [hinv.2, scanE_end _ _ _ _ (by omega)]), hm.g⟩
theorem ratesFault_any (l : List Rt) (A : Option Addr) (n c : Nat) (w : World) (hl : SlT rtEnc 7 170 w A n l) (hok : ∀ b ∈ l, RtOk b) (hn : n ≤ 1000000) :
  Calls Tryz.prog 97 #[.slice A n c] w (GotE w (ratesE l)) := by
 refine gw_enter ⟨107, w, none, []⟩ Tryz.func97 rfl Tryz.ntmps97 rfl (mem0 (X := [SlOld rtEnc 7 170 w.heap.size none A n l]) (allF_cons hl.old allF_nil) (allL_cons SlOld.lasts allL_nil)) ?_
 refine sr_ ?_
 have hlen := hl.len
 refine sg_ rfl (nn_ (gw_seq (sr_ (mv_ rfl (wl_ov (ov_len es26 rfl) rfl ?_)))))
 refine wl_ov (ov_gtr rfl rfl) rfl ?_
 refine nn_ ?_
 refine gw_cond rfl (fun hh => ?_) (fun hh => ?_)
 ·have h1 : 200 < ((n : Nat) : Int) := by simpa using hh
  clear hh
  refine sr_ (sg_ rfl (nn_ ?_))
  refine gw_ret ?_
  refine nx_then_ret ?_
  refine nx_ret1 rfl rfl fun wx hm => ?_
  exact ⟨ret_int (by unfold ratesE; rw [if_pos (by omega)]), hm.g⟩
 have h1 : ¬ (200 < ((n : Nat) : Int)) := by simpa using hh
 clear hh
 refine gw_skip (nx_then (gw_seq (sr_ (mv_ rfl (wl_ov (ov_len es26 rfl) rfl (mv_ rfl (nn_ (gw_block ?_))))))))
 refine gw_loop (γ := Nat) (fun (k : Nat) => k ≤ n ∧ ratesE l = scanE rateE (prevOf l k) (l.drop k)) (fun (k : Nat) => [(0, .slice A n c), (11, .slice A n c), (12, .int .i64 ((n : Nat) : Int)), (13, .int .i64 ((k : Nat) : Int))]) (fun (k : Nat) => fun _ => True) (fun (k : Nat) => []) (fun (k : Nat) => []) (fun (k : Nat) => [SlOld rtEnc 7 170 w.heap.size none A n l]) (fun (k : Nat) => n - k) 0 ⟨Nat.zero_le _, by unfold ratesE; rw [if_neg (by omega)]; rfl⟩ ⟨rfl, rfl, rfl, rfl, trivial⟩ (fun _ hm => hm.pick [] [] [0] rfl rfl) ?_
 intro k hinv
 replace hinv : k ≤ n ∧ ratesE l = scanE rateE (prevOf l k) (l.drop k) := hinv
 refine sr_ (wl_ov (ov_lss rfl rfl) rfl (nn_ (gw_seq ?_)))
 refine gw_cond rfl (fun hh => ?_) (fun hh => ?_)
 ·have hk : ((k : Nat) : Int) < ((n : Nat) : Int) := by simpa using hh
  clear hh
  refine gw_skip (nx_then (gw_seq (gw_block (sr_ ?_))))
  obtain ⟨b, off, hA, _, _⟩ := hl.get (by omega)
  subst hA
  obtain ⟨x, hx⟩ : ∃ x, l[k]? = some x := ⟨_, List.getElem?_eq_getElem (by omega)⟩
  obtain ⟨cl, fr, tt, ho, dd, we, wk⟩ := x
  have hat := scanE_at rateE l k _ hx
  have hcl : cl.size ≤ 1000000 := hok _ (List.mem_of_getElem? hx)
  refine mv_ rfl ?_
  refine wl_ov (ov_index (j := k) es26 rfl rfl (by omega)) rfl ?_
  refine wl_ov (ov_elem (vs := [.string cl, .int .i64 fr, .int .i64 tt, .int .i64 ho, .int .i64 dd, .int .i64 we, .int .i64 wk]) rz170 rfl (fun _ hm => (hm.fact 0 rfl).1) hx rfl rfl) rfl ?_
  refine wl_alloc zc170 rfl fun g1 => ?_
  refine sg_ rfl ?_
  refine wl_stores (cs' := [.string cl, .int .i64 fr, .int .i64 tt, .int .i64 ho, .int .i64 dd, .int .i64 we, .int .i64 wk]) 0 rz170 rfl rfl rfl rfl rfl rfl rfl rfl ?_
  refine nn_ (gw_seq ?_)
  refine gd (fun wz => Blk wz g1 170 [.string cl, .int .i64 fr, .int .i64 tt, .int .i64 ho, .int .i64 dd, .int .i64 we, .int .i64 wk] ∧ (SlOld rtEnc 7 170 w.heap.size none (some ⟨b, off, none⟩) n l) wz ∧ True) mixed (fun _ hm => ⟨hm.bl 0, hm.fa 0, trivial⟩) fun z => ?_
  refine wt 0 20 1 rfl z (ov_field fo170_3 rfl rfl) ?_
  refine wt 1 20 3 rfl z (ov_load sc3 rfl (fun _ hm => hm.1) rfl) ?_
  refine wt 2 20 7 rfl z (ov_field fo170_4 rfl rfl) ?_
  refine wt 3 20 15 rfl z (ov_load sc3 rfl (fun _ hm => hm.1) rfl) ?_
  refine wt 4 20 31 rfl z (ov_field fo170_5 rfl rfl) ?_
  refine wt 5 20 63 rfl z (ov_load sc3 rfl (fun _ hm => hm.1) rfl) ?_
  refine wt 6 20 127 rfl z (ov_field fo170_6 rfl rfl) ?_
  refine wt 7 20 255 rfl z (ov_load sc3 rfl (fun _ hm => hm.1) rfl) ?_
  refine wt 8 20 511 rfl z (ov_min4 rfl rfl rfl rfl) ?_
  refine wt 9 20 1023 rfl z (ov_field fo170_3 rfl rfl) ?_
  refine wt 10 20 2047 rfl z (ov_load sc3 rfl (fun _ hm => hm.1) rfl) ?_
  refine wt 11 20 4095 rfl z (ov_field fo170_4 rfl rfl) ?_
  refine wt 12 20 8191 rfl z (ov_load sc3 rfl (fun _ hm => hm.1) rfl) ?_
  refine wt 13 20 16383 rfl z (ov_field fo170_5 rfl rfl) ?_
  refine wt 14 20 32767 rfl z (ov_load sc3 rfl (fun _ hm => hm.1) rfl) ?_
  refine wt 15 20 65535 rfl z (ov_field fo170_6 rfl rfl) ?_
  refine wt 16 20 131071 rfl z (ov_load sc3 rfl (fun _ hm => hm.1) rfl) ?_
  refine wt 17 20 262143 rfl z (ov_max4 rfl rfl rfl rfl) ?_
  refine wt 18 20 524287 rfl z (ov_assign rfl) ?_
  refine wt 19 20 1048575 rfl z (ov_assign rfl) ?_
  refine wa_done (by kernel_rfl) ?_
  refine nx_then (gw_seq (gw_block (sr_ (fd_ fo170_0 rfl rfl (lk_ sc9 0 rfl rfl rfl ?_)))))
  refine wl_callv rfl cb108 rfl rfl (fun wx hm => (key_any _ wx (by omega))) ?_
  refine wl_ov (ov_un_not rfl) rfl (sg_ rfl (nn_ ?_))
  refine gw_cond rfl (fun hh => ?_) (fun hh => ?_)
  ·have h2 : (keyB cl) = false := by simpa using hh
   clear hh
   refine sr_ (sg_ rfl (nn_ ?_))
   refine gw_ret ?_
   refine nx_blk_ret (nx_then_ret (nx_blk_ret (nx_then_ret (nx_then_ret (nx_blk_ret (nx_then_ret ?_))))))
   have hE : rateE (prevOf l k) ⟨cl, fr, tt, ho, dd, we, wk⟩ = 5 := by unfold rateE; simp [h2]
   refine nx_ret1 rfl rfl fun wx hm => ?_
   exact ⟨ret_int (by rw [hinv.2, hat, if_neg (by rw [hE]; decide), hE]), hm.g⟩
  have h2 : (keyB cl) = true := by simpa using hh
  clear hh
  refine sr_ (fd_ fo170_1 rfl rfl (lk_ sc3 0 rfl rfl rfl (wl_ov (ov_lss rfl rfl) rfl (mv_ rfl ?_))))
  rcases Bool.eq_false_or_eq_true (decide (fr < 0)) with h3 | h3
  ·refine wl_set 45 rfl (congrArg Value.bool h3) ?_
   replace h3 := of_decide_eq_true h3
   refine goff rfl rfl rfl (goff rfl rfl rfl (goff rfl rfl rfl (goff rfl rfl rfl (goff rfl rfl rfl (pt_ rfl rfl (mv_ rfl (goff rfl rfl rfl (goff rfl rfl rfl (goff rfl rfl rfl (pt_ rfl rfl (mv_ rfl (goff rfl rfl rfl (goff rfl rfl rfl ?_)))))))))))))
   refine pt_ rfl rfl (mv_ rfl (goff rfl rfl rfl (goff rfl rfl rfl (pt_ rfl rfl (sg_ rfl (nn_ (ct_ rfl (sr_ (sg_ rfl (nn_ ?_))))))))))
   refine gw_ret ?_
   refine nx_blk_ret (nx_then_ret (nx_blk_ret (nx_then_ret (nx_then_ret (nx_blk_ret (nx_then_ret ?_))))))
   have hE : rateE (prevOf l k) ⟨cl, fr, tt, ho, dd, we, wk⟩ = 1 := by unfold rateE; simp [h2, h3]
   refine nx_ret1 rfl rfl fun wx hm => ?_
   exact ⟨ret_int (by rw [hinv.2, hat, if_neg (by rw [hE]; decide), hE]), hm.g⟩
  refine wl_set 45 rfl (congrArg Value.bool h3) ?_
  replace h3 := of_decide_eq_false h3
  refine wl_guard_on rfl rfl rfl (fd_ fo170_1 rfl rfl (wl_guard_on rfl rfl rfl (lk_ sc3 0 rfl rfl rfl (wl_guard_on rfl rfl rfl (fd_ fo170_2 rfl rfl (wl_guard_on rfl rfl rfl (lk_ sc3 0 rfl rfl rfl (wl_guard_on rfl rfl rfl ?_))))))))
  refine wl_ov (ov_geq rfl rfl) rfl ?_
  refine pf_ rfl rfl (mv_ rfl ?_)
  rcases Bool.eq_false_or_eq_true (decide (tt ≤ fr)) with h4 | h4
  ·refine wl_set 52 rfl (congrArg Value.bool h4) ?_
   replace h4 := of_decide_eq_true h4
   refine goff rfl rfl rfl (goff rfl rfl rfl (goff rfl rfl rfl (pt_ rfl rfl (mv_ rfl (goff rfl rfl rfl (goff rfl rfl rfl (pt_ rfl rfl (mv_ rfl (goff rfl rfl rfl (goff rfl rfl rfl (pt_ rfl rfl (sg_ rfl (wl_nil ?_)))))))))))))
   refine nx_then (ct_ rfl (sr_ (sg_ rfl (nn_ ?_))))
   refine gw_ret ?_
   refine nx_blk_ret (nx_then_ret (nx_blk_ret (nx_then_ret (nx_then_ret (nx_blk_ret (nx_then_ret ?_))))))
   have hE : rateE (prevOf l k) ⟨cl, fr, tt, ho, dd, we, wk⟩ = 1 := by unfold rateE; simp [h2, h3, h4]
   refine nx_ret1 rfl rfl fun wx hm => ?_
   exact ⟨ret_int (by rw [hinv.2, hat, if_neg (by rw [hE]; decide), hE]), hm.g⟩
  refine wl_set 52 rfl (congrArg Value.bool h4) ?_
  replace h4 := of_decide_eq_false h4
  refine wl_guard_on rfl rfl rfl (fd_ fo170_2 rfl rfl (wl_guard_on rfl rfl rfl (lk_ sc3 0 rfl rfl rfl (wl_guard_on rfl rfl rfl ?_))))
  refine wl_ov (ov_gtr rfl rfl) rfl ?_
  refine pf_ rfl rfl (mv_ rfl ?_)
  rcases Bool.eq_false_or_eq_true (decide (4001 < tt)) with h5 | h5
  ·refine wl_set 57 rfl (congrArg Value.bool h5) ?_
   replace h5 := of_decide_eq_true h5
   refine goff rfl rfl rfl (goff rfl rfl rfl (pt_ rfl rfl (mv_ rfl (goff rfl rfl rfl (goff rfl rfl rfl (pt_ rfl rfl (sg_ rfl (nn_ (ct_ rfl (sr_ (sg_ rfl ?_)))))))))))
   refine nn_ ?_
   refine gw_ret ?_
   refine nx_blk_ret (nx_then_ret (nx_blk_ret (nx_then_ret (nx_then_ret (nx_blk_ret (nx_then_ret ?_))))))
   have hE : rateE (prevOf l k) ⟨cl, fr, tt, ho, dd, we, wk⟩ = 1 := by unfold rateE; simp [h2, h3, h4, h5]
   refine nx_ret1 rfl rfl fun wx hm => ?_
   exact ⟨ret_int (by rw [hinv.2, hat, if_neg (by rw [hE]; decide), hE]), hm.g⟩
  refine wl_set 57 rfl (congrArg Value.bool h5) ?_
  replace h5 := of_decide_eq_false h5
  refine wl_guard_on rfl rfl rfl (mv_ rfl (wl_guard_on rfl rfl rfl (wl_ov (ov_lss rfl rfl) rfl (pf_ rfl rfl (mv_ rfl ?_)))))
  rcases Bool.eq_false_or_eq_true (decide (min (min (min ho dd) we) wk < -1)) with h6 | h6
  ·refine wl_set 61 rfl (congrArg Value.bool h6) ?_
   replace h6 := of_decide_eq_true h6
   have hi : inB ho (-1) 1000000 = false ∨ inB dd (-1) 1000000 = false ∨ inB we (-1) 1000000 = false ∨ inB wk (-1) 1000000 = false := by simp only [inB_false]; omega
   refine goff rfl rfl rfl (goff rfl rfl rfl (pt_ rfl rfl (sg_ rfl (nn_ (ct_ rfl (sr_ (sg_ rfl (nn_ ?_))))))))
   refine gw_ret ?_
   refine nx_blk_ret (nx_then_ret (nx_blk_ret (nx_then_ret (nx_then_ret (nx_blk_ret (nx_then_ret ?_))))))
   have hE : rateE (prevOf l k) ⟨cl, fr, tt, ho, dd, we, wk⟩ = 1 := by unfold rateE; simp [h2, h3, h4, h5, hi]
   refine nx_ret1 rfl rfl fun wx hm => ?_
   exact ⟨ret_int (by rw [hinv.2, hat, if_neg (by rw [hE]; decide), hE]), hm.g⟩
  refine wl_set 61 rfl (congrArg Value.bool h6) ?_
  replace h6 := of_decide_eq_false h6
  refine wl_guard_on rfl rfl rfl (mv_ rfl (wl_guard_on rfl rfl rfl ?_))
  refine wl_ov (ov_gtr rfl rfl) rfl ?_
  refine pf_ rfl rfl (sg_ rfl (nn_ ?_))
  refine gw_cond rfl (fun hh => ?_) (fun hh => ?_)
  ·have h7 : 1000000 < max (max (max ho dd) we) wk := by simpa using hh
   clear hh
   refine sr_ ?_
   have hi : inB ho (-1) 1000000 = false ∨ inB dd (-1) 1000000 = false ∨ inB we (-1) 1000000 = false ∨ inB wk (-1) 1000000 = false := by simp only [inB_false]; omega
   refine sg_ rfl (nn_ ?_)
   refine gw_ret ?_
   refine nx_blk_ret (nx_then_ret (nx_blk_ret (nx_then_ret (nx_then_ret (nx_blk_ret (nx_then_ret ?_))))))
   have hE : rateE (prevOf l k) ⟨cl, fr, tt, ho, dd, we, wk⟩ = 1 := by unfold rateE; simp [h2, h3, h4, h5, hi]
   refine nx_ret1 rfl rfl fun wx hm => ?_
   exact ⟨ret_int (by rw [hinv.2, hat, if_neg (by rw [hE]; decide), hE]), hm.g⟩
  have h7 : ¬ (1000000 < max (max (max ho dd) we) wk) := by simpa using hh
  clear hh
  refine sr_ ?_
  have i1 : inB ho (-1) 1000000 = true := inB_iff.2 (by omega)
  have i2 : inB dd (-1) 1000000 = true := inB_iff.2 (by omega)
  have i3 : inB we (-1) 1000000 = true := inB_iff.2 (by omega)
  have i4 : inB wk (-1) 1000000 = true := inB_iff.2 (by omega)
  by_cases hk0 : k = 0
  ·have hE : rateE (prevOf l k) ⟨cl, fr, tt, ho, dd, we, wk⟩ = 0 := by unfold rateE; rw [pv_zero hk0]; simp [h2, h3, h4, h5, i1, i2, i3, i4]
   refine mv_ rfl (wl_ov (ov_eql rfl rfl) rfl ?_)
   refine wl_set 67 (v' := .bool true) rfl (congrArg Value.bool (decide_eq_true (by omega))) ?_
   refine sg_ rfl (nn_ (ct_ rfl ?_))
   refine gw_exit ?_
   refine nx_blk_on rfl ?_
   refine nx_then_exit ?_
   refine nx_blk_here ?_
   refine nx_then (gw_region (ad_ rfl rfl (mv_ rfl (wl_nil ?_))))
   exact nx_round (k + 1) ⟨by omega, by rw [hinv.2, hat, if_pos hE]⟩ (by omega) ⟨rfl, rfl, rfl, (some_int (by omega)), trivial⟩ (fun _ hm => hm.pick [] [] [0] rfl rfl)
  obtain ⟨y, hy⟩ : ∃ x, l[k - 1]? = some x := ⟨_, List.getElem?_eq_getElem (by omega)⟩
  obtain ⟨p0, p1, p2, p3, p4, p5, p6⟩ := y
  have hpv := pv_pos hk0 hy
  refine mv_ rfl (wl_ov (ov_eql rfl rfl) rfl ?_)
  refine wl_set 67 (v' := .bool false) rfl (congrArg Value.bool (decide_eq_false (by omega))) ?_
  refine sg_ rfl (nn_ (cf_ rfl (gw_skip (nx_blk_nrm (nx_then (sr_ (mv_ rfl (mv_ rfl ?_))))))))
  refine wl_ov (ov_sub rfl rfl (by omega) (by omega)) rfl ?_
  refine wl_set 70 (v' := .int .i64 ((k - 1 : Nat) : Int)) rfl (congrArg (Value.int .i64) (by omega)) ?_
  refine wl_ov (ov_index (j := k - 1) es26 rfl rfl (by omega)) rfl ?_
  refine wl_ov (ov_elem (vs := [.string p0, .int .i64 p1, .int .i64 p2, .int .i64 p3, .int .i64 p4, .int .i64 p5, .int .i64 p6]) rz170 rfl (fun _ hm => (hm.fact 0 rfl).1) hy rfl rfl) rfl ?_
  refine wl_alloc zc170 rfl fun g2 => ?_
  refine wl_stores (cs' := [.string p0, .int .i64 p1, .int .i64 p2, .int .i64 p3, .int .i64 p4, .int .i64 p5, .int .i64 p6]) 0 rz170 rfl rfl rfl rfl rfl rfl rfl rfl ?_
  refine nn_ (gw_block (sr_ (fd_ fo170_0 rfl rfl (lk_ sc9 1 rfl rfl rfl (fd_ fo170_0 rfl rfl (lk_ sc9 0 rfl rfl rfl ?_))))))
  refine wl_ov (ov_slss rfl rfl) rfl ?_
  refine mv_ rfl ?_
  rcases Bool.eq_false_or_eq_true (Op.bytesLess cl.toList p0.toList) with h8 | h8
  ·refine wl_set 79 rfl (congrArg Value.bool h8) ?_
   have h9 : rtLt ⟨p0, p1, p2, p3, p4, p5, p6⟩ ⟨cl, fr, tt, ho, dd, we, wk⟩ = false := by have h := lt_rt ⟨p0, p1, p2, p3, p4, p5, p6⟩ ⟨cl, fr, tt, ho, dd, we, wk⟩; simp only at h; rw [h8] at h; simpa using h.symm
   refine goff rfl rfl rfl (goff rfl rfl rfl (goff rfl rfl rfl (goff rfl rfl rfl (goff rfl rfl rfl (goff rfl rfl rfl (gnd rfl rfl rfl (gnd rfl rfl rfl (gnd rfl rfl rfl (gnd rfl rfl rfl (gnd rfl rfl rfl (goff rfl rfl rfl (pt_ rfl rfl (sg_ rfl ?_)))))))))))))
   refine nn_ (ct_ rfl (sr_ (sg_ rfl (nn_ ?_))))
   refine gw_ret ?_
   refine nx_blk_ret (nx_blk_ret (nx_then_ret (nx_then_ret (nx_blk_ret (nx_then_ret ?_)))))
   have hE : rateE (prevOf l k) ⟨cl, fr, tt, ho, dd, we, wk⟩ = 7 := by unfold rateE; rw [hpv]; simp [h2, h3, h4, h5, i1, i2, i3, i4, h9]
   refine nx_ret1 rfl rfl fun wx hm => ?_
   exact ⟨ret_int (by rw [hinv.2, hat, if_neg (by rw [hE]; decide), hE]), hm.g⟩
  refine wl_set 79 rfl (congrArg Value.bool h8) ?_
  refine wl_guard_on rfl rfl rfl (fd_ fo170_0 rfl rfl (wl_guard_on rfl rfl rfl (lk_ sc9 1 rfl rfl rfl (wl_guard_on rfl rfl rfl (fd_ fo170_0 rfl rfl (wl_guard_on rfl rfl rfl (lk_ sc9 0 rfl rfl rfl (wl_guard_on rfl rfl rfl (wl_ov (ov_seql rfl rfl) rfl (wl_guard_on rfl rfl rfl (mv_ rfl ?_)))))))))))
  rcases Bool.eq_false_or_eq_true (cl.toList == p0.toList) with h10 | h10
  ·refine wl_set 85 rfl (congrArg Value.bool h10) ?_
   refine wl_guard_on rfl rfl rfl (fd_ fo170_1 rfl rfl (wl_guard_on rfl rfl rfl (lk_ sc3 1 rfl rfl rfl (wl_guard_on rfl rfl rfl (fd_ fo170_1 rfl rfl (wl_guard_on rfl rfl rfl (lk_ sc3 0 rfl rfl rfl (wl_guard_on rfl rfl rfl (wl_ov (ov_leq rfl rfl) rfl (wl_guard_on rfl rfl rfl (pt_ rfl rfl (pf_ rfl rfl (sg_ rfl ?_)))))))))))))
   refine nn_ ?_
   refine gw_cond rfl (fun hh => ?_) (fun hh => ?_)
   ·have h11 : fr ≤ p1 := by simpa using hh
    clear hh
    refine sr_ ?_
    have h9 : rtLt ⟨p0, p1, p2, p3, p4, p5, p6⟩ ⟨cl, fr, tt, ho, dd, we, wk⟩ = false := by have h := lt_rt ⟨p0, p1, p2, p3, p4, p5, p6⟩ ⟨cl, fr, tt, ho, dd, we, wk⟩; simp only at h; rw [h8, h10, decide_eq_true h11] at h; simpa using h.symm
    refine sg_ rfl (nn_ ?_)
    refine gw_ret ?_
    refine nx_blk_ret (nx_blk_ret (nx_then_ret (nx_then_ret (nx_blk_ret (nx_then_ret ?_)))))
    have hE : rateE (prevOf l k) ⟨cl, fr, tt, ho, dd, we, wk⟩ = 7 := by unfold rateE; rw [hpv]; simp [h2, h3, h4, h5, i1, i2, i3, i4, h9]
    refine nx_ret1 rfl rfl fun wx hm => ?_
    exact ⟨ret_int (by rw [hinv.2, hat, if_neg (by rw [hE]; decide), hE]), hm.g⟩
   have h11 : ¬ (fr ≤ p1) := by simpa using hh
   clear hh
   refine sr_ ?_
   have h9 : rtLt ⟨p0, p1, p2, p3, p4, p5, p6⟩ ⟨cl, fr, tt, ho, dd, we, wk⟩ = true := by have h := lt_rt ⟨p0, p1, p2, p3, p4, p5, p6⟩ ⟨cl, fr, tt, ho, dd, we, wk⟩; simp only at h; rw [h8, h10, decide_eq_false h11] at h; simpa using h.symm
   refine fd_ fo170_0 rfl rfl (lk_ sc9 1 rfl rfl rfl (fd_ fo170_0 rfl rfl (lk_ sc9 0 rfl rfl rfl (wl_ov (ov_seql rfl rfl) rfl (mv_ rfl ?_)))))
   rcases Bool.eq_false_or_eq_true (cl.toList == p0.toList) with h12 | h12
   ·refine wl_set 99 rfl (congrArg Value.bool h12) ?_
    have h13 : eqS p0 cl = true := (by have h := h12; unfold eqS; simp only [beq_iff_eq] at h ⊢; exact h.symm)
    refine wl_guard_on rfl rfl rfl (fd_ fo170_2 rfl rfl (wl_guard_on rfl rfl rfl (lk_ sc3 0 rfl rfl rfl (wl_guard_on rfl rfl rfl (fd_ fo170_1 rfl rfl (wl_guard_on rfl rfl rfl (lk_ sc3 1 rfl rfl rfl (wl_guard_on rfl rfl rfl ?_))))))))
    refine wl_ov (ov_gtr rfl rfl) rfl ?_
    refine pt_ rfl rfl (sg_ rfl (nn_ ?_))
    refine gw_cond rfl (fun hh => ?_) (fun hh => ?_)
    ·have h14 : fr < p2 := by simpa using hh
     clear hh
     refine sr_ (sg_ rfl (nn_ ?_))
     refine gw_ret ?_
     refine nx_blk_ret (nx_blk_ret (nx_then_ret (nx_then_ret (nx_blk_ret (nx_then_ret ?_)))))
     have hE : rateE (prevOf l k) ⟨cl, fr, tt, ho, dd, we, wk⟩ = 13 := by unfold rateE; rw [hpv]; simp [h2, h3, h4, h5, i1, i2, i3, i4, h9, h13, h14]
     refine nx_ret1 rfl rfl fun wx hm => ?_
     exact ⟨ret_int (by rw [hinv.2, hat, if_neg (by rw [hE]; decide), hE]), hm.g⟩
    have h14 : ¬ (fr < p2) := by simpa using hh
    clear hh
    refine gw_skip (nx_blk_nrm (nx_blk_nrm (nx_then (gw_region ?_))))
    have hE : rateE (prevOf l k) ⟨cl, fr, tt, ho, dd, we, wk⟩ = 0 := by unfold rateE; rw [hpv]; simp [h2, h3, h4, h5, i1, i2, i3, i4, h9, h13, h14]
    refine ad_ rfl rfl (mv_ rfl (wl_nil ?_))
    exact nx_round (k + 1) ⟨by omega, by rw [hinv.2, hat, if_pos hE]⟩ (by omega) ⟨rfl, rfl, rfl, (some_int (by omega)), trivial⟩ (fun _ hm => hm.pick [] [] [0] rfl rfl)
   refine wl_set 99 rfl (congrArg Value.bool h12) ?_
   have h13 : eqS p0 cl = false := (by have h := h12; unfold eqS; simp only [beq_eq_false_iff_ne, ne_eq] at h ⊢; exact fun e => h e.symm)
   have hE : rateE (prevOf l k) ⟨cl, fr, tt, ho, dd, we, wk⟩ = 0 := by unfold rateE; rw [hpv]; simp [h2, h3, h4, h5, i1, i2, i3, i4, h9, h13]
   refine goff rfl rfl rfl (goff rfl rfl rfl (goff rfl rfl rfl (goff rfl rfl rfl (goff rfl rfl rfl (pf_ rfl rfl (sg_ rfl (nn_ (cf_ rfl (gw_skip (nx_blk_nrm (nx_blk_nrm (nx_then ?_))))))))))))
   refine gw_region (ad_ rfl rfl (mv_ rfl (wl_nil ?_)))
   exact nx_round (k + 1) ⟨by omega, by rw [hinv.2, hat, if_pos hE]⟩ (by omega) ⟨rfl, rfl, rfl, (some_int (by omega)), trivial⟩ (fun _ hm => hm.pick [] [] [0] rfl rfl)
  refine wl_set 85 rfl (congrArg Value.bool h10) ?_
  have h9 : rtLt ⟨p0, p1, p2, p3, p4, p5, p6⟩ ⟨cl, fr, tt, ho, dd, we, wk⟩ = true := by have h := lt_rt ⟨p0, p1, p2, p3, p4, p5, p6⟩ ⟨cl, fr, tt, ho, dd, we, wk⟩; simp only at h; rw [h8, h10] at h; simpa using h.symm
  refine goff rfl rfl rfl (goff rfl rfl rfl (goff rfl rfl rfl (goff rfl rfl rfl (goff rfl rfl rfl (wl_guard_on rfl rfl rfl (pf_ rfl rfl (pf_ rfl rfl (sg_ rfl (nn_ (cf_ rfl (sr_ ?_)))))))))))
  refine fd_ fo170_0 rfl rfl (lk_ sc9 1 rfl rfl rfl (fd_ fo170_0 rfl rfl (lk_ sc9 0 rfl rfl rfl (wl_ov (ov_seql rfl rfl) rfl (mv_ rfl ?_)))))
  rcases Bool.eq_false_or_eq_true (cl.toList == p0.toList) with h12 | h12
  ·refine wl_set 99 rfl (congrArg Value.bool h12) ?_
   have h13 : eqS p0 cl = true := (by have h := h12; unfold eqS; simp only [beq_iff_eq] at h ⊢; exact h.symm)
   refine wl_guard_on rfl rfl rfl (fd_ fo170_2 rfl rfl (wl_guard_on rfl rfl rfl (lk_ sc3 0 rfl rfl rfl (wl_guard_on rfl rfl rfl (fd_ fo170_1 rfl rfl (wl_guard_on rfl rfl rfl (lk_ sc3 1 rfl rfl rfl (wl_guard_on rfl rfl rfl ?_))))))))
   refine wl_ov (ov_gtr rfl rfl) rfl ?_
   refine pt_ rfl rfl (sg_ rfl (nn_ ?_))
   refine gw_cond rfl (fun hh => ?_) (fun hh => ?_)
   ·have h14 : fr < p2 := by simpa using hh
    clear hh
    refine sr_ (sg_ rfl (nn_ ?_))
    refine gw_ret ?_
    refine nx_blk_ret (nx_blk_ret (nx_then_ret (nx_then_ret (nx_blk_ret (nx_then_ret ?_)))))
    have hE : rateE (prevOf l k) ⟨cl, fr, tt, ho, dd, we, wk⟩ = 13 := by unfold rateE; rw [hpv]; simp [h2, h3, h4, h5, i1, i2, i3, i4, h9, h13, h14]
    refine nx_ret1 rfl rfl fun wx hm => ?_
    exact ⟨ret_int (by rw [hinv.2, hat, if_neg (by rw [hE]; decide), hE]), hm.g⟩
   have h14 : ¬ (fr < p2) := by simpa using hh
   clear hh
   refine gw_skip (nx_blk_nrm (nx_blk_nrm (nx_then (gw_region ?_))))
   have hE : rateE (prevOf l k) ⟨cl, fr, tt, ho, dd, we, wk⟩ = 0 := by unfold rateE; rw [hpv]; simp [h2, h3, h4, h5, i1, i2, i3, i4, h9, h13, h14]
   refine ad_ rfl rfl (mv_ rfl (wl_nil ?_))
   exact nx_round (k + 1) ⟨by omega, by rw [hinv.2, hat, if_pos hE]⟩ (by omega) ⟨rfl, rfl, rfl, (some_int (by omega)), trivial⟩ (fun _ hm => hm.pick [] [] [0] rfl rfl)
  refine wl_set 99 rfl (congrArg Value.bool h12) ?_
  have h13 : eqS p0 cl = false := (by have h := h12; unfold eqS; simp only [beq_eq_false_iff_ne, ne_eq] at h ⊢; exact fun e => h e.symm)
  have hE : rateE (prevOf l k) ⟨cl, fr, tt, ho, dd, we, wk⟩ = 0 := by unfold rateE; rw [hpv]; simp [h2, h3, h4, h5, i1, i2, i3, i4, h9, h13]
  refine goff rfl rfl rfl (goff rfl rfl rfl (goff rfl rfl rfl (goff rfl rfl rfl (goff rfl rfl rfl (pf_ rfl rfl (sg_ rfl (nn_ (cf_ rfl (gw_skip (nx_blk_nrm (nx_blk_nrm (nx_then ?_))))))))))))
  refine gw_region (ad_ rfl rfl (mv_ rfl (wl_nil ?_)))
  exact nx_round (k + 1) ⟨by omega, by rw [hinv.2, hat, if_pos hE]⟩ (by omega) ⟨rfl, rfl, rfl, (some_int (by omega)), trivial⟩ (fun _ hm => hm.pick [] [] [0] rfl rfl)
 have hk : ¬ (((k : Nat) : Int) < ((n : Nat) : Int)) := by simpa using hh
 clear hh
 refine gw_exit ?_
 refine nx_then_exit (nx_then_exit ?_)
 refine nx_blk_here ?_
 refine nx_then (sr_ (sg_ rfl (nn_ ?_)))
 refine gw_ret ?_
 refine nx_ret1 rfl rfl fun wx hm => ?_
 exact ⟨ret_int (by rw [hinv.2, scanE_end _ _ _ _ (by omega)]), hm.g⟩
end Go.Proofs.YtnmpniaocjmkfaaGreatDoor
namespace Go.Proofs.YtnmpniaocjmkfaaGreatDoor
open Go.RowKit
section
variable {P : Program} {nn : Nat} {S : List (Nat × Value)} {Z : World → Prop} {d : Nat} {ty : TypeId} {pos : String} {aft : Array Edge}
def kindTy (P : Program) (t : TypeId) : Option IntKind :=
  match P.underlying t with
  | some (.int k) => some k
  | _ => none
theorem kindTy_u {t : TypeId} {k : IntKind} (h : kindTy P t = some k) : P.underlying t = some (.int k) := by
  unfold kindTy at h
  cases hu : P.underlying t with
  | none => simp [hu] at h
  | some dd => cases dd <;> simp [hu] at h <;> simp [h]
theorem ov_u64 {s t : TypeId} {k : IntKind} {x : Operand} {a : Nat} (hs : kindTy P s = some .i64) (ht : kindTy P t = some .u64) (hx : rd S x = some (.int k (a : Int))) (ha : a ≤ 9223372036854775807) : OV P nn S Z ⟨some d, .convert s t x, ty, pos, aft, none⟩ (.int .u64 (a : Int)) := fun b w hb hm => by
  have h1 : IntKind.u64.wrap (a : Int) = (a : Int) := by rw [IntKind.wrap_u64]; omega
  have hk : P.intKind t = .u64 := by simp [Program.intKind, kindTy_u ht]
  have h2 := run_convert_int (P := P) w s t k (a : Int) (by rw [kindTy_u hs]; rfl) (by rw [hk]; exact kindTy_u ht)
  rw [hk, h1] at h2
  simp [execOp, hb.eval hx, h2]
end
end Go.Proofs.YtnmpniaocjmkfaaGreatDoor
namespace Go.Proofs.YtnmpniaocjmkfaaGreatDoor
open Go.RowKit
structure Ofr where
  cls : ByteArray
  cents : Int
def ofEnc (x : Ofr) : List Value := [.string x.cls, .int .i64 x.cents]
theorem of_len (x : Ofr) : (ofEnc x).length = 2 := rfl
def cmpO (a b : Ofr) : Int := firstE [cmpI a.cents b.cents, cmpS a.cls b.cls]
def ltO (a b : Ofr) : Bool := decide (cmpO a b < 0)
theorem offLess1 (ac : ByteArray) (ae : Int) (bc : ByteArray) (be : Int) (w : World) :
  Calls Tryz.prog 151 #[.agg #[.string ac, .int .i64 ae], .agg #[.string bc, .int .i64 be]] w (fun e w' => e = .returned (.int .i64 (cmpO ⟨ac, ae⟩ ⟨bc, be⟩)) ∧ w.grownBy w' none) := by
 refine gw_enter ⟨17, w, none, []⟩ Tryz.func151 rfl Tryz.ntmps151 rfl (mem0 (X := []) allF_nil allL_nil) ?_
 refine sr_ ?_
 refine wl_box rfl rfl rfl fun g1 => ?_
 refine wl_box rfl rfl rfl fun g2 => ?_
 refine sg_ rfl (nn_ (gw_seq ?_))
 refine gd (fun wz => Blk wz g2 102 [.string bc, .int .i64 be] ∧ Blk wz g1 102 [.string ac, .int .i64 ae] ∧ True) mixed (fun _ hm => ⟨hm.bl 0, hm.bl 1, trivial⟩) fun z => ?_
 refine wt 0 13 1 rfl z (ov_field fo102_1 rfl rfl) ?_
 refine wt 1 13 3 rfl z (ov_load sc3 rfl (fun _ hm => hm.2.1) rfl) ?_
 refine wt 2 13 7 rfl z (ov_field fo102_1 rfl rfl) ?_
 refine wt 3 13 15 rfl z (ov_load sc3 rfl (fun _ hm => hm.1) rfl) ?_
 refine wt 5 13 47 rfl z (ov_field fo102_0 rfl rfl) ?_
 refine wt 6 13 111 rfl z (ov_load sc9 rfl (fun _ hm => hm.2.1) rfl) ?_
 refine wt 7 13 239 rfl z (ov_field fo102_0 rfl rfl) ?_
 refine wt 8 13 495 rfl z (ov_load sc9 rfl (fun _ hm => hm.1) rfl) ?_
 refine wa1 4 rfl ?_
 refine wl_callv rfl cb153 rfl rfl (fun wx hm => (cmp_int _ _ wx)) ?_
 refine wl_nil ?_
 refine nw 13 511 (fun _ hm => ⟨hm.bl 0, hm.bl 1, trivial⟩) fun z => ?_
 refine wa1 9 rfl ?_
 refine wl_callv rfl cb154 rfl rfl (fun wx hm => (cmp_string _ _ wx)) ?_
 refine wl_nil ?_
 refine nw 13 1023 (fun _ hm => ⟨hm.bl 0, hm.bl 1, trivial⟩) fun z => ?_
 refine wa1 10 rfl ?_
 refine wl_buildSlice (e := 3) (cs := [.int .i64 (cmpI ae be), .int .i64 (cmpS ac bc)]) rfl (by kernel_rfl) rfl fun g3 => ?_
 refine wl_nil ?_
 refine nw 13 2047 (fun _ hm => ⟨hm.bl 1, hm.bl 2, trivial⟩) fun z => ?_
 refine wa1 11 rfl ?_
 refine wl_callv rfl cb152 rfl rfl (fun wx hm => (or_two _ _ _ _ _ wx (hm.blkI 0 rfl))) ?_
 refine wl_nil ?_
 refine nw 13 4095 (fun _ hm => ⟨hm.bl 1, hm.bl 2, trivial⟩) fun z => ?_
 refine wt 12 13 8191 rfl z (ov_assign rfl) ?_
 refine wa_done (by kernel_rfl) ?_
 refine nx_then ?_
 refine gw_ret ?_
 refine nx_ret1 rfl rfl fun wx hm => ?_
 exact ⟨rfl, hm.g⟩
def sgV2 (n : Int) : Int := if n < 0 then -1 else if 0 < n then 1 else 0
theorem sign2_any (n : Int) (w : World) : Calls Tryz.prog 157 #[.int .i64 n] w (GotE w (sgV2 n)) := by
 refine gw_enter ⟨9, w, none, []⟩ Tryz.func157 rfl Tryz.ntmps157 rfl (mem0 (X := []) allF_nil allL_nil) ?_
 refine sr_ (sg_ rfl (nn_ (gw_seq (gw_block (sr_ (mv_ rfl (wl_ov (ov_lss rfl rfl) rfl (sg_ rfl (nn_ ?_)))))))))
 refine gw_cond rfl (fun hh => ?_) (fun hh => ?_)
 ·have h0 : n < 0 := by simpa using hh
  clear hh
  refine sr_ (sg_ rfl ?_)
  refine wl_set 2 (v' := .int .i64 (-1)) rfl rfl ?_
  refine nn_ ?_
  refine gw_ret ?_
  refine nx_blk_ret (nx_then_ret ?_)
  refine nx_ret1 rfl rfl fun wx hm => ?_
  exact ⟨ret_int (by unfold sgV2; simp [h0]), hm.g⟩
 have h0 : ¬ (n < 0) := by simpa using hh
 clear hh
 refine sr_ (mv_ rfl ?_)
 refine wl_ov (ov_gtr rfl rfl) rfl ?_
 refine sg_ rfl (nn_ ?_)
 refine gw_cond rfl (fun hh => ?_) (fun hh => ?_)
 ·have h1 : 0 < n := by simpa using hh
  clear hh
  refine sr_ (sg_ rfl (nn_ ?_))
  refine gw_ret ?_
  refine nx_blk_ret (nx_then_ret ?_)
  refine nx_ret1 rfl rfl fun wx hm => ?_
  exact ⟨ret_int (by unfold sgV2; simp [h0, h1]), hm.g⟩
 have h1 : ¬ (0 < n) := by simpa using hh
 clear hh
 refine gw_skip (nx_blk_nrm (nx_then (sr_ (sg_ rfl (nn_ ?_)))))
 refine gw_ret ?_
 refine nx_ret1 rfl rfl fun wx hm => ?_
 exact ⟨ret_int (by unfold sgV2; simp [h0, h1]), hm.g⟩
theorem cmpO_cents {ac bc : ByteArray} {ae be : Int} (h : ¬ ae = be) : sgV2 (ae - be) = cmpO ⟨ac, ae⟩ ⟨bc, be⟩ := by
  unfold sgV2 cmpO cmpI
  dsimp only
  by_cases h1 : ae < be
  · simp [firstE, h1, show ae - be < 0 by omega]
  · have h2 : be < ae := by omega
    simp [firstE, h1, h2, show ¬ ae - be < 0 by omega]
theorem cmpO_cls {ac bc : ByteArray} {ae be : Int} (h : ae = be) : cmpS ac bc = cmpO ⟨ac, ae⟩ ⟨bc, be⟩ := by
  subst h
  unfold cmpO cmpI
  dsimp only
  rw [if_neg (by omega), if_neg (by omega)]
  by_cases h : cmpS ac bc = 0
  · simp [firstE, h]
  · simp [firstE, h]
theorem offLess2 (ac : ByteArray) (ae : Int) (bc : ByteArray) (be : Int) (w : World) (hA : -4000000000000000000 ≤ ae ∧ ae ≤ 4000000000000000000) (hB : -4000000000000000000 ≤ be ∧ be ≤ 4000000000000000000) :
  Calls Tryz.prog 156 #[.agg #[.string ac, .int .i64 ae], .agg #[.string bc, .int .i64 be]] w (fun e w' => e = .returned (.int .i64 (cmpO ⟨ac, ae⟩ ⟨bc, be⟩)) ∧ w.grownBy w' none) := by
 refine gw_enter ⟨21, w, none, []⟩ Tryz.func156 rfl Tryz.ntmps156 rfl (mem0 (X := []) allF_nil allL_nil) ?_
 refine sr_ ?_
 refine wl_box rfl rfl rfl fun g1 => ?_
 refine wl_box rfl rfl rfl fun g2 => ?_
 refine sg_ rfl (nn_ (gw_seq (sr_ (fd_ fo102_1 rfl rfl (lk_ sc3 1 rfl rfl rfl (fd_ fo102_1 rfl rfl (lk_ sc3 0 rfl rfl rfl (wl_ov (ov_neq rfl rfl) rfl (nn_ ?_)))))))))
 refine gw_cond rfl (fun hh => ?_) (fun hh => ?_)
 ·have h1 : ¬ (ae = be) := by simpa using hh
  clear hh
  refine sr_ ?_
  have hs1 : -9223372036854775808 ≤ ae - be := by omega
  have hs2 : ae - be ≤ 9223372036854775807 := by omega
  have h2 : ¬ ae = be := by simpa using h1
  refine fd_ fo102_1 rfl rfl (lk_ sc3 1 rfl rfl rfl (fd_ fo102_1 rfl rfl (lk_ sc3 0 rfl rfl rfl ?_)))
  refine wl_ov (ov_sub rfl rfl hs1 hs2) rfl ?_
  refine wl_callv rfl cb157 rfl rfl (fun wx hm => (sign2_any _ wx)) ?_
  refine sg_ rfl (nn_ ?_)
  refine gw_ret ?_
  refine nx_then_ret ?_
  refine nx_ret1 rfl rfl fun wx hm => ?_
  exact ⟨ret_int (cmpO_cents h2), hm.g⟩
 have h1 : ae = be := by simpa using hh
 clear hh
 refine gw_skip (nx_then (sr_ (fd_ fo102_0 rfl rfl (lk_ sc9 1 rfl rfl rfl (fd_ fo102_0 rfl rfl (lk_ sc9 0 rfl rfl rfl ?_))))))
 refine wl_callv rfl cb158 rfl rfl (fun wx hm => (strCompare_any _ _ wx)) ?_
 refine sg_ rfl (nn_ ?_)
 refine gw_ret ?_
 refine nx_ret1 rfl rfl fun wx hm => ?_
 exact ⟨ret_int (cmpO_cls (by simpa using h1)), hm.g⟩
theorem ins_off1  (l0 : List Ofr) (br n cap base : Nat) (w : World) (h : w.ownsRow base 102 2 (.slice (some ⟨br, 0, none⟩) n cap) n (l0.flatMap ofEnc)) (hl0 : l0.length = n) (hn : n ≤ 1000000)  :
  Calls Tryz.prog 273 #[.slice (some ⟨br, 0, none⟩) n cap, .int .i64 0, .int .i64 ((n : Nat) : Int), .func (.func 151) #[] #[]] w (fun e w' => e = .returned (.tuple #[]) ∧ w'.ownsRow base 102 2 (.slice (some ⟨br, 0, none⟩) n cap) n ((isort (ltO) l0).flatMap ofEnc) ∧ w.grownBy w' (some br)) := by
 obtain ⟨R, hR⟩ : ∃ z, z = isort (ltO) l0 := ⟨_, rfl⟩
 rw [← hR]
 refine gw_enter ⟨53, w, (some br), []⟩ Tryz.func273 rfl Tryz.ntmps273 rfl (memR (X := []) h allF_nil allL_nil) ?_
 refine sr_ (mv_ rfl (ad_ rfl rfl ?_))
 refine wl_set 11 (v' := .int .i64 1) rfl rfl ?_
 refine sg_ rfl (nn_ (gw_block ?_))
 refine gw_loop (γ := Nat × List Ofr) (fun gg => (1 ≤ gg.1 ∧ gg.1 ≤ n + 1) ∧ gg.2.length = n ∧ isortF (ltO) (n - gg.1) gg.1 gg.2 = R) (fun gg => [(0, .slice (some ⟨br, 0, none⟩) n cap), (1, .int .i64 0), (2, .int .i64 ((n : Nat) : Int)), (3, .func (.func 151) #[] #[]), (8, .int .i64 ((gg.1 : Nat) : Int))]) (fun gg => RowK base 102 2 n cap br ((gg.2).flatMap ofEnc)) (fun gg => []) (fun gg => []) (fun gg => []) (fun gg => n + 1 - gg.1) (1, l0) ⟨⟨Nat.le_refl _, by omega⟩, hl0, by rw [hR]; unfold isort; rw [hl0]⟩ ⟨rfl, rfl, rfl, rfl, (some_int (by omega)), trivial⟩ (fun _ hm => hm.pick [] [] [] rfl rfl) ?_
 rintro ⟨i, l⟩ hinv
 replace hinv : (1 ≤ i ∧ i ≤ n + 1) ∧ l.length = n ∧ isortF (ltO) (n - i) i l = R := hinv
 dsimp only
 refine gw_seq (sr_ ?_)
 obtain ⟨⟨hi1, hi2⟩, hl1, hR1⟩ := hinv
 refine mv_ rfl (mv_ rfl (wl_ov (ov_lss rfl rfl) rfl (nn_ ?_)))
 refine gw_cond rfl (fun hh => ?_) (fun hh => ?_)
 ·have hi : ((i : Nat) : Int) < ((n : Nat) : Int) := by simpa using hh
  clear hh
  refine gw_skip (nx_then (gw_seq (gw_block (sr_ ?_))))
  have hRi : isortF (ltO) (n - (i + 1)) (i + 1) (sink (ltO) i l) = R := by rw [← hR1, show n - i = (n - (i + 1)) + 1 by omega]; rfl
  obtain ⟨S, hS⟩ : ∃ z, z = sink (ltO) i l := ⟨_, rfl⟩
  rw [← hS] at hRi
  have hSl : S.length = n := by rw [hS, sink_len]; exact hl1
  refine mv_ rfl (sg_ rfl (nn_ (gw_block ?_)))
  refine gw_loop (γ := Nat × List Ofr) (fun gg => (gg.1 ≤ i) ∧ gg.2.length = n ∧ sink (ltO) gg.1 gg.2 = S) (fun gg => [(0, .slice (some ⟨br, 0, none⟩) n cap), (1, .int .i64 0), (2, .int .i64 ((n : Nat) : Int)), (3, .func (.func 151) #[] #[]), (8, .int .i64 ((i : Nat) : Int)), (9, .int .i64 ((gg.1 : Nat) : Int))]) (fun gg => RowK base 102 2 n cap br ((gg.2).flatMap ofEnc)) (fun gg => []) (fun gg => []) (fun gg => []) (fun gg => gg.1) (i, l) ⟨Nat.le_refl _, hl1, hS.symm⟩ ⟨rfl, rfl, rfl, rfl, rfl, rfl, trivial⟩ (fun _ hm => hm.pick [] [] [] rfl rfl) ?_
  rintro ⟨jj, m⟩ hinv
  replace hinv : (jj ≤ i) ∧ m.length = n ∧ sink (ltO) jj m = S := hinv
  dsimp only
  refine gw_seq (gw_seq ?_)
  obtain ⟨hj1, hm1, hS1⟩ := hinv
  rcases jj with _ | j
  ·refine gd (fun wz => True) mixed (fun _ _ => trivial) fun z => ?_
   refine wt 0 17 1 rfl z (ov_move rfl) ?_
   refine wa_set 18 (v' := .int .i64 0) rfl rfl ?_
   refine wt 1 17 3 rfl z (ov_move rfl) ?_
   refine wt 2 17 7 rfl z (ov_gtr rfl rfl) ?_
   refine wa_set 20 (v' := .bool false) rfl (congrArg Value.bool (by decide)) ?_
   refine wt 3 17 15 rfl z (ov_move rfl) ?_
   refine wtf 4 17 31 rfl rfl rfl z ?_
   refine wtf 5 17 63 rfl rfl rfl z ?_
   refine wtf 6 17 127 rfl rfl rfl z ?_
   refine wtf 7 17 255 rfl rfl rfl z ?_
   refine wtf 8 17 511 rfl rfl rfl z ?_
   refine wtf 9 17 1023 rfl rfl rfl z ?_
   refine wtf 10 17 2047 rfl rfl rfl z ?_
   refine wtf 11 17 4095 rfl rfl rfl z ?_
   refine wtf 12 17 8191 rfl rfl rfl z ?_
   refine wtf 13 17 16383 rfl rfl rfl z ?_
   refine wtf 14 17 32767 rfl rfl rfl z ?_
   refine wtf 15 17 65535 rfl rfl rfl z ?_
   refine wt 16 17 131071 rfl z (ov_pick_f rfl rfl) ?_
   refine wa_done (by kernel_rfl) ?_
   refine nx_then (cf_ rfl ?_)
   refine gw_exit ?_
   refine nx_then_exit (nx_then_exit ?_)
   refine nx_blk_here ?_
   refine nx_blk_nrm (nx_then (gw_region (mv_ rfl (ad_ rfl rfl (sg_ rfl (wl_nil ?_))))))
   have hm2 : m = S := hS1
   exact nx_round (i + 1, m) ⟨⟨by dsimp only; omega, by dsimp only; omega⟩, by rw [hm2]; exact hSl, by rw [hm2]; exact hRi⟩ (by dsimp only; omega) ⟨rfl, rfl, rfl, rfl, (some_int (by omega)), trivial⟩ (fun _ hm => hm.pick [] [] [] rfl rfl)
  have hj2 : j + 1 < n := by omega
  obtain ⟨xx, hx⟩ : ∃ x, m[j + 1]? = some x := ⟨_, List.getElem?_eq_getElem (by omega)⟩
  obtain ⟨x0, x1⟩ := xx
  obtain ⟨yy, hy⟩ : ∃ x, m[j]? = some x := ⟨_, List.getElem?_eq_getElem (by omega)⟩
  obtain ⟨y0, y1⟩ := yy
  refine gd (fun wz => (RowK base 102 2 n cap br ((m).flatMap ofEnc)) wz ∧ True) mixed (fun _ hm => ⟨hm.k, trivial⟩) fun z => ?_
  refine wt 0 17 1 rfl z (ov_move rfl) ?_
  refine wt 1 17 3 rfl z (ov_move rfl) ?_
  refine wt 2 17 7 rfl z (ov_gtr rfl rfl) ?_
  refine wa_set 20 (v' := .bool true) rfl (congrArg Value.bool (decide_eq_true (by omega))) ?_
  refine wt 3 17 15 rfl z (ov_move rfl) ?_
  refine wto 4 17 31 rfl rfl rfl z (ov_move rfl) ?_
  refine wto 5 17 63 rfl rfl rfl z (ov_move rfl) ?_
  refine wto 6 17 127 rfl rfl rfl z (ov_move rfl) ?_
  refine wto 7 17 255 rfl rfl rfl z (ov_index (j := (j + 1)) es94 rfl rfl (by omega)) ?_
  refine wto 8 17 511 rfl rfl rfl z (ov_elem (vs := [.string x0, .int .i64 x1]) rz102 rfl (fun _ hm => (RowK.get (hm.1) of_len hm1)) hx rfl rfl) ?_
  refine wto 9 17 1023 rfl rfl rfl z (ov_move rfl) ?_
  refine wto 10 17 2047 rfl rfl rfl z (ov_move rfl) ?_
  refine wto 11 17 4095 rfl rfl rfl z (ov_sub rfl rfl (by omega) (by omega)) ?_
  refine wa_set 29 (v' := .int .i64 ((j : Nat) : Int)) rfl (congrArg (Value.int .i64) (by omega)) ?_
  refine wto 12 17 8191 rfl rfl rfl z (ov_index (j := j) es94 rfl rfl (by omega)) ?_
  refine wto 13 17 16383 rfl rfl rfl z (ov_elem (vs := [.string y0, .int .i64 y1]) rz102 rfl (fun _ hm => (RowK.get (hm.1) of_len hm1)) hy rfl rfl) ?_
  refine wa1 14 rfl ?_
  refine wl_guard_on rfl rfl rfl ?_
  refine wl_callv rfl cb151 rfl rfl (fun wx hm => (offLess1 x0 x1 y0 y1 wx)) ?_
  refine wl_nil ?_
  refine nw 17 32767 (fun _ hm => ⟨hm.k, trivial⟩) fun z => ?_
  refine wto 15 17 65535 rfl rfl rfl z (ov_lss rfl rfl) ?_
  refine wt 16 17 131071 rfl z (ov_pick_t rfl rfl) ?_
  refine wa_done (by kernel_rfl) ?_
  refine nx_then ?_
  refine gw_cond rfl (fun hh => ?_) (fun hh => ?_)
  ·have hlt : cmpO ⟨x0, x1⟩ ⟨y0, y1⟩ < 0 := by simpa using hh
   clear hh
   refine gw_skip (nx_then (gw_seq (gw_block ?_)))
   have hlt2 : (ltO) ⟨x0, x1⟩ ⟨y0, y1⟩ = true := decide_eq_true (show cmpO ⟨x0, x1⟩ ⟨y0, y1⟩ < 0 from hlt)
   have hS2 := (sink_yes hx hy hlt2).symm.trans hS1
   refine gd (fun wz => True) mixed (fun _ _ => trivial) fun z => ?_
   refine wt 0 18 1 rfl z (ov_move rfl) ?_
   refine wt 1 18 3 rfl z (ov_move rfl) ?_
   refine wt 2 18 7 rfl z (ov_move rfl) ?_
   refine wt 3 18 15 rfl z (ov_move rfl) ?_
   refine wt 4 18 31 rfl z (ov_sub rfl rfl (by omega) (by omega)) ?_
   refine wa_set 41 (v' := .int .i64 ((j : Nat) : Int)) rfl (congrArg (Value.int .i64) (by omega)) ?_
   refine wt 5 18 63 rfl z (ov_move rfl) ?_
   refine wt 6 18 127 rfl z (ov_move rfl) ?_
   refine wt 7 18 255 rfl z (ov_sub rfl rfl (by omega) (by omega)) ?_
   refine wa_set 44 (v' := .int .i64 ((j : Nat) : Int)) rfl (congrArg (Value.int .i64) (by omega)) ?_
   refine wt 8 18 511 rfl z (ov_index (j := j) es94 rfl rfl (by omega)) ?_
   refine wt 10 18 1535 rfl z (ov_move rfl) ?_
   refine wt 11 18 3583 rfl z (ov_move rfl) ?_
   refine wt 12 18 7679 rfl z (ov_index (j := (j + 1)) es94 rfl rfl (by omega)) ?_
   refine wa_all [9, 13] (by kernel_rfl) rfl ⟨⟨_, rfl, ?_⟩, ⟨_, rfl, ?_⟩, trivial⟩
   ·refine wl_ov (ov_elem (vs := [.string y0, .int .i64 y1]) rz102 rfl (fun _ hm => (RowK.get hm.k of_len hm1)) hy rfl rfl) rfl ?_
    refine wl_nil ?_
    refine nw 18 8191 (fun _ _ => trivial) fun z => ?_
    refine wa1 13 rfl ?_
    refine wl_ov (ov_elem (vs := [.string x0, .int .i64 x1]) rz102 rfl (fun _ hm => (RowK.get hm.k of_len hm1)) hx rfl rfl) rfl ?_
    refine wl_nil ?_
    refine nw 18 16383 (fun _ _ => trivial) fun z => ?_
    refine wt 14 18 32767 rfl z (ov_index (j := (j + 1)) es94 rfl rfl (by omega)) ?_
    refine wa1 15 rfl ?_
    refine wl_storesRow (l := m) (j := j + 1) (r := 0) (el := ⟨x0, x1⟩) (el' := ⟨y0, y1⟩) rfl rz102 rfl rfl rfl rfl of_len rfl hx hm1 (by decide) rfl rfl ?_
    refine wl_nil ?_
    refine nw 18 65535 (fun _ _ => trivial) fun z => ?_
    refine wt 16 18 131071 rfl z (ov_index (j := j) es94 rfl rfl (by omega)) ?_
    refine wa1 17 rfl ?_
    refine wl_storesRow (l := m.set (j + 1) ⟨y0, y1⟩) (j := j) (r := 0) (el := ⟨y0, y1⟩) (el' := ⟨x0, x1⟩) rfl rz102 rfl rfl rfl rfl of_len rfl (by rw [List.getElem?_set_ne (by omega)]; exact hy) (by rw [List.length_set]; exact hm1) (by decide) rfl rfl ?_
    refine wl_nil ?_
    refine nw 18 262143 (fun _ _ => trivial) fun z => ?_
    refine wa_done (by kernel_rfl) ?_
    refine nx_blk_nrm (nx_then (gw_region (mv_ rfl ?_)))
    refine wl_ov (ov_sub rfl rfl (by omega) (by omega)) rfl ?_
    refine wl_set 36 (v' := .int .i64 ((j : Nat) : Int)) rfl (congrArg (Value.int .i64) (by omega)) ?_
    refine sg_ rfl (wl_nil ?_)
    exact nx_round (j, (m.set (j + 1) ⟨y0, y1⟩).set j ⟨x0, x1⟩) ⟨by dsimp only; omega, by simp [hm1], hS2⟩ (by dsimp only; omega) ⟨rfl, rfl, rfl, rfl, rfl, (some_int (by omega)), trivial⟩ (fun _ hm => hm.pick [] [] [] rfl rfl)
   refine wl_ov (ov_elem (vs := [.string x0, .int .i64 x1]) rz102 rfl (fun _ hm => (RowK.get hm.k of_len hm1)) hx rfl rfl) rfl ?_
   refine wl_nil ?_
   refine nw 18 15871 (fun _ _ => trivial) fun z => ?_
   refine wa1 9 rfl ?_
   refine wl_ov (ov_elem (vs := [.string y0, .int .i64 y1]) rz102 rfl (fun _ hm => (RowK.get hm.k of_len hm1)) hy rfl rfl) rfl ?_
   refine wl_nil ?_
   refine nw 18 16383 (fun _ _ => trivial) fun z => ?_
   refine wt 14 18 32767 rfl z (ov_index (j := (j + 1)) es94 rfl rfl (by omega)) ?_
   refine wa1 15 rfl ?_
   refine wl_storesRow (l := m) (j := j + 1) (r := 0) (el := ⟨x0, x1⟩) (el' := ⟨y0, y1⟩) rfl rz102 rfl rfl rfl rfl of_len rfl hx hm1 (by decide) rfl rfl ?_
   refine wl_nil ?_
   refine nw 18 65535 (fun _ _ => trivial) fun z => ?_
   refine wt 16 18 131071 rfl z (ov_index (j := j) es94 rfl rfl (by omega)) ?_
   refine wa1 17 rfl ?_
   refine wl_storesRow (l := m.set (j + 1) ⟨y0, y1⟩) (j := j) (r := 0) (el := ⟨y0, y1⟩) (el' := ⟨x0, x1⟩) rfl rz102 rfl rfl rfl rfl of_len rfl (by rw [List.getElem?_set_ne (by omega)]; exact hy) (by rw [List.length_set]; exact hm1) (by decide) rfl rfl ?_
   refine wl_nil ?_
   refine nw 18 262143 (fun _ _ => trivial) fun z => ?_
   refine wa_done (by kernel_rfl) ?_
   refine nx_blk_nrm (nx_then (gw_region (mv_ rfl ?_)))
   refine wl_ov (ov_sub rfl rfl (by omega) (by omega)) rfl ?_
   refine wl_set 36 (v' := .int .i64 ((j : Nat) : Int)) rfl (congrArg (Value.int .i64) (by omega)) ?_
   refine sg_ rfl (wl_nil ?_)
   exact nx_round (j, (m.set (j + 1) ⟨y0, y1⟩).set j ⟨x0, x1⟩) ⟨by dsimp only; omega, by simp [hm1], hS2⟩ (by dsimp only; omega) ⟨rfl, rfl, rfl, rfl, rfl, (some_int (by omega)), trivial⟩ (fun _ hm => hm.pick [] [] [] rfl rfl)
  have hlt : ¬ (cmpO ⟨x0, x1⟩ ⟨y0, y1⟩ < 0) := by simpa using hh
  clear hh
  refine gw_exit ?_
  refine nx_then_exit (nx_then_exit ?_)
  refine nx_blk_here ?_
  refine nx_blk_nrm (nx_then (gw_region ?_))
  have hlt2 : (ltO) ⟨x0, x1⟩ ⟨y0, y1⟩ = false := decide_eq_false (show ¬ cmpO ⟨x0, x1⟩ ⟨y0, y1⟩ < 0 from hlt)
  have hS2 := (sink_no hx hy hlt2).symm.trans hS1
  refine mv_ rfl (ad_ rfl rfl (sg_ rfl (wl_nil ?_)))
  have hm2 : m = S := hS2
  exact nx_round (i + 1, m) ⟨⟨by dsimp only; omega, by dsimp only; omega⟩, by rw [hm2]; exact hSl, by rw [hm2]; exact hRi⟩ (by dsimp only; omega) ⟨rfl, rfl, rfl, rfl, (some_int (by omega)), trivial⟩ (fun _ hm => hm.pick [] [] [] rfl rfl)
 have hi : ¬ (((i : Nat) : Int) < ((n : Nat) : Int)) := by simpa using hh
 clear hh
 refine gw_exit ?_
 refine nx_then_exit (nx_then_exit ?_)
 refine nx_blk_here ?_
 obtain rfl : l = R := by rw [← hR1, show n - i = 0 by omega]; rfl
 refine nx_ret0 rfl fun wx hm => ?_
 exact ⟨rfl, fin_row hm.k hm.g⟩
theorem pdq_off1  (l0 : List Ofr) (br n cap base : Nat) (lim : Int) (w : World) (h : w.ownsRow base 102 2 (.slice (some ⟨br, 0, none⟩) n cap) n (l0.flatMap ofEnc)) (hl0 : l0.length = n) (hn : n ≤ 12)  :
  Calls Tryz.prog 231 #[.slice (some ⟨br, 0, none⟩) n cap, .int .i64 0, .int .i64 ((n : Nat) : Int), .int .i64 lim, .func (.func 151) #[] #[]] w (fun e w' => e = .returned (.tuple #[]) ∧ w'.ownsRow base 102 2 (.slice (some ⟨br, 0, none⟩) n cap) n ((isort (ltO) l0).flatMap ofEnc) ∧ w.grownBy w' (some br)) := by
 refine gw_enter ⟨148, w, (some br), []⟩ Tryz.func231 rfl Tryz.ntmps231 rfl (memR (X := []) h allF_nil allL_nil) ?_
 refine sr_ (sg_ rfl (nn_ (sr_ (sg_ rfl (nn_ (gw_block ?_))))))
 refine gw_rounds 1 ?_
 refine gr_next ?_
 refine gw_block (sr_ (mv_ rfl (mv_ rfl ?_)))
 refine wl_ov (ov_sub rfl rfl (by omega) (by omega)) rfl ?_
 refine sg_ rfl (nn_ (gw_seq (sr_ (mv_ rfl (wl_ov (ov_leq rfl rfl) rfl ?_)))))
 refine wl_set 25 (v' := .bool true) rfl (congrArg Value.bool (decide_eq_true (by omega))) ?_
 refine nn_ (ct_ rfl (sr_ (mv_ rfl (mv_ rfl (mv_ rfl (mv_ rfl ?_))))))
 refine wl_callK rfl rfl rfl cb273 rfl rfl (fun wx hm => (ins_off1  l0 br n cap base wx hm.k hl0 (by omega) )) ?_
 refine nn_ ?_
 refine gw_ret ?_
 refine nx_then_ret (nx_blk_ret (nx_then_ret (nx_blk_ret ?_)))
 refine nx_ret0' rfl fun wx hm => ?_
 exact ⟨rfl, fin_row hm.k hm.g⟩
theorem sort_off1  (l0 : List Ofr) (br n cap base : Nat) (w : World) (h : w.ownsRow base 102 2 (.slice (some ⟨br, 0, none⟩) n cap) n (l0.flatMap ofEnc)) (hl0 : l0.length = n) (hn : n ≤ 12)  :
  Calls Tryz.prog 150 #[.slice (some ⟨br, 0, none⟩) n cap, .func (.func 151) #[] #[]] w (fun e w' => e = .returned (.tuple #[]) ∧ w'.ownsRow base 102 2 (.slice (some ⟨br, 0, none⟩) n cap) n ((isort (ltO) l0).flatMap ofEnc) ∧ w.grownBy w' (some br)) := by
 refine gw_enter ⟨14, w, (some br), []⟩ Tryz.func150 rfl Tryz.ntmps150 rfl (memR (X := []) h allF_nil allL_nil) ?_
 refine sr_ (mv_ rfl (wl_ov (ov_len es94 rfl) rfl (sg_ rfl (nn_ (gw_region (mv_ rfl (mv_ rfl (mv_ rfl ?_))))))))
 refine wl_ov (ov_u64 (a := n) (by kernel_rfl) (by kernel_rfl) rfl (by omega)) rfl ?_
 refine wl_callx (γ := Int) (val := (fun g => .int .i64 g)) (φ := (fun g => True)) (Y := (fun g => fun _ => True)) rfl cb232 rfl rfl (fun wx hm => (bitsLen_any n wx (by omega)).mono fun _ _ ⟨v, he, hg⟩ => ⟨v, he, trivial, hg, trivial⟩) (fun _ => Lasts2.true_) ?_
 rintro lim hphi
 clear hphi
 refine mv_ rfl ?_
 refine wl_callK rfl rfl rfl cb231 rfl rfl (fun wx hm => (pdq_off1  l0 br n cap base _ wx hm.k hl0 hn )) ?_
 refine wl_nil ?_
 refine nx_ret0 rfl fun wx hm => ?_
 exact ⟨rfl, fin_row hm.k hm.g⟩
theorem ins0_off1  (A : Option Addr) (cap : Nat)  (w : World) : Calls Tryz.prog 273 #[.slice A 0 cap, .int .i64 0, .int .i64 0, .func (.func 151) #[] #[]] w (fun e w' => e = .returned (.tuple #[]) ∧ w.grownBy w' none) := by
 refine gw_enter ⟨53, w, none, []⟩ Tryz.func273 rfl Tryz.ntmps273 rfl (mem0 (X := []) allF_nil allL_nil) ?_
 refine sr_ (mv_ rfl (ad_ rfl rfl ?_))
 refine wl_set 11 (v' := .int .i64 1) rfl rfl ?_
 refine sg_ rfl (nn_ (gw_block ?_))
 refine gw_rounds 1 ?_
 refine gr_next ?_
 refine gw_seq (sr_ (mv_ rfl (mv_ rfl (wl_ov (ov_lss rfl rfl) rfl ?_))))
 refine wl_set 14 (v' := .bool false) rfl (congrArg Value.bool (by decide)) ?_
 refine nn_ (cf_ rfl ?_)
 refine gw_exit ?_
 refine nx_then_exit (nx_then_exit ?_)
 refine nx_blk_here ?_
 refine nx_ret0 rfl fun wx hm => ?_
 exact ⟨rfl, hm.g⟩
theorem pdq0_off1  (A : Option Addr) (cap : Nat) (lim : Int) (w : World) : Calls Tryz.prog 231 #[.slice A 0 cap, .int .i64 0, .int .i64 0, .int .i64 lim, .func (.func 151) #[] #[]] w (fun e w' => e = .returned (.tuple #[]) ∧ w.grownBy w' none) := by
 refine gw_enter ⟨148, w, none, []⟩ Tryz.func231 rfl Tryz.ntmps231 rfl (mem0 (X := []) allF_nil allL_nil) ?_
 refine sr_ (sg_ rfl (nn_ (sr_ (sg_ rfl (nn_ (gw_block ?_))))))
 refine gw_rounds 1 ?_
 refine gr_next ?_
 refine gw_block (sr_ (mv_ rfl (mv_ rfl ?_)))
 refine wl_ov (ov_sub rfl rfl (by omega) (by omega)) rfl ?_
 refine wl_set 23 (v' := .int .i64 0) rfl rfl ?_
 refine sg_ rfl (nn_ (gw_seq (sr_ (mv_ rfl (wl_ov (ov_leq rfl rfl) rfl ?_)))))
 refine wl_set 25 (v' := .bool true) rfl (congrArg Value.bool (by decide)) ?_
 refine nn_ (ct_ rfl (sr_ (mv_ rfl (mv_ rfl (mv_ rfl (mv_ rfl ?_))))))
 refine wl_callv rfl cb273 rfl rfl (fun wx hm => (ins0_off1  A cap  wx)) ?_
 refine nn_ ?_
 refine gw_ret ?_
 refine nx_then_ret (nx_blk_ret (nx_then_ret (nx_blk_ret ?_)))
 refine nx_ret0' rfl fun wx hm => ?_
 exact ⟨rfl, hm.g⟩
theorem sort0_off1  (A : Option Addr) (cap : Nat)  (w : World) : Calls Tryz.prog 150 #[.slice A 0 cap, .func (.func 151) #[] #[]] w (fun e w' => e = .returned (.tuple #[]) ∧ w.grownBy w' none) := by
 refine gw_enter ⟨14, w, none, []⟩ Tryz.func150 rfl Tryz.ntmps150 rfl (mem0 (X := []) allF_nil allL_nil) ?_
 refine sr_ (mv_ rfl (wl_ov (ov_len es94 rfl) rfl ?_))
 refine wl_set 6 (v' := .int .i64 0) rfl rfl ?_
 refine sg_ rfl (nn_ (gw_region (mv_ rfl (mv_ rfl (mv_ rfl ?_)))))
 refine wl_ov (ov_u64 (a := 0) (by kernel_rfl) (by kernel_rfl) rfl (by omega)) rfl ?_
 refine wl_callx (γ := Int) (val := (fun g => .int .i64 g)) (φ := (fun g => True)) (Y := (fun g => fun _ => True)) rfl cb232 rfl rfl (fun wx hm => (by have h := bitsLen_any 0 wx (by omega); exact h.mono fun _ _ ⟨v, he, hg⟩ => ⟨v, he, trivial, hg, trivial⟩)) (fun _ => Lasts2.true_) ?_
 rintro lim hphi
 clear hphi
 refine mv_ rfl ?_
 refine wl_callv rfl cb231 rfl rfl (fun wx hm => (pdq0_off1  A cap _ wx)) ?_
 refine wl_nil ?_
 refine nx_ret0 rfl fun wx hm => ?_
 exact ⟨rfl, hm.g⟩
theorem ins_off2  (l0 : List Ofr) (br n cap base : Nat) (w : World) (h : w.ownsRow base 102 2 (.slice (some ⟨br, 0, none⟩) n cap) n (l0.flatMap ofEnc)) (hl0 : l0.length = n) (hn : n ≤ 1000000) (hB : ∀ x ∈ l0, -4000000000000000000 ≤ x.cents ∧ x.cents ≤ 4000000000000000000) :
  Calls Tryz.prog 273 #[.slice (some ⟨br, 0, none⟩) n cap, .int .i64 0, .int .i64 ((n : Nat) : Int), .func (.func 156) #[] #[]] w (fun e w' => e = .returned (.tuple #[]) ∧ w'.ownsRow base 102 2 (.slice (some ⟨br, 0, none⟩) n cap) n ((isort (ltO) l0).flatMap ofEnc) ∧ w.grownBy w' (some br)) := by
 obtain ⟨R, hR⟩ : ∃ z, z = isort (ltO) l0 := ⟨_, rfl⟩
 rw [← hR]
 refine gw_enter ⟨53, w, (some br), []⟩ Tryz.func273 rfl Tryz.ntmps273 rfl (memR (X := []) h allF_nil allL_nil) ?_
 refine sr_ (mv_ rfl (ad_ rfl rfl ?_))
 refine wl_set 11 (v' := .int .i64 1) rfl rfl ?_
 refine sg_ rfl (nn_ (gw_block ?_))
 refine gw_loop (γ := Nat × List Ofr) (fun gg => (1 ≤ gg.1 ∧ gg.1 ≤ n + 1) ∧ gg.2.length = n ∧ isortF (ltO) (n - gg.1) gg.1 gg.2 = R) (fun gg => [(0, .slice (some ⟨br, 0, none⟩) n cap), (1, .int .i64 0), (2, .int .i64 ((n : Nat) : Int)), (3, .func (.func 156) #[] #[]), (8, .int .i64 ((gg.1 : Nat) : Int))]) (fun gg => RowK base 102 2 n cap br ((gg.2).flatMap ofEnc)) (fun gg => []) (fun gg => []) (fun gg => []) (fun gg => n + 1 - gg.1) (1, l0) ⟨⟨Nat.le_refl _, by omega⟩, hl0, by rw [hR]; unfold isort; rw [hl0]⟩ ⟨rfl, rfl, rfl, rfl, (some_int (by omega)), trivial⟩ (fun _ hm => hm.pick [] [] [] rfl rfl) ?_
 rintro ⟨i, l⟩ hinv
 replace hinv : (1 ≤ i ∧ i ≤ n + 1) ∧ l.length = n ∧ isortF (ltO) (n - i) i l = R := hinv
 dsimp only
 refine gw_seq (sr_ ?_)
 obtain ⟨⟨hi1, hi2⟩, hl1, hR1⟩ := hinv
 refine mv_ rfl (mv_ rfl (wl_ov (ov_lss rfl rfl) rfl (nn_ ?_)))
 refine gw_cond rfl (fun hh => ?_) (fun hh => ?_)
 ·have hi : ((i : Nat) : Int) < ((n : Nat) : Int) := by simpa using hh
  clear hh
  refine gw_skip (nx_then (gw_seq (gw_block (sr_ ?_))))
  have hRi : isortF (ltO) (n - (i + 1)) (i + 1) (sink (ltO) i l) = R := by rw [← hR1, show n - i = (n - (i + 1)) + 1 by omega]; rfl
  obtain ⟨S, hS⟩ : ∃ z, z = sink (ltO) i l := ⟨_, rfl⟩
  rw [← hS] at hRi
  have hSl : S.length = n := by rw [hS, sink_len]; exact hl1
  refine mv_ rfl (sg_ rfl (nn_ (gw_block ?_)))
  refine gw_loop (γ := Nat × List Ofr) (fun gg => (gg.1 ≤ i) ∧ gg.2.length = n ∧ sink (ltO) gg.1 gg.2 = S) (fun gg => [(0, .slice (some ⟨br, 0, none⟩) n cap), (1, .int .i64 0), (2, .int .i64 ((n : Nat) : Int)), (3, .func (.func 156) #[] #[]), (8, .int .i64 ((i : Nat) : Int)), (9, .int .i64 ((gg.1 : Nat) : Int))]) (fun gg => RowK base 102 2 n cap br ((gg.2).flatMap ofEnc)) (fun gg => []) (fun gg => []) (fun gg => []) (fun gg => gg.1) (i, l) ⟨Nat.le_refl _, hl1, hS.symm⟩ ⟨rfl, rfl, rfl, rfl, rfl, rfl, trivial⟩ (fun _ hm => hm.pick [] [] [] rfl rfl) ?_
  rintro ⟨jj, m⟩ hinv
  replace hinv : (jj ≤ i) ∧ m.length = n ∧ sink (ltO) jj m = S := hinv
  dsimp only
  refine gw_seq (gw_seq ?_)
  obtain ⟨hj1, hm1, hS1⟩ := hinv
  rcases jj with _ | j
  ·refine gd (fun wz => True) mixed (fun _ _ => trivial) fun z => ?_
   refine wt 0 17 1 rfl z (ov_move rfl) ?_
   refine wa_set 18 (v' := .int .i64 0) rfl rfl ?_
   refine wt 1 17 3 rfl z (ov_move rfl) ?_
   refine wt 2 17 7 rfl z (ov_gtr rfl rfl) ?_
   refine wa_set 20 (v' := .bool false) rfl (congrArg Value.bool (by decide)) ?_
   refine wt 3 17 15 rfl z (ov_move rfl) ?_
   refine wtf 4 17 31 rfl rfl rfl z ?_
   refine wtf 5 17 63 rfl rfl rfl z ?_
   refine wtf 6 17 127 rfl rfl rfl z ?_
   refine wtf 7 17 255 rfl rfl rfl z ?_
   refine wtf 8 17 511 rfl rfl rfl z ?_
   refine wtf 9 17 1023 rfl rfl rfl z ?_
   refine wtf 10 17 2047 rfl rfl rfl z ?_
   refine wtf 11 17 4095 rfl rfl rfl z ?_
   refine wtf 12 17 8191 rfl rfl rfl z ?_
   refine wtf 13 17 16383 rfl rfl rfl z ?_
   refine wtf 14 17 32767 rfl rfl rfl z ?_
   refine wtf 15 17 65535 rfl rfl rfl z ?_
   refine wt 16 17 131071 rfl z (ov_pick_f rfl rfl) ?_
   refine wa_done (by kernel_rfl) ?_
   refine nx_then (cf_ rfl ?_)
   refine gw_exit ?_
   refine nx_then_exit (nx_then_exit ?_)
   refine nx_blk_here ?_
   refine nx_blk_nrm (nx_then (gw_region (mv_ rfl (ad_ rfl rfl (sg_ rfl (wl_nil ?_))))))
   have hm2 : m = S := hS1
   exact nx_round (i + 1, m) ⟨⟨by dsimp only; omega, by dsimp only; omega⟩, by rw [hm2]; exact hSl, by rw [hm2]; exact hRi⟩ (by dsimp only; omega) ⟨rfl, rfl, rfl, rfl, (some_int (by omega)), trivial⟩ (fun _ hm => hm.pick [] [] [] rfl rfl)
  have hj2 : j + 1 < n := by omega
  have hin : ∀ z ∈ m, z ∈ l0 := fun z hz => mem_in hR hRi hS1 hz
  obtain ⟨xx, hx⟩ : ∃ x, m[j + 1]? = some x := ⟨_, List.getElem?_eq_getElem (by omega)⟩
  obtain ⟨x0, x1⟩ := xx
  obtain ⟨yy, hy⟩ : ∃ x, m[j]? = some x := ⟨_, List.getElem?_eq_getElem (by omega)⟩
  obtain ⟨y0, y1⟩ := yy
  refine gd (fun wz => (RowK base 102 2 n cap br ((m).flatMap ofEnc)) wz ∧ True) mixed (fun _ hm => ⟨hm.k, trivial⟩) fun z => ?_
  refine wt 0 17 1 rfl z (ov_move rfl) ?_
  refine wt 1 17 3 rfl z (ov_move rfl) ?_
  refine wt 2 17 7 rfl z (ov_gtr rfl rfl) ?_
  refine wa_set 20 (v' := .bool true) rfl (congrArg Value.bool (decide_eq_true (by omega))) ?_
  refine wt 3 17 15 rfl z (ov_move rfl) ?_
  refine wto 4 17 31 rfl rfl rfl z (ov_move rfl) ?_
  refine wto 5 17 63 rfl rfl rfl z (ov_move rfl) ?_
  refine wto 6 17 127 rfl rfl rfl z (ov_move rfl) ?_
  refine wto 7 17 255 rfl rfl rfl z (ov_index (j := (j + 1)) es94 rfl rfl (by omega)) ?_
  refine wto 8 17 511 rfl rfl rfl z (ov_elem (vs := [.string x0, .int .i64 x1]) rz102 rfl (fun _ hm => (RowK.get (hm.1) of_len hm1)) hx rfl rfl) ?_
  refine wto 9 17 1023 rfl rfl rfl z (ov_move rfl) ?_
  refine wto 10 17 2047 rfl rfl rfl z (ov_move rfl) ?_
  refine wto 11 17 4095 rfl rfl rfl z (ov_sub rfl rfl (by omega) (by omega)) ?_
  refine wa_set 29 (v' := .int .i64 ((j : Nat) : Int)) rfl (congrArg (Value.int .i64) (by omega)) ?_
  refine wto 12 17 8191 rfl rfl rfl z (ov_index (j := j) es94 rfl rfl (by omega)) ?_
  refine wto 13 17 16383 rfl rfl rfl z (ov_elem (vs := [.string y0, .int .i64 y1]) rz102 rfl (fun _ hm => (RowK.get (hm.1) of_len hm1)) hy rfl rfl) ?_
  refine wa1 14 rfl ?_
  refine wl_guard_on rfl rfl rfl ?_
  refine wl_callv rfl cb156 rfl rfl (fun wx hm => (offLess2 x0 x1 y0 y1 wx (hB _ (hin _ (List.mem_of_getElem? hx))) (hB _ (hin _ (List.mem_of_getElem? hy))))) ?_
  refine wl_nil ?_
  refine nw 17 32767 (fun _ hm => ⟨hm.k, trivial⟩) fun z => ?_
  refine wto 15 17 65535 rfl rfl rfl z (ov_lss rfl rfl) ?_
  refine wt 16 17 131071 rfl z (ov_pick_t rfl rfl) ?_
  refine wa_done (by kernel_rfl) ?_
  refine nx_then ?_
  refine gw_cond rfl (fun hh => ?_) (fun hh => ?_)
  ·have hlt : cmpO ⟨x0, x1⟩ ⟨y0, y1⟩ < 0 := by simpa using hh
   clear hh
   refine gw_skip (nx_then (gw_seq (gw_block ?_)))
   have hlt2 : (ltO) ⟨x0, x1⟩ ⟨y0, y1⟩ = true := decide_eq_true (show cmpO ⟨x0, x1⟩ ⟨y0, y1⟩ < 0 from hlt)
   have hS2 := (sink_yes hx hy hlt2).symm.trans hS1
   refine gd (fun wz => True) mixed (fun _ _ => trivial) fun z => ?_
   refine wt 0 18 1 rfl z (ov_move rfl) ?_
   refine wt 1 18 3 rfl z (ov_move rfl) ?_
   refine wt 2 18 7 rfl z (ov_move rfl) ?_
   refine wt 3 18 15 rfl z (ov_move rfl) ?_
   refine wt 4 18 31 rfl z (ov_sub rfl rfl (by omega) (by omega)) ?_
   refine wa_set 41 (v' := .int .i64 ((j : Nat) : Int)) rfl (congrArg (Value.int .i64) (by omega)) ?_
   refine wt 5 18 63 rfl z (ov_move rfl) ?_
   refine wt 6 18 127 rfl z (ov_move rfl) ?_
   refine wt 7 18 255 rfl z (ov_sub rfl rfl (by omega) (by omega)) ?_
   refine wa_set 44 (v' := .int .i64 ((j : Nat) : Int)) rfl (congrArg (Value.int .i64) (by omega)) ?_
   refine wt 8 18 511 rfl z (ov_index (j := j) es94 rfl rfl (by omega)) ?_
   refine wt 10 18 1535 rfl z (ov_move rfl) ?_
   refine wt 11 18 3583 rfl z (ov_move rfl) ?_
   refine wt 12 18 7679 rfl z (ov_index (j := (j + 1)) es94 rfl rfl (by omega)) ?_
   refine wa_all [9, 13] (by kernel_rfl) rfl ⟨⟨_, rfl, ?_⟩, ⟨_, rfl, ?_⟩, trivial⟩
   ·refine wl_ov (ov_elem (vs := [.string y0, .int .i64 y1]) rz102 rfl (fun _ hm => (RowK.get hm.k of_len hm1)) hy rfl rfl) rfl ?_
    refine wl_nil ?_
    refine nw 18 8191 (fun _ _ => trivial) fun z => ?_
    refine wa1 13 rfl ?_
    refine wl_ov (ov_elem (vs := [.string x0, .int .i64 x1]) rz102 rfl (fun _ hm => (RowK.get hm.k of_len hm1)) hx rfl rfl) rfl ?_
    refine wl_nil ?_
    refine nw 18 16383 (fun _ _ => trivial) fun z => ?_
    refine wt 14 18 32767 rfl z (ov_index (j := (j + 1)) es94 rfl rfl (by omega)) ?_
    refine wa1 15 rfl ?_
    refine wl_storesRow (l := m) (j := j + 1) (r := 0) (el := ⟨x0, x1⟩) (el' := ⟨y0, y1⟩) rfl rz102 rfl rfl rfl rfl of_len rfl hx hm1 (by decide) rfl rfl ?_
    refine wl_nil ?_
    refine nw 18 65535 (fun _ _ => trivial) fun z => ?_
    refine wt 16 18 131071 rfl z (ov_index (j := j) es94 rfl rfl (by omega)) ?_
    refine wa1 17 rfl ?_
    refine wl_storesRow (l := m.set (j + 1) ⟨y0, y1⟩) (j := j) (r := 0) (el := ⟨y0, y1⟩) (el' := ⟨x0, x1⟩) rfl rz102 rfl rfl rfl rfl of_len rfl (by rw [List.getElem?_set_ne (by omega)]; exact hy) (by rw [List.length_set]; exact hm1) (by decide) rfl rfl ?_
    refine wl_nil ?_
    refine nw 18 262143 (fun _ _ => trivial) fun z => ?_
    refine wa_done (by kernel_rfl) ?_
    refine nx_blk_nrm (nx_then (gw_region (mv_ rfl ?_)))
    refine wl_ov (ov_sub rfl rfl (by omega) (by omega)) rfl ?_
    refine wl_set 36 (v' := .int .i64 ((j : Nat) : Int)) rfl (congrArg (Value.int .i64) (by omega)) ?_
    refine sg_ rfl (wl_nil ?_)
    exact nx_round (j, (m.set (j + 1) ⟨y0, y1⟩).set j ⟨x0, x1⟩) ⟨by dsimp only; omega, by simp [hm1], hS2⟩ (by dsimp only; omega) ⟨rfl, rfl, rfl, rfl, rfl, (some_int (by omega)), trivial⟩ (fun _ hm => hm.pick [] [] [] rfl rfl)
   refine wl_ov (ov_elem (vs := [.string x0, .int .i64 x1]) rz102 rfl (fun _ hm => (RowK.get hm.k of_len hm1)) hx rfl rfl) rfl ?_
   refine wl_nil ?_
   refine nw 18 15871 (fun _ _ => trivial) fun z => ?_
   refine wa1 9 rfl ?_
   refine wl_ov (ov_elem (vs := [.string y0, .int .i64 y1]) rz102 rfl (fun _ hm => (RowK.get hm.k of_len hm1)) hy rfl rfl) rfl ?_
   refine wl_nil ?_
   refine nw 18 16383 (fun _ _ => trivial) fun z => ?_
   refine wt 14 18 32767 rfl z (ov_index (j := (j + 1)) es94 rfl rfl (by omega)) ?_
   refine wa1 15 rfl ?_
   refine wl_storesRow (l := m) (j := j + 1) (r := 0) (el := ⟨x0, x1⟩) (el' := ⟨y0, y1⟩) rfl rz102 rfl rfl rfl rfl of_len rfl hx hm1 (by decide) rfl rfl ?_
   refine wl_nil ?_
   refine nw 18 65535 (fun _ _ => trivial) fun z => ?_
   refine wt 16 18 131071 rfl z (ov_index (j := j) es94 rfl rfl (by omega)) ?_
   refine wa1 17 rfl ?_
   refine wl_storesRow (l := m.set (j + 1) ⟨y0, y1⟩) (j := j) (r := 0) (el := ⟨y0, y1⟩) (el' := ⟨x0, x1⟩) rfl rz102 rfl rfl rfl rfl of_len rfl (by rw [List.getElem?_set_ne (by omega)]; exact hy) (by rw [List.length_set]; exact hm1) (by decide) rfl rfl ?_
   refine wl_nil ?_
   refine nw 18 262143 (fun _ _ => trivial) fun z => ?_
   refine wa_done (by kernel_rfl) ?_
   refine nx_blk_nrm (nx_then (gw_region (mv_ rfl ?_)))
   refine wl_ov (ov_sub rfl rfl (by omega) (by omega)) rfl ?_
   refine wl_set 36 (v' := .int .i64 ((j : Nat) : Int)) rfl (congrArg (Value.int .i64) (by omega)) ?_
   refine sg_ rfl (wl_nil ?_)
   exact nx_round (j, (m.set (j + 1) ⟨y0, y1⟩).set j ⟨x0, x1⟩) ⟨by dsimp only; omega, by simp [hm1], hS2⟩ (by dsimp only; omega) ⟨rfl, rfl, rfl, rfl, rfl, (some_int (by omega)), trivial⟩ (fun _ hm => hm.pick [] [] [] rfl rfl)
  have hlt : ¬ (cmpO ⟨x0, x1⟩ ⟨y0, y1⟩ < 0) := by simpa using hh
  clear hh
  refine gw_exit ?_
  refine nx_then_exit (nx_then_exit ?_)
  refine nx_blk_here ?_
  refine nx_blk_nrm (nx_then (gw_region ?_))
  have hlt2 : (ltO) ⟨x0, x1⟩ ⟨y0, y1⟩ = false := decide_eq_false (show ¬ cmpO ⟨x0, x1⟩ ⟨y0, y1⟩ < 0 from hlt)
  have hS2 := (sink_no hx hy hlt2).symm.trans hS1
  refine mv_ rfl (ad_ rfl rfl (sg_ rfl (wl_nil ?_)))
  have hm2 : m = S := hS2
  exact nx_round (i + 1, m) ⟨⟨by dsimp only; omega, by dsimp only; omega⟩, by rw [hm2]; exact hSl, by rw [hm2]; exact hRi⟩ (by dsimp only; omega) ⟨rfl, rfl, rfl, rfl, (some_int (by omega)), trivial⟩ (fun _ hm => hm.pick [] [] [] rfl rfl)
 have hi : ¬ (((i : Nat) : Int) < ((n : Nat) : Int)) := by simpa using hh
 clear hh
 refine gw_exit ?_
 refine nx_then_exit (nx_then_exit ?_)
 refine nx_blk_here ?_
 obtain rfl : l = R := by rw [← hR1, show n - i = 0 by omega]; rfl
 refine nx_ret0 rfl fun wx hm => ?_
 exact ⟨rfl, fin_row hm.k hm.g⟩
theorem pdq_off2  (l0 : List Ofr) (br n cap base : Nat) (lim : Int) (w : World) (h : w.ownsRow base 102 2 (.slice (some ⟨br, 0, none⟩) n cap) n (l0.flatMap ofEnc)) (hl0 : l0.length = n) (hn : n ≤ 12) (hB : ∀ x ∈ l0, -4000000000000000000 ≤ x.cents ∧ x.cents ≤ 4000000000000000000) :
  Calls Tryz.prog 231 #[.slice (some ⟨br, 0, none⟩) n cap, .int .i64 0, .int .i64 ((n : Nat) : Int), .int .i64 lim, .func (.func 156) #[] #[]] w (fun e w' => e = .returned (.tuple #[]) ∧ w'.ownsRow base 102 2 (.slice (some ⟨br, 0, none⟩) n cap) n ((isort (ltO) l0).flatMap ofEnc) ∧ w.grownBy w' (some br)) := by
 refine gw_enter ⟨148, w, (some br), []⟩ Tryz.func231 rfl Tryz.ntmps231 rfl (memR (X := []) h allF_nil allL_nil) ?_
 refine sr_ (sg_ rfl (nn_ (sr_ (sg_ rfl (nn_ (gw_block ?_))))))
 refine gw_rounds 1 ?_
 refine gr_next ?_
 refine gw_block (sr_ (mv_ rfl (mv_ rfl ?_)))
 refine wl_ov (ov_sub rfl rfl (by omega) (by omega)) rfl ?_
 refine sg_ rfl (nn_ (gw_seq (sr_ (mv_ rfl (wl_ov (ov_leq rfl rfl) rfl ?_)))))
 refine wl_set 25 (v' := .bool true) rfl (congrArg Value.bool (decide_eq_true (by omega))) ?_
 refine nn_ (ct_ rfl (sr_ (mv_ rfl (mv_ rfl (mv_ rfl (mv_ rfl ?_))))))
 refine wl_callK rfl rfl rfl cb273 rfl rfl (fun wx hm => (ins_off2  l0 br n cap base wx hm.k hl0 (by omega) hB)) ?_
 refine nn_ ?_
 refine gw_ret ?_
 refine nx_then_ret (nx_blk_ret (nx_then_ret (nx_blk_ret ?_)))
 refine nx_ret0' rfl fun wx hm => ?_
 exact ⟨rfl, fin_row hm.k hm.g⟩
theorem sort_off2  (l0 : List Ofr) (br n cap base : Nat) (w : World) (h : w.ownsRow base 102 2 (.slice (some ⟨br, 0, none⟩) n cap) n (l0.flatMap ofEnc)) (hl0 : l0.length = n) (hn : n ≤ 12) (hB : ∀ x ∈ l0, -4000000000000000000 ≤ x.cents ∧ x.cents ≤ 4000000000000000000) :
  Calls Tryz.prog 150 #[.slice (some ⟨br, 0, none⟩) n cap, .func (.func 156) #[] #[]] w (fun e w' => e = .returned (.tuple #[]) ∧ w'.ownsRow base 102 2 (.slice (some ⟨br, 0, none⟩) n cap) n ((isort (ltO) l0).flatMap ofEnc) ∧ w.grownBy w' (some br)) := by
 refine gw_enter ⟨14, w, (some br), []⟩ Tryz.func150 rfl Tryz.ntmps150 rfl (memR (X := []) h allF_nil allL_nil) ?_
 refine sr_ (mv_ rfl (wl_ov (ov_len es94 rfl) rfl (sg_ rfl (nn_ (gw_region (mv_ rfl (mv_ rfl (mv_ rfl ?_))))))))
 refine wl_ov (ov_u64 (a := n) (by kernel_rfl) (by kernel_rfl) rfl (by omega)) rfl ?_
 refine wl_callx (γ := Int) (val := (fun g => .int .i64 g)) (φ := (fun g => True)) (Y := (fun g => fun _ => True)) rfl cb232 rfl rfl (fun wx hm => (bitsLen_any n wx (by omega)).mono fun _ _ ⟨v, he, hg⟩ => ⟨v, he, trivial, hg, trivial⟩) (fun _ => Lasts2.true_) ?_
 rintro lim hphi
 clear hphi
 refine mv_ rfl ?_
 refine wl_callK rfl rfl rfl cb231 rfl rfl (fun wx hm => (pdq_off2  l0 br n cap base _ wx hm.k hl0 hn hB)) ?_
 refine wl_nil ?_
 refine nx_ret0 rfl fun wx hm => ?_
 exact ⟨rfl, fin_row hm.k hm.g⟩
theorem ins0_off2  (A : Option Addr) (cap : Nat)  (w : World) : Calls Tryz.prog 273 #[.slice A 0 cap, .int .i64 0, .int .i64 0, .func (.func 156) #[] #[]] w (fun e w' => e = .returned (.tuple #[]) ∧ w.grownBy w' none) := by
 refine gw_enter ⟨53, w, none, []⟩ Tryz.func273 rfl Tryz.ntmps273 rfl (mem0 (X := []) allF_nil allL_nil) ?_
 refine sr_ (mv_ rfl (ad_ rfl rfl ?_))
 refine wl_set 11 (v' := .int .i64 1) rfl rfl ?_
 refine sg_ rfl (nn_ (gw_block ?_))
 refine gw_rounds 1 ?_
 refine gr_next ?_
 refine gw_seq (sr_ (mv_ rfl (mv_ rfl (wl_ov (ov_lss rfl rfl) rfl ?_))))
 refine wl_set 14 (v' := .bool false) rfl (congrArg Value.bool (by decide)) ?_
 refine nn_ (cf_ rfl ?_)
 refine gw_exit ?_
 refine nx_then_exit (nx_then_exit ?_)
 refine nx_blk_here ?_
 refine nx_ret0 rfl fun wx hm => ?_
 exact ⟨rfl, hm.g⟩
theorem pdq0_off2  (A : Option Addr) (cap : Nat) (lim : Int) (w : World) : Calls Tryz.prog 231 #[.slice A 0 cap, .int .i64 0, .int .i64 0, .int .i64 lim, .func (.func 156) #[] #[]] w (fun e w' => e = .returned (.tuple #[]) ∧ w.grownBy w' none) := by
 refine gw_enter ⟨148, w, none, []⟩ Tryz.func231 rfl Tryz.ntmps231 rfl (mem0 (X := []) allF_nil allL_nil) ?_
 refine sr_ (sg_ rfl (nn_ (sr_ (sg_ rfl (nn_ (gw_block ?_))))))
 refine gw_rounds 1 ?_
 refine gr_next ?_
 refine gw_block (sr_ (mv_ rfl (mv_ rfl ?_)))
 refine wl_ov (ov_sub rfl rfl (by omega) (by omega)) rfl ?_
 refine wl_set 23 (v' := .int .i64 0) rfl rfl ?_
 refine sg_ rfl (nn_ (gw_seq (sr_ (mv_ rfl (wl_ov (ov_leq rfl rfl) rfl ?_)))))
 refine wl_set 25 (v' := .bool true) rfl (congrArg Value.bool (by decide)) ?_
 refine nn_ (ct_ rfl (sr_ (mv_ rfl (mv_ rfl (mv_ rfl (mv_ rfl ?_))))))
 refine wl_callv rfl cb273 rfl rfl (fun wx hm => (ins0_off2  A cap  wx)) ?_
 refine nn_ ?_
 refine gw_ret ?_
 refine nx_then_ret (nx_blk_ret (nx_then_ret (nx_blk_ret ?_)))
 refine nx_ret0' rfl fun wx hm => ?_
 exact ⟨rfl, hm.g⟩
theorem sort0_off2  (A : Option Addr) (cap : Nat)  (w : World) : Calls Tryz.prog 150 #[.slice A 0 cap, .func (.func 156) #[] #[]] w (fun e w' => e = .returned (.tuple #[]) ∧ w.grownBy w' none) := by
 refine gw_enter ⟨14, w, none, []⟩ Tryz.func150 rfl Tryz.ntmps150 rfl (mem0 (X := []) allF_nil allL_nil) ?_
 refine sr_ (mv_ rfl (wl_ov (ov_len es94 rfl) rfl ?_))
 refine wl_set 6 (v' := .int .i64 0) rfl rfl ?_
 refine sg_ rfl (nn_ (gw_region (mv_ rfl (mv_ rfl (mv_ rfl ?_)))))
 refine wl_ov (ov_u64 (a := 0) (by kernel_rfl) (by kernel_rfl) rfl (by omega)) rfl ?_
 refine wl_callx (γ := Int) (val := (fun g => .int .i64 g)) (φ := (fun g => True)) (Y := (fun g => fun _ => True)) rfl cb232 rfl rfl (fun wx hm => (by have h := bitsLen_any 0 wx (by omega); exact h.mono fun _ _ ⟨v, he, hg⟩ => ⟨v, he, trivial, hg, trivial⟩)) (fun _ => Lasts2.true_) ?_
 rintro lim hphi
 clear hphi
 refine mv_ rfl ?_
 refine wl_callv rfl cb231 rfl rfl (fun wx hm => (pdq0_off2  A cap _ wx)) ?_
 refine wl_nil ?_
 refine nx_ret0 rfl fun wx hm => ?_
 exact ⟨rfl, hm.g⟩
end Go.Proofs.YtnmpniaocjmkfaaGreatDoor
namespace Go.Proofs.YtnmpniaocjmkfaaGreatDoor
structure Cd where
  key : ByteArray
  cls : ByteArray
  fr : Int
  to_ : Int
  days : Int
  mille : Int
def CdOk (x : Cd) : Prop := x.key.size ≤ 1000000 ∧ x.cls.size ≤ 1000000
def emptyS (s : ByteArray) : Bool := s.toList == (⟨#[]⟩ : ByteArray).toList
def leCd (p : Option Cd) (b : Cd) : Bool := match p with
  | none => false
  | some q => leB b.key q.key
def codeE (p : Option Cd) (b : Cd) : Int :=
  if !keyB b.key then 5 else if leCd p b then 7 else if !emptyS b.cls && !keyB b.cls then 5 else if !inB b.fr 0 b.to_ then 1 else if 4001 < b.to_ then 1 else if !inB b.days 1 120 then 1 else if !inB b.mille 1 1000 then 1 else 0
def codesE (l : List Cd) : Int := if 50 < l.length then 2 else scanE codeE none l
def prevCd (l : List Cd) (k : Nat) : ByteArray := match prevOf l k with
  | none => ⟨#[]⟩
  | some q => q.key
theorem prevCd_succ {l : List Cd} {k : Nat} {x : Cd} (h : l[k]? = some x) : prevCd l (k + 1) = x.key := by
  unfold prevCd prevOf; rw [if_neg (by omega), Nat.add_sub_cancel, h]
theorem leB_lt {a b : ByteArray} (h : leB b a = false) : Go.Op.bytesLess a.toList b.toList = true := by
  unfold leB at h
  simp only [Bool.or_eq_false_iff] at h
  cases h2 : Go.Op.bytesLess a.toList b.toList
  · have e := bl_tri h2 h.1
    rw [e] at h; simp at h
  · rfl
theorem codeE_ok {p : Option Cd} {b : Cd} (h : codeE p b = 0) : keyB b.key = true ∧ leCd p b = false ∧ (0 ≤ b.fr ∧ b.fr ≤ b.to_ ∧ b.to_ ≤ 4001) ∧ (1 ≤ b.days ∧ b.days ≤ 120) ∧ (1 ≤ b.mille ∧ b.mille ≤ 1000) := by
  unfold codeE at h
  cases h1 : keyB b.key
  · rw [h1] at h; simp at h
  · cases h2 : leCd p b
    · rw [h1, h2] at h
      simp only [Bool.not_true, Bool.false_eq_true, if_false] at h
      split at h
      · cases h
      · split at h
        · cases h
        · split at h
          · cases h
          · split at h
            · cases h
            · split at h
              · cases h
              · rename_i h3 h4 h5 h6
                have h3 := inB_iff.1 (by simpa using h3)
                have h5 := inB_iff.1 (by simpa using h5)
                have h6 := inB_iff.1 (by simpa using h6)
                exact ⟨rfl, rfl, by omega, h5, h6⟩
    · rw [h1, h2] at h; simp at h
theorem codesE_ok {l : List Cd} (h : codesE l = 0) : l.length ≤ 50 ∧ l.Pairwise (fun q r => Go.Op.bytesLess q.key.toList r.key.toList = true) ∧ ∀ b ∈ l, keyB b.key = true ∧ (0 ≤ b.fr ∧ b.fr ≤ b.to_ ∧ b.to_ ≤ 4001) ∧ (1 ≤ b.days ∧ b.days ≤ 120) ∧ (1 ≤ b.mille ∧ b.mille ≤ 1000) := by
  unfold codesE at h
  split at h
  · cases h
  · refine ⟨by omega, (scan_pair (R := fun q r => Go.Op.bytesLess q.key.toList r.key.toList = true) (fun q x hq => leB_lt (codeE_ok hq).2.1) (fun _ _ _ => bl_trans) h).1, fun b hb => ?_⟩
    obtain ⟨q, hq⟩ := scan_each h b hb
    obtain ⟨h1, _, h2⟩ := codeE_ok hq
    exact ⟨h1, h2⟩
def codeP (k : ByteArray) (x : Cd) : Bool := x.key.toList == k.toList
theorem ix_any {α : Type} {p : α → Bool} {l : List α} : decide (0 ≤ ixP p l 0) = l.any p := by
  rcases ixP_spec (p := p) l 0 with ⟨h, h2⟩ | ⟨j, y, h, hj, hp, _⟩
  · rw [h, decide_eq_false (by omega)]
    exact (List.any_eq_false.2 fun x hx => by simpa using h2 x hx).symm
  · rw [h, decide_eq_true (by omega)]
    exact (List.any_eq_true.2 ⟨y, List.mem_of_getElem? hj, hp⟩).symm
/-- The error of keys that are asked for. -/
def askG (has : ByteArray → Bool) : List ByteArray → List ByteArray → Int
  | _, [] => 0
  | seen, k :: r => if has k = false then 8 else if seen.any (fun y => k.toList == y.toList) = true then 6 else askG has (seen ++ [k]) r
def askE (has : ByteArray → Bool) (keys : List ByteArray) : Int := if 10 < keys.length then 2 else askG has [] keys
theorem askG_at {has : ByteArray → Bool} {keys : List ByteArray} {i : Nat} {k : ByteArray} (h : keys[i]? = some k) : askG has (keys.take i) (keys.drop i) = if has k = false then 8 else if (keys.take i).any (fun y => k.toList == y.toList) = true then 6 else askG has (keys.take (i + 1)) (keys.drop (i + 1)) := by
  obtain ⟨hi, rfl⟩ := List.getElem?_eq_some_iff.1 h
  rw [List.drop_eq_getElem_cons hi]
  simp only [askG]
  rw [List.take_add_one, List.getElem?_eq_getElem hi]
  rfl
theorem askG_ok {has : ByteArray → Bool} : ∀ {keys seen : List ByteArray}, askG has seen keys = 0 → ∀ k ∈ keys, has k = true
  | [], _, _, _, h => by cases h
  | x :: r, seen, h, k, hk => by
    unfold askG at h
    split at h
    · cases h
    · split at h
      · cases h
      · rename_i h1 _
        rcases List.mem_cons.1 hk with rfl | hk
        · simpa using h1
        · exact askG_ok h k hk
theorem askE_ok {has : ByteArray → Bool} {keys : List ByteArray} (h : askE has keys = 0) : keys.length ≤ 10 ∧ ∀ k ∈ keys, has k = true := by
  unfold askE at h
  split at h
  · cases h
  · exact ⟨by omega, askG_ok h⟩
def offV (cents : Int) (c : Cd) : Int := cents * c.mille / 1000
def countsB (c : Cd) (cls : ByteArray) (fr tt : Int) : Bool := (emptyS c.cls || c.cls.toList == cls.toList) && inB (fr / 1440) c.fr (c.to_ - 1) && decide (c.days ≤ daysV fr tt)
/-- One step of the search by keys. -/
def bestS (l : List Cd) (cls : ByteArray) (fr tt cents : Int) (st : ByteArray × Int) (k : ByteArray) : ByteArray × Int :=
  match l[(ixP (codeP k) l 0).toNat]? with
  | none => st
  | some c => if countsB c cls fr tt = true ∧ (emptyS st.1 = true ∨ st.2 < offV cents c ∨ (offV cents c = st.2 ∧ ltS k st.1 = true)) then (k, offV cents c) else st
def bestK (l : List Cd) (keys : List ByteArray) (cls : ByteArray) (fr tt cents : Int) : ByteArray × Int := keys.foldl (bestS l cls fr tt cents) (⟨#[]⟩, 0)
/-- One step of the search by codes. -/
def bestT (keys : List ByteArray) (cls : ByteArray) (fr tt cents : Int) (st : ByteArray × Int) (c : Cd) : ByteArray × Int :=
  if keys.any (fun y => c.key.toList == y.toList) = true ∧ countsB c cls fr tt = true ∧ st.2 < offV cents c then (c.key, offV cents c) else st
def bestC (l : List Cd) (keys : List ByteArray) (cls : ByteArray) (fr tt cents : Int) : ByteArray × Int := l.foldl (bestT keys cls fr tt cents) (⟨#[]⟩, -1)
section
variable {l : List Cd} {keys : List ByteArray} {cls : ByteArray} {fr tt cents : Int}
/-- The best of some codes. -/
def IsTop (cents : Int) (G : Cd → Prop) (z : Int) (st : ByteArray × Int) : Prop :=
  ((∀ c, ¬ G c) ∧ st = (⟨#[]⟩, z)) ∨ ∃ c, G c ∧ st.1.toList = c.key.toList ∧ st.2 = offV cents c ∧ ∀ d, G d → offV cents d < offV cents c ∨ (offV cents d = offV cents c ∧ Go.Op.bytesLess d.key.toList c.key.toList = false)
theorem isTop_one {G : Cd → Prop} {z y : Int} {s t : ByteArray × Int} (h : IsTop cents G z s) (g : IsTop cents G y t) : ((∀ c, ¬ G c) ∧ s = (⟨#[]⟩, z) ∧ t = (⟨#[]⟩, y)) ∨ (s.1.toList = t.1.toList ∧ s.2 = t.2 ∧ ∃ c, G c ∧ s.2 = offV cents c) := by
  rcases h with ⟨h1, h2⟩ | ⟨c, h1, h2, h3, h4⟩ <;> rcases g with ⟨g1, g2⟩ | ⟨d, g1, g2, g3, g4⟩
  · exact .inl ⟨h1, h2, g2⟩
  · exact absurd g1 (h1 d)
  · exact absurd h1 (g1 c)
  · have a := h4 d g1
    have b := g4 c h1
    refine .inr ⟨?_, ?_, c, h1, h3⟩
    · rw [h2, g2]
      rcases a with a | ⟨a, a2⟩ <;> rcases b with b | ⟨b, b2⟩
      · omega
      · omega
      · omega
      · exact bl_tri b2 a2
    · rw [h3, g3]; omega
theorem key_ne {s : ByteArray} (h : keyB s = true) : emptyS s = false := by
  unfold emptyS
  obtain ⟨⟨l⟩⟩ := s
  cases l with
  | nil => cases h
  | cons c r => rw [ByteArray.toList_eq, ByteArray.toList_eq]; rfl
theorem emptyS_eq {s t : ByteArray} (h : s.toList = t.toList) : emptyS s = emptyS t := by unfold emptyS; rw [h]
/-- Codes with the same key are the same. -/
theorem code_same (hp : l.Pairwise (fun q r => Go.Op.bytesLess q.key.toList r.key.toList = true)) {c d : Cd} (hc : c ∈ l) (hd : d ∈ l) (h : c.key.toList = d.key.toList) : c = d := by
  obtain ⟨i, hi, rfl⟩ := List.getElem_of_mem hc
  obtain ⟨j, hj, rfl⟩ := List.getElem_of_mem hd
  rcases Nat.lt_trichotomy i j with hij | rfl | hij
  · exact absurd h (bl_ne (List.pairwise_iff_getElem.1 hp i j hi hj hij))
  · rfl
  · exact absurd h.symm (bl_ne (List.pairwise_iff_getElem.1 hp j i hj hi hij))
/-- The codes that count, among the first keys. -/
def GK (l : List Cd) (ks : List ByteArray) (cls : ByteArray) (fr tt : Int) (c : Cd) : Prop := c ∈ l ∧ countsB c cls fr tt = true ∧ ks.any (fun y => c.key.toList == y.toList) = true
theorem bestK_top (h0 : codesE l = 0) : ∀ (done rest : List ByteArray) (st : ByteArray × Int), (∀ k ∈ rest, l.any (codeP k) = true) → IsTop cents (GK l done cls fr tt) 0 st → IsTop cents (GK l (done ++ rest) cls fr tt) 0 (rest.foldl (bestS l cls fr tt cents) st)
  | done, [], st, _, h => by simpa using h
  | done, k :: r, st, hk, h => by
    obtain ⟨_, hp, hall⟩ := codesE_ok h0
    have hstep : IsTop cents (GK l (done ++ [k]) cls fr tt) 0 (bestS l cls fr tt cents st k) := by
      have hin := hk k (List.mem_cons_self ..)
      rw [← ix_any] at hin
      obtain ⟨c, hc, hcp⟩ := ixP_get (p := codeP k) (l := l) (of_decide_eq_true hin)
      have hcl := List.mem_of_getElem? hc
      have hck : c.key.toList = k.toList := by unfold codeP at hcp; simpa using hcp
      have hG : ∀ d, GK l (done ++ [k]) cls fr tt d ↔ GK l done cls fr tt d ∨ (d = c ∧ countsB c cls fr tt = true) := fun d => by
        unfold GK
        rw [List.any_append, Bool.or_eq_true]
        constructor
        · rintro ⟨h1, h2, h3 | h3⟩
          · exact .inl ⟨h1, h2, h3⟩
          · have e : d = c := code_same hp h1 hcl (by rw [hck]; simpa using h3)
            exact .inr ⟨e, e ▸ h2⟩
        · rintro (⟨h1, h2, h3⟩ | ⟨rfl, h2⟩)
          · exact ⟨h1, h2, .inl h3⟩
          · exact ⟨hcl, h2, .inr (by simp [hck])⟩
      unfold bestS
      rw [hc]
      dsimp only
      by_cases hcb : countsB c cls fr tt = true
      · by_cases hb : emptyS st.1 = true ∨ st.2 < offV cents c ∨ (offV cents c = st.2 ∧ ltS k st.1 = true)
        · rw [if_pos ⟨hcb, hb⟩]
          refine .inr ⟨c, (hG c).2 (.inr ⟨rfl, hcb⟩), hck.symm, rfl, fun d hd => ?_⟩
          rcases (hG d).1 hd with hd | ⟨rfl, _⟩
          · rcases h with ⟨h1, _⟩ | ⟨b, hbG, hb1, hb2, hb3⟩
            · exact absurd hd (h1 d)
            · have hbe : emptyS st.1 = false := by rw [emptyS_eq hb1]; exact key_ne (hall b hbG.1).1
              have h4 := hb3 d hd
              rcases hb with hb | hb | ⟨hb, hlt⟩
              · rw [hbe] at hb; cases hb
              · left; omega
              · rcases h4 with h4 | ⟨h4, h5⟩
                · left; omega
                · right
                  refine ⟨by omega, ?_⟩
                  unfold ltS at hlt
                  rw [hb1] at hlt
                  rw [hck]
                  cases h6 : Go.Op.bytesLess d.key.toList k.toList
                  · rfl
                  · rw [bl_trans h6 hlt] at h5; cases h5
          · right; exact ⟨rfl, bl_irrefl _⟩
        · rw [if_neg (fun e => hb e.2)]
          simp only [not_or, not_and] at hb
          obtain ⟨hb1, hb2, hb3⟩ := hb
          rcases h with ⟨_, h2⟩ | ⟨b, hbG, g1, g2, g3⟩
          · rw [h2] at hb1; exact absurd (by unfold emptyS; exact beq_self_eq_true _) hb1
          · refine .inr ⟨b, (hG b).2 (.inl hbG), g1, g2, fun d hd => ?_⟩
            rcases (hG d).1 hd with hd | ⟨rfl, _⟩
            · exact g3 d hd
            · by_cases he : offV cents d = st.2
              · right
                refine ⟨by omega, ?_⟩
                have := hb3 he
                unfold ltS at this
                rw [g1, ← hck] at this
                simpa using this
              · left; omega
      · rw [if_neg (fun e => hcb e.1)]
        have hG2 : ∀ d, GK l (done ++ [k]) cls fr tt d ↔ GK l done cls fr tt d := fun d => by
          rw [hG]
          exact ⟨fun e => e.elim id (fun e => absurd e.2 hcb), .inl⟩
        rcases h with ⟨h1, h2⟩ | ⟨b, hbG, g1, g2, g3⟩
        · exact .inl ⟨fun d hd => h1 d ((hG2 d).1 hd), h2⟩
        · exact .inr ⟨b, (hG2 b).2 hbG, g1, g2, fun d hd => g3 d ((hG2 d).1 hd)⟩
    have := bestK_top h0 (done ++ [k]) r _ (fun x hx => hk x (List.mem_cons_of_mem _ hx)) hstep
    simpa using this
theorem bestC_top (hc0 : 0 ≤ cents) (h0 : ∀ c ∈ l, 1 ≤ c.mille) (keys : List ByteArray) : ∀ (done rest : List Cd) (st : ByteArray × Int), done ++ rest = l → l.Pairwise (fun q r => Go.Op.bytesLess q.key.toList r.key.toList = true) → IsTop cents (fun c => c ∈ done ∧ countsB c cls fr tt = true ∧ keys.any (fun y => c.key.toList == y.toList) = true) (-1) st → IsTop cents (fun c => c ∈ l ∧ countsB c cls fr tt = true ∧ keys.any (fun y => c.key.toList == y.toList) = true) (-1) (rest.foldl (bestT keys cls fr tt cents) st)
  | done, [], st, e, _, h => by rw [List.append_nil] at e; subst e; exact h
  | done, c :: r, st, e, hp, h => by
    have hoff : 0 ≤ offV cents c := by
      have hm := h0 c (by rw [← e]; simp)
      unfold offV
      exact Int.ediv_nonneg (Int.mul_nonneg hc0 (by omega)) (by omega)
    have hlt : ∀ d ∈ done, Go.Op.bytesLess d.key.toList c.key.toList = true := fun d hd => by
      rw [← e] at hp
      exact (List.pairwise_append.1 hp).2.2 d hd c (List.mem_cons_self ..)
    refine bestC_top hc0 h0 keys (done ++ [c]) r _ (by rw [List.append_assoc]; exact e) hp ?_
    have hG : ∀ d, (d ∈ done ++ [c] ∧ countsB d cls fr tt = true ∧ keys.any (fun y => d.key.toList == y.toList) = true) ↔ (d ∈ done ∧ countsB d cls fr tt = true ∧ keys.any (fun y => d.key.toList == y.toList) = true) ∨ (d = c ∧ countsB c cls fr tt = true ∧ keys.any (fun y => c.key.toList == y.toList) = true) := fun d => by
      rw [List.mem_append, List.mem_singleton]
      constructor
      · rintro ⟨h1 | rfl, h2⟩
        · exact .inl ⟨h1, h2⟩
        · exact .inr ⟨rfl, h2⟩
      · rintro (⟨h1, h2⟩ | ⟨rfl, h2⟩)
        · exact ⟨.inl h1, h2⟩
        · exact ⟨.inr rfl, h2⟩
    unfold bestT
    by_cases hb : keys.any (fun y => c.key.toList == y.toList) = true ∧ countsB c cls fr tt = true ∧ st.2 < offV cents c
    · rw [if_pos hb]
      refine .inr ⟨c, (hG c).2 (.inr ⟨rfl, hb.2.1, hb.1⟩), rfl, rfl, fun d hd => ?_⟩
      rcases (hG d).1 hd with hd | ⟨rfl, _⟩
      · rcases h with ⟨h1, _⟩ | ⟨b, _, _, g2, g3⟩
        · exact absurd hd (h1 d)
        · have := g3 d hd
          have := hb.2.2
          left; omega
      · right; exact ⟨rfl, bl_irrefl _⟩
    · rw [if_neg hb]
      by_cases hc : countsB c cls fr tt = true ∧ keys.any (fun y => c.key.toList == y.toList) = true
      · rcases h with ⟨_, h2⟩ | ⟨b, hbG, g1, g2, g3⟩
        · rw [h2] at hb
          exact absurd ⟨hc.2, hc.1, show (-1 : Int) < offV cents c by omega⟩ hb
        · refine .inr ⟨b, (hG b).2 (.inl hbG), g1, g2, fun d hd => ?_⟩
          rcases (hG d).1 hd with hd | ⟨rfl, _⟩
          · exact g3 d hd
          · by_cases he : offV cents d = offV cents b
            · right; exact ⟨he, bl_asymm (hlt b hbG.1)⟩
            · left
              have : ¬ st.2 < offV cents d := fun e => hb ⟨hc.2, hc.1, e⟩
              omega
      · have hG2 : ∀ d, (d ∈ done ++ [c] ∧ countsB d cls fr tt = true ∧ keys.any (fun y => d.key.toList == y.toList) = true) ↔ (d ∈ done ∧ countsB d cls fr tt = true ∧ keys.any (fun y => d.key.toList == y.toList) = true) := fun d => by
          rw [hG]
          exact ⟨fun e => e.elim id (fun e => absurd e.2 hc), .inl⟩
        rcases h with ⟨h1, h2⟩ | ⟨b, hbG, g1, g2, g3⟩
        · exact .inl ⟨fun d hd => h1 d ((hG2 d).1 hd), h2⟩
        · exact .inr ⟨b, (hG2 b).2 hbG, g1, g2, fun d hd => g3 d ((hG2 d).1 hd)⟩
/-- Both searches find the same. -/
theorem best_same (h0 : codesE l = 0) (hk : ∀ k ∈ keys, l.any (codeP k) = true) (hc0 : 0 ≤ cents) : (bestK l keys cls fr tt cents).1.toList = (bestC l keys cls fr tt cents).1.toList ∧ (bestK l keys cls fr tt cents).2 = max 0 (bestC l keys cls fr tt cents).2 := by
  obtain ⟨_, hp, hall⟩ := codesE_ok h0
  have hm : ∀ c ∈ l, 1 ≤ c.mille := fun c hc => (hall c hc).2.2.2.1
  have h1 := bestK_top (cls := cls) (fr := fr) (tt := tt) (cents := cents) h0 [] keys (⟨#[]⟩, 0) hk (.inl ⟨fun c h => by have := h.2.2; simp at this, rfl⟩)
  have h2 := bestC_top (cls := cls) (fr := fr) (tt := tt) hc0 hm keys [] l (⟨#[]⟩, -1) rfl hp (.inl ⟨fun c h => by simp at h, rfl⟩)
  rw [List.nil_append] at h1
  rcases isTop_one h1 h2 with ⟨_, e1, e2⟩ | ⟨e1, e2, c, hc, e3⟩
  · unfold bestK bestC
    rw [e1, e2]; exact ⟨rfl, by decide⟩
  · have hoff : 0 ≤ offV cents c := by
      unfold offV
      exact Int.ediv_nonneg (Int.mul_nonneg hc0 (by have := hm c hc.1; omega)) (by omega)
    unfold bestK bestC
    refine ⟨e1, ?_⟩
    rw [← e2, e3]; omega
end
end Go.Proofs.YtnmpniaocjmkfaaGreatDoor
namespace Go.Proofs.YtnmpniaocjmkfaaGreatDoor
open Go.RowKit
theorem rwhen_any (b : Bool) (e : Int) (w : World) :
    Calls Tryz.prog 29 #[.bool b, .int .i64 e] w fun r w' => r = .returned (.int .i64 (whenE b e)) ∧ w = w' := by
  cases b
  all_goals
    go_enter Tryz.func29, Tryz.ntmps29
    go_wp2_with fail
    go_ret
    exact ⟨rfl, rfl⟩
set_option maxHeartbeats 400000 in
theorem errs_any (es : List Int) (g c : Nat) (T : TypeId) (w : World) (hg : Blk w g T (es.map (Value.int .i64))) (hn : es.length ≤ 1000000) :
    Calls Tryz.prog 28 #[.slice (some ⟨g, 0, none⟩) es.length c] w fun r w' => r = .returned (.int .i64 (firstE es)) ∧ w = w' := by
  obtain ⟨n, hN⟩ : ∃ n, n = es.length := ⟨_, rfl⟩
  rw [← hN] at hn ⊢
  have HN := Lib.hid hN; clear hN
  go_enter Tryz.func28, Tryz.ntmps28
  go_wp2
  go_loop [7] (fun i => ∃ k : Nat, k ≤ n ∧ i = .int .i64 k ∧ firstE es = firstE (es.drop k)) (fun i => n - (intOf i).toNat)
  case atStart => exact ⟨0, Nat.zero_le _, rfl, rfl⟩
  case round =>
    obtain ⟨k, hk, rfl, hf⟩ := hrel
    have Hf := Lib.hid hf; clear hf
    by_cases hlt : k < n
    · have hk' : k < es.length := by have := HN.out; omega
      obtain ⟨x, hx⟩ : ∃ x, es[k] = x := ⟨_, rfl⟩
      have hc : w.cell? ⟨g, k, none⟩ = some (.int .i64 x) := hg.cell_of (by simp [hk', hx])
      have hd := firstE_drop es k hk'
      rw [hx] at hd
      have Hd := Lib.hid hd; clear hd hx
      by_cases h0 : x = 0
      · subst h0
        go_wp2
        go_round
        case rel => exact ⟨k + 1, by omega, by go_num, by rw [Hf.out, Hd.out]; rfl⟩
        case measure => simp [intOf]; omega
      · have hne : (x != 0) = true := by simpa using h0
        go_wp2
        go_ret
        exact ⟨by rw [Hf.out, Hd.out, if_neg h0]; rfl, rfl⟩
    · have hd : es.drop k = [] := List.drop_eq_nil_of_le (by have := HN.out; omega)
      have Hd := Lib.hid hd; clear hd
      go_wp2
      go_ret
      exact ⟨by rw [Hf.out, Hd.out]; rfl, rfl⟩
theorem fe_all : ∀ {l : List Int}, firstE l = 0 → ∀ e ∈ l, e = 0
  | [], _, _, h => by cases h
  | x :: r, h, e, he => by
    simp only [firstE] at h
    by_cases hx : x = 0
    · rw [if_pos hx] at h
      rcases List.mem_cons.1 he with rfl | he
      · exact hx
      · exact fe_all h e he
    · rw [if_neg hx] at h; exact absurd h hx
theorem we_ok {b : Bool} {e : Int} (he : e ≠ 0) (h : whenE b e = 0) : b = false := by
  cases b
  · rfl
  · exact absurd h he
end Go.Proofs.YtnmpniaocjmkfaaGreatDoor
namespace Go.Proofs.YtnmpniaocjmkfaaGreatDoor
open Go.RowKit
def RtPos (r : Rt) : Prop := 0 ≤ r.to_ ∧ r.to_ ≤ 4001
theorem rt_pos {l : List Rt} (h : ratesE l = 0) : ∀ r ∈ l, RtPos r := fun r hr => by
  have h1 := ((ratesE_ok h).2.2 r hr).2.1
  exact ⟨by omega, h1.2.2⟩
theorem rateP_yes {c : ByteArray} {d : Int} {r : Rt} (h : (r.cls.toList == c.toList) = true) : inB d r.fr (r.to_ - 1) = rateP c d r := by unfold rateP; rw [h]; rfl
theorem rateP_no {c : ByteArray} {d : Int} {r : Rt} (h : (r.cls.toList == c.toList) = false) : false = rateP c d r := by unfold rateP; rw [h]; rfl
theorem ratePred (cl : ByteArray) (fr tt ho dd we wk : Int) (gc gd : Nat) (c : ByteArray) (d : Int) (w : World) (hc : Blk w gc 9 [.string c]) (hd : Blk w gd 3 [.int .i64 d]) (h0 : 0 ≤ tt) (h1 : tt ≤ 4001) :
  Calls Tryz.prog 299 #[.agg #[.string cl, .int .i64 fr, .int .i64 tt, .int .i64 ho, .int .i64 dd, .int .i64 we, .int .i64 wk], .pointer (some ⟨gc, 0, none⟩), .pointer (some ⟨gd, 0, none⟩)] w (fun e w' => e = .returned (.bool (rateP c d ⟨cl, fr, tt, ho, dd, we, wk⟩)) ∧ w.grownBy w' none) := by
 refine gw_enter ⟨18, w, none, []⟩ Tryz.func299 rfl Tryz.ntmps299 rfl (mem0 (X := [BlkOld w.heap.size none gc 9 [.string c], BlkOld w.heap.size none gd 3 [.int .i64 d]]) (allF_cons hc.old (allF_cons hd.old allF_nil)) (allL_cons BlkOld.lasts (allL_cons BlkOld.lasts allL_nil))) ?_
 refine sr_ ?_
 refine wl_box rfl rfl rfl fun g1 => ?_
 refine sg_ rfl (nn_ (sr_ (fd_ fo170_0 rfl rfl (lk_ sc9 0 rfl rfl rfl ?_))))
 refine wl_ov (ov_load (v := .string c) sc9 rfl (fun _ hm => (hm.fact 0 rfl).2) rfl) rfl ?_
 refine wl_ov (ov_seql rfl rfl) rfl (mv_ rfl ?_)
 rcases Bool.eq_false_or_eq_true (cl.toList == c.toList) with h | h
 ·refine wl_set 9 rfl (congrArg Value.bool h) ?_
  refine wl_guard_on rfl rfl rfl ?_
  refine wl_ov (ov_load (v := .int .i64 d) sc3 rfl (fun _ hm => (hm.fact 1 rfl).2) rfl) rfl ?_
  refine wl_guard_on rfl rfl rfl (fd_ fo170_1 rfl rfl (wl_guard_on rfl rfl rfl (lk_ sc3 0 rfl rfl rfl (wl_guard_on rfl rfl rfl (fd_ fo170_2 rfl rfl (wl_guard_on rfl rfl rfl (lk_ sc3 0 rfl rfl rfl (wl_guard_on rfl rfl rfl ?_))))))))
  refine wl_ov (ov_sub rfl rfl (by omega) (by omega)) rfl ?_
  refine wl_guard_on rfl rfl rfl ?_
  refine wl_callw rfl cb175 rfl rfl (fun wx hm => (in_any _ _ _ wx)) ?_
  refine pt_ rfl rfl (sg_ rfl (nn_ ?_))
  refine gw_ret ?_
  refine nx_ret1 rfl rfl fun wx hm => ?_
  exact ⟨by rw [← rateP_yes (r := ⟨cl, fr, tt, ho, dd, we, wk⟩) h], hm.g⟩
 refine wl_set 9 rfl (congrArg Value.bool h) ?_
 refine goff rfl rfl rfl (goff rfl rfl rfl (goff rfl rfl rfl (goff rfl rfl rfl (goff rfl rfl rfl (goff rfl rfl rfl (goff rfl rfl rfl (pf_ rfl rfl (sg_ rfl (nn_ ?_)))))))))
 refine gw_ret ?_
 refine nx_ret1 rfl rfl fun wx hm => ?_
 exact ⟨by rw [← rateP_no (r := ⟨cl, fr, tt, ho, dd, we, wk⟩) h], hm.g⟩
theorem index_rate (l : List Rt) (A : Option Addr) (n c0 : Nat) (gc gd : Nat) (c : ByteArray) (d : Int) (w : World) (hl : SlT rtEnc 7 170 w A n l) (hn : n ≤ 1000000) (hpos : ∀ r ∈ l, RtPos r) (hc : Blk w gc 9 [.string c]) (hd : Blk w gd 3 [.int .i64 d]) :
  Calls Tryz.prog 298 #[.slice A n c0, .func (.func 299) #[] #[.pointer (some ⟨gc, 0, none⟩), .pointer (some ⟨gd, 0, none⟩)]] w (GotE w (ixP (rateP c d) l 0)) := by
 refine gw_enter ⟨19, w, none, []⟩ Tryz.func298 rfl Tryz.ntmps298 rfl (mem0 (X := [SlOld rtEnc 7 170 w.heap.size none A n l, BlkOld w.heap.size none gc 9 [.string c], BlkOld w.heap.size none gd 3 [.int .i64 d]]) (allF_cons hl.old (allF_cons hc.old (allF_cons hd.old allF_nil))) (allL_cons SlOld.lasts (allL_cons BlkOld.lasts (allL_cons BlkOld.lasts allL_nil)))) ?_
 refine sr_ ?_
 have hlen := hl.len
 refine sg_ rfl (nn_ (gw_seq (sr_ (mv_ rfl (wl_ov (ov_len es26 rfl) rfl (mv_ rfl (nn_ (gw_block ?_))))))))
 refine gw_loop (γ := Nat) (fun (k : Nat) => k ≤ n ∧ ixP (rateP c d) l 0 = ixP (rateP c d) (l.drop k) k) (fun (k : Nat) => [(0, .slice A n c0), (1, .func (.func 299) #[] #[.pointer (some ⟨gc, 0, none⟩), .pointer (some ⟨gd, 0, none⟩)]), (7, .int .i64 ((n : Nat) : Int)), (8, .int .i64 ((k : Nat) : Int))]) (fun (k : Nat) => fun _ => True) (fun (k : Nat) => []) (fun (k : Nat) => []) (fun (k : Nat) => [SlOld rtEnc 7 170 w.heap.size none A n l, BlkOld w.heap.size none gc 9 [.string c], BlkOld w.heap.size none gd 3 [.int .i64 d]]) (fun (k : Nat) => n - k) 0 ⟨Nat.zero_le _, rfl⟩ ⟨rfl, rfl, rfl, rfl, trivial⟩ (fun _ hm => hm.pick [] [] [0, 1, 2] rfl rfl) ?_
 intro k hinv
 replace hinv : k ≤ n ∧ ixP (rateP c d) l 0 = ixP (rateP c d) (l.drop k) k := hinv
 refine sr_ (wl_ov (ov_lss rfl rfl) rfl (nn_ (gw_seq ?_)))
 refine gw_cond rfl (fun hh => ?_) (fun hh => ?_)
 ·have hk : ((k : Nat) : Int) < ((n : Nat) : Int) := by simpa using hh
  clear hh
  refine gw_skip (nx_then (gw_seq (gw_block (sr_ ?_))))
  obtain ⟨b, off, hA, _, _⟩ := hl.get (by omega)
  subst hA
  obtain ⟨x, hx⟩ : ∃ x, l[k]? = some x := ⟨_, List.getElem?_eq_getElem (by omega)⟩
  obtain ⟨cl, fr, tt, ho, dd, we, wk⟩ := x
  have hat := ixP_at (p := rateP c d) hx
  obtain ⟨hp0, hp1⟩ := hpos _ (List.mem_of_getElem? hx)
  refine mv_ rfl (sg_ rfl (nn_ (sr_ (mv_ rfl (mv_ rfl (mv_ rfl ?_))))))
  refine wl_ov (ov_index (j := k) es26 rfl rfl (by omega)) rfl ?_
  refine wl_ov (ov_elem (vs := [.string cl, .int .i64 fr, .int .i64 tt, .int .i64 ho, .int .i64 dd, .int .i64 we, .int .i64 wk]) rz170 rfl (fun _ hm => (hm.fact 0 rfl).1) hx rfl rfl) rfl ?_
  refine wl_callv rfl cb299 rfl rfl (fun wx hm => (ratePred cl fr tt ho dd we wk gc gd c d wx (hm.fact 1 rfl).2 (hm.fact 2 rfl).2 hp0 hp1)) ?_
  refine nn_ ?_
  refine gw_cond rfl (fun hh => ?_) (fun hh => ?_)
  ·have hq : (rateP c d ⟨cl, fr, tt, ho, dd, we, wk⟩) = true := by simpa using hh
   clear hh
   refine sr_ (mv_ rfl (sg_ rfl (nn_ ?_)))
   refine gw_ret ?_
   refine nx_blk_ret (nx_then_ret (nx_then_ret (nx_blk_ret (nx_then_ret ?_))))
   refine nx_ret1 rfl rfl fun wx hm => ?_
   exact ⟨ret_int (by rw [hinv.2, hat, if_pos hq]), hm.g⟩
  have hq : (rateP c d ⟨cl, fr, tt, ho, dd, we, wk⟩) = false := by simpa using hh
  clear hh
  refine gw_skip (nx_blk_nrm (nx_then (gw_region (ad_ rfl rfl (mv_ rfl (wl_nil ?_))))))
  exact nx_round (k + 1) ⟨by omega, by rw [hinv.2, hat, if_neg (by rw [hq]; decide)]⟩ (by omega) ⟨rfl, rfl, rfl, (some_int (by omega)), trivial⟩ (fun _ hm => hm.pick [] [] [0, 1, 2] rfl rfl)
 have hk : ¬ (((k : Nat) : Int) < ((n : Nat) : Int)) := by simpa using hh
 clear hh
 refine gw_exit ?_
 refine nx_then_exit (nx_then_exit ?_)
 refine nx_blk_here ?_
 refine nx_then (sr_ (sg_ rfl ?_))
 refine wl_set 4 (v' := .int .i64 (-1)) rfl rfl ?_
 refine nn_ ?_
 refine gw_ret ?_
 refine nx_ret1 rfl rfl fun wx hm => ?_
 exact ⟨ret_int (by rw [hinv.2, List.drop_eq_nil_of_le (by omega)]; rfl), hm.g⟩
theorem rateOn_any (l : List Rt) (A : Option Addr) (n c0 : Nat) (c : ByteArray) (d : Int) (w : World) (hl : SlT rtEnc 7 170 w A n l) (hn : n ≤ 1000000) (hpos : ∀ r ∈ l, RtPos r) :
  Calls Tryz.prog 248 #[.slice A n c0, .string c, .int .i64 d] w (GotE w (ixP (rateP c d) l 0)) := by
 refine gw_enter ⟨10, w, none, []⟩ Tryz.func248 rfl Tryz.ntmps248 rfl (mem0 (X := [SlOld rtEnc 7 170 w.heap.size none A n l]) (allF_cons hl.old allF_nil) (allL_cons SlOld.lasts allL_nil)) ?_
 refine sr_ ?_
 refine wl_box rfl rfl rfl fun g1 => ?_
 refine wl_box rfl rfl rfl fun g2 => ?_
 refine sg_ rfl (nn_ (sr_ (mv_ rfl (wl_ov (ov_makeFunc rfl rfl) rfl ?_))))
 refine wl_callv rfl cb298 rfl rfl (fun wx hm => (index_rate l A n c0 _ _ c d wx (hm.fact 0 rfl).1 hn hpos (hm.blkI 1 rfl) (hm.blkI 0 rfl))) ?_
 refine sg_ rfl (nn_ ?_)
 refine gw_ret ?_
 refine nx_ret1 rfl rfl fun wx hm => ?_
 exact ⟨rfl, hm.g⟩
theorem rateAt_any (l : List Rt) (A : Option Addr) (n c0 : Nat) (c : ByteArray) (d : Int) (w : World) (hl : SlT rtEnc 7 170 w A n l) (hn : n ≤ 1000000) (hpos : ∀ r ∈ l, RtPos r) :
  Calls Tryz.prog 312 #[.slice A n c0, .string c, .int .i64 d] w (fun e w' => e = .returned (.tuple #[.agg (rtEnc (rateV l c d)).toArray, .bool (decide (0 ≤ ixP (rateP c d) l 0))]) ∧ w.grownBy w' none) := by
 refine gw_enter ⟨32, w, none, []⟩ Tryz.func312 rfl Tryz.ntmps312 rfl (mem0 (X := [SlOld rtEnc 7 170 w.heap.size none A n l]) (allF_cons hl.old allF_nil) (allL_cons SlOld.lasts allL_nil)) ?_
 refine sr_ ?_
 have hlen := hl.len
 refine wl_alloc zc170 rfl fun g1 => ?_
 refine sg_ rfl (nn_ (gw_seq (sr_ (mv_ rfl (wl_ov (ov_len es26 rfl) rfl (mv_ rfl (nn_ (gw_block ?_))))))))
 refine gw_loop (γ := Nat) (fun (k : Nat) => k ≤ n ∧ ixP (rateP c d) l 0 = ixP (rateP c d) (l.drop k) k) (fun (k : Nat) => [(1, .string c), (2, .int .i64 d), (6, .pointer (some ⟨g1, 0, none⟩)), (10, .slice A n c0), (11, .int .i64 ((n : Nat) : Int)), (12, .int .i64 ((k : Nat) : Int))]) (fun (k : Nat) => fun _ => True) (fun (k : Nat) => [(g1, 170, [.string ⟨#[]⟩, .int .i64 0, .int .i64 0, .int .i64 0, .int .i64 0, .int .i64 0, .int .i64 0])]) (fun (k : Nat) => []) (fun (k : Nat) => [SlOld rtEnc 7 170 w.heap.size none A n l]) (fun (k : Nat) => n - k) 0 ⟨Nat.zero_le _, rfl⟩ ⟨rfl, rfl, rfl, rfl, rfl, rfl, trivial⟩ (fun _ hm => hm.pick [0] [] [0] rfl rfl) ?_
 intro k hinv
 replace hinv : k ≤ n ∧ ixP (rateP c d) l 0 = ixP (rateP c d) (l.drop k) k := hinv
 refine sr_ (wl_ov (ov_lss rfl rfl) rfl (nn_ (gw_seq ?_)))
 refine gw_cond rfl (fun hh => ?_) (fun hh => ?_)
 ·have hk : ((k : Nat) : Int) < ((n : Nat) : Int) := by simpa using hh
  clear hh
  refine gw_skip (nx_then (gw_seq (gw_block (sr_ ?_))))
  obtain ⟨b, off, hA, _, _⟩ := hl.get (by omega)
  subst hA
  obtain ⟨x, hx⟩ : ∃ x, l[k]? = some x := ⟨_, List.getElem?_eq_getElem (by omega)⟩
  obtain ⟨cl, fr, tt, ho, dd, we, wk⟩ := x
  have hat := ixP_at (p := rateP c d) hx
  obtain ⟨hp0, hp1⟩ := hpos _ (List.mem_of_getElem? hx)
  have hp0 : 0 ≤ tt := hp0
  have hp1 : tt ≤ 4001 := hp1
  refine wl_ov (ov_index (j := k) es26 rfl rfl (by omega)) rfl ?_
  refine wl_ov (ov_elem (vs := [.string cl, .int .i64 fr, .int .i64 tt, .int .i64 ho, .int .i64 dd, .int .i64 we, .int .i64 wk]) rz170 rfl (fun _ hm => (hm.fact 0 rfl).1) hx rfl rfl) rfl ?_
  refine wl_alloc zc170 rfl fun g2 => ?_
  refine wl_stores (cs' := [.string cl, .int .i64 fr, .int .i64 tt, .int .i64 ho, .int .i64 dd, .int .i64 we, .int .i64 wk]) 0 rz170 rfl rfl rfl rfl rfl rfl rfl rfl ?_
  refine nn_ (sr_ (fd_ fo170_0 rfl rfl (lk_ sc9 0 rfl rfl rfl (mv_ rfl (wl_ov (ov_seql rfl rfl) rfl (mv_ rfl ?_))))))
  rcases Bool.eq_false_or_eq_true (cl.toList == c.toList) with h | h
  ·refine wl_set 20 rfl (congrArg Value.bool h) ?_
   refine wl_guard_on rfl rfl rfl (mv_ rfl (wl_guard_on rfl rfl rfl (fd_ fo170_1 rfl rfl (wl_guard_on rfl rfl rfl (lk_ sc3 0 rfl rfl rfl (wl_guard_on rfl rfl rfl (fd_ fo170_2 rfl rfl (wl_guard_on rfl rfl rfl (lk_ sc3 0 rfl rfl rfl (wl_guard_on rfl rfl rfl ?_))))))))))
   refine wl_ov (ov_sub rfl rfl (by omega) (by omega)) rfl ?_
   refine wl_guard_on rfl rfl rfl ?_
   refine wl_callw rfl cb133 rfl rfl (fun wx hm => (rin_any _ _ _ wx)) ?_
   refine pt_ rfl rfl (nn_ ?_)
   refine gw_cond rfl (fun hh => ?_) (fun hh => ?_)
   ·have h2 : (inB d fr (tt - 1)) = true := by simpa using hh
    clear hh
    refine sr_ ?_
    have hq : rateP c d ⟨cl, fr, tt, ho, dd, we, wk⟩ = true := (rateP_yes (r := ⟨cl, fr, tt, ho, dd, we, wk⟩) h).symm.trans h2
    refine wl_ov (ov_loads rz170 rfl (fun _ hm => hm.blkI 0 rfl) rfl rfl) rfl ?_
    refine wl_stores (cs' := [.string cl, .int .i64 fr, .int .i64 tt, .int .i64 ho, .int .i64 dd, .int .i64 we, .int .i64 wk]) 1 rz170 rfl rfl rfl rfl rfl rfl rfl rfl ?_
    refine sg_ rfl (nn_ ?_)
    refine gw_ret ?_
    refine nx_blk_ret (nx_then_ret (nx_then_ret (nx_blk_ret (nx_then_ret ?_))))
    refine nx_retct 1 rfl rz170 rfl rfl rfl rfl fun wx hm => ?_
    have hix : ixP (rateP c d) l 0 = ((k : Nat) : Int) := by rw [hinv.2, hat, if_pos hq]
    refine ⟨?_, hm.g⟩
    rw [rateV_at hix hx, hix, decide_eq_true (show 0 ≤ ((k : Nat) : Int) by omega)]; rfl
   have h2 : (inB d fr (tt - 1)) = false := by simpa using hh
   clear hh
   refine gw_skip (nx_blk_nrm (nx_then (gw_region ?_)))
   have hq : rateP c d ⟨cl, fr, tt, ho, dd, we, wk⟩ = false := (rateP_yes (r := ⟨cl, fr, tt, ho, dd, we, wk⟩) h).symm.trans h2
   refine ad_ rfl rfl (mv_ rfl (wl_nil ?_))
   exact nx_round (k + 1) ⟨by omega, by rw [hinv.2, hat, if_neg (by rw [hq]; decide)]⟩ (by omega) ⟨rfl, rfl, rfl, rfl, rfl, (some_int (by omega)), trivial⟩ (fun _ hm => hm.pick [1] [] [0] rfl rfl)
  refine wl_set 20 rfl (congrArg Value.bool h) ?_
  have hq : rateP c d ⟨cl, fr, tt, ho, dd, we, wk⟩ = false := (rateP_no (r := ⟨cl, fr, tt, ho, dd, we, wk⟩) h).symm
  refine goff rfl rfl rfl (goff rfl rfl rfl (goff rfl rfl rfl (goff rfl rfl rfl (goff rfl rfl rfl (goff rfl rfl rfl (goff rfl rfl rfl (pf_ rfl rfl (nn_ (cf_ rfl (gw_skip (nx_blk_nrm (nx_then ?_))))))))))))
  refine gw_region (ad_ rfl rfl (mv_ rfl (wl_nil ?_)))
  exact nx_round (k + 1) ⟨by omega, by rw [hinv.2, hat, if_neg (by rw [hq]; decide)]⟩ (by omega) ⟨rfl, rfl, rfl, rfl, rfl, (some_int (by omega)), trivial⟩ (fun _ hm => hm.pick [1] [] [0] rfl rfl)
 have hk : ¬ (((k : Nat) : Int) < ((n : Nat) : Int)) := by simpa using hh
 clear hh
 refine gw_exit ?_
 refine nx_then_exit (nx_then_exit ?_)
 refine nx_blk_here ?_
 refine nx_then (sr_ ?_)
 refine wl_ov (ov_build (cs := [.string ⟨#[]⟩, .int .i64 0, .int .i64 0, .int .i64 0, .int .i64 0, .int .i64 0, .int .i64 0]) rfl (by kernel_rfl)) rfl ?_
 refine wl_stores (cs' := [.string ⟨#[]⟩, .int .i64 0, .int .i64 0, .int .i64 0, .int .i64 0, .int .i64 0, .int .i64 0]) 0 rz170 rfl rfl rfl rfl rfl rfl rfl rfl ?_
 refine sg_ rfl (nn_ ?_)
 refine gw_ret ?_
 refine nx_retct 0 rfl rz170 rfl rfl rfl rfl fun wx hm => ?_
 have hix : ixP (rateP c d) l 0 = -1 := by rw [hinv.2, List.drop_eq_nil_of_le (by omega)]; rfl
 refine ⟨?_, hm.g⟩
 rw [rateV_no (by omega), hix]; rfl
theorem daysV_le {a b : Int} (h0 : 0 ≤ a) (h1 : a ≤ b) (h2 : b ≤ 5761439) : 0 ≤ daysV a b ∧ daysV a b ≤ 4002 := by unfold daysV; omega
theorem daysOf_any (fr tt : Int) (w : World) (h0 : 0 ≤ fr) (h1 : fr ≤ tt) (h2 : tt ≤ 5761439) :
  Calls Tryz.prog 115 #[.agg #[.int .i64 fr, .int .i64 tt]] w (fun e w' => e = .returned (.int .i64 (daysV fr tt)) ∧ w.grownBy w' none) := by
 refine gw_enter ⟨16, w, none, []⟩ Tryz.func115 rfl Tryz.ntmps115 rfl (mem0 (X := []) allF_nil allL_nil) ?_
 refine sr_ ?_
 have hD := daysV_le h0 h1 h2
 obtain ⟨D, hDn⟩ := Int.eq_ofNat_of_zero_le hD.1
 rw [hDn] at hD ⊢
 refine wl_box rfl rfl rfl fun g1 => ?_
 refine sg_ rfl (nn_ (sr_ (sg_ rfl (nn_ (gw_seq (sr_ (fd_ fo35_0 rfl rfl (lk_ sc3 0 rfl rfl rfl (sg_ rfl ?_)))))))))
 refine nn_ (gw_block ?_)
 refine gw_loop (γ := Nat) (fun (k : Nat) => k ≤ D) (fun (k : Nat) => [(1, .pointer (some ⟨g1, 0, none⟩)), (2, .int .i64 0), (3, .int .i64 ((k : Nat) : Int)), (4, .int .i64 (fr + ((k : Nat) : Int) * 1440))]) (fun (k : Nat) => fun _ => True) (fun (k : Nat) => [(g1, 35, [.int .i64 fr, .int .i64 tt])]) (fun (k : Nat) => []) (fun (k : Nat) => []) (fun (k : Nat) => D - k) 0 (Nat.zero_le _) ⟨rfl, rfl, rfl, (some_int (by omega)), trivial⟩ (fun _ hm => hm.pick [0] [] [] rfl rfl) ?_
 intro k hinv
 replace hinv : k ≤ D := hinv
 refine gw_seq (sr_ (mv_ rfl (fd_ fo35_1 rfl rfl (lk_ sc3 0 rfl rfl rfl (wl_ov (ov_lss rfl rfl) rfl (nn_ ?_))))))
 refine gw_cond rfl (fun hh => ?_) (fun hh => ?_)
 ·have hk : fr + ((k : Nat) : Int) * 1440 < tt := by simpa using hh
  clear hh
  refine gw_skip (nx_then (gw_seq (gw_block (gw_region ?_))))
  have hkD : k < D := by unfold daysV at hDn; omega
  refine mv_ rfl (ad_ rfl rfl (sg_ rfl (wl_nil (nx_blk_nrm (nx_then (gw_region (mv_ rfl (ad_ rfl rfl (sg_ rfl (wl_nil ?_))))))))))
  exact nx_round (k + 1) (by omega) (by omega) ⟨rfl, rfl, (some_int (by omega)), (some_int (by omega)), trivial⟩ (fun _ hm => hm.pick [0] [] [] rfl rfl)
 have hk : ¬ (fr + ((k : Nat) : Int) * 1440 < tt) := by simpa using hh
 clear hh
 refine gw_exit ?_
 refine nx_then_exit (nx_then_exit ?_)
 refine nx_blk_here ?_
 refine nx_then (sr_ ?_)
 have hkD : k = D := by unfold daysV at hDn; omega
 refine mv_ rfl (sg_ rfl (nn_ ?_))
 refine gw_ret ?_
 refine nx_ret1 rfl rfl fun wx hm => ?_
 exact ⟨by rw [hkD], hm.g⟩
theorem timeE_okT {a b : Int} (h : timeE a b = 0) : 0 ≤ a ∧ a < b ∧ b ≤ 5761439 := by
  unfold timeE at h
  split at h
  · cases h
  · omega
theorem timeE_days {a b : Int} (h : timeE a b = 0) : 1 ≤ daysV a b ∧ daysV a b ≤ 120 := by
  obtain ⟨h0, h1, h2⟩ := timeE_okT h
  unfold timeE at h
  rw [if_neg (by omega)] at h
  have h3 : ¬ 120 < daysV a b := fun e => by rw [decide_eq_true e] at h; exact absurd h (by decide)
  unfold daysV at h3 ⊢; omega
end Go.Proofs.YtnmpniaocjmkfaaGreatDoor
namespace Go.Proofs.YtnmpniaocjmkfaaGreatDoor
open Go.RowKit
theorem prevOf_zero {α : Type} {l : List α} {k : Nat} (h : k = 0) : prevOf l k = none := by unfold prevOf; rw [if_pos h]
theorem prevOf_pos {α : Type} {l : List α} {k : Nat} {y : α} (h : ¬ k = 0) (hy : l[k - 1]? = some y) : prevOf l k = some y := by unfold prevOf; rw [if_neg h, hy]
theorem key_low {a : ByteArray} (h : keyB a = true) : leB a ⟨#[]⟩ = false := by
  obtain ⟨⟨l⟩⟩ := a
  cases l with
  | nil => cases h
  | cons c r => unfold leB; rw [ByteArray.toList_eq, ByteArray.toList_eq]; rfl
def sgEnc (x : ByteArray) : List Value := [.string x]
theorem sg_len (x : ByteArray) : (sgEnc x).length = 1 := rfl
end Go.Proofs.YtnmpniaocjmkfaaGreatDoor
namespace Go.Proofs.YtnmpniaocjmkfaaGreatDoor
open Go.RowKit
theorem isBelow_lt {n v : Int} (h : IsBelow n v) (hn : 1 ≤ n) : 0 ≤ v ∧ v < n := by unfold IsBelow at h; omega
set_option maxHeartbeats 400000 in
theorem range_any (lo hi : Int) (w : World) (B sb m : Nat) (hS : Strm 25 w B sb m) (hm : m ≤ 1000000000000) (h1 : -4611686018427387904 ≤ lo) (h2 : hi ≤ 4611686018427387902) (h3 : lo ≤ 4611686018427387902) (h4 : -4611686018427387904 ≤ hi) :
    Calls Tryz.prog 38 #[.pointer (some ⟨sb, 0, none⟩), .int .i64 lo, .int .i64 hi] w (GotInt 25 w B sb (m + 1) (fun v => lo ≤ v ∧ (v ≤ hi ∨ v = lo))) := by
  by_cases hlt : hi < lo
  · go_enter Tryz.func38, Tryz.ntmps38
    go_wp2_with fail
    go_ret
    exact ⟨lo, ⟨by omega, .inr rfl⟩, rfl, hS.more (by omega), World.grownBy.refl _ _⟩
  · go_enter Tryz.func38, Tryz.ntmps38
    go_wp2_with fail
    refine (next_any _ _ B sb m hS hm (by omega) (by omega)).mono ?_
    rintro e w1 ⟨v, hv, rfl, hS1, hg1⟩
    have hv := isBelow_lt hv (by omega)
    go_wp2_with fail
    go_ret
    exact ⟨lo + v, ⟨by omega, .inl (by omega)⟩, rfl, hS1, hg1⟩
set_option maxHeartbeats 400000 in
theorem flip_any (n : Int) (w : World) (B sb m : Nat) (hS : Strm 25 w B sb m) (hm : m ≤ 1000000000000) (hn1 : -9223372036854775808 ≤ n) (hn2 : n ≤ 9223372036854775807) :
    Calls Tryz.prog 70 #[.pointer (some ⟨sb, 0, none⟩), .int .i64 n] w (GotBool 25 w B sb (m + 1)) := by
  go_enter Tryz.func70, Tryz.ntmps70
  go_wp2_with fail
  refine (next_any _ _ B sb m hS hm hn1 hn2).mono ?_
  rintro e w1 ⟨v, hv, rfl, hS1, hg1⟩
  go_wp2_with fail
  go_ret
  exact ⟨_, rfl, hS1, hg1⟩
set_option maxHeartbeats 400000 in
theorem pick_any (xs : List Int) (g c : Nat) (T : TypeId) (w : World) (B sb m : Nat) (hS : Strm 25 w B sb m) (hm : m ≤ 1000000000000) (hx : 0 < xs.length) (hx2 : xs.length ≤ 1000000) (hg : Blk w g T (xs.map (Value.int .i64))) (hne : g ≠ sb) :
    Calls Tryz.prog 24 #[.pointer (some ⟨sb, 0, none⟩), .slice (some ⟨g, 0, none⟩) xs.length c] w (GotInt 25 w B sb (m + 1) (fun v => v ∈ xs)) := by
  obtain ⟨n, hn⟩ : ∃ n, n = xs.length := ⟨_, rfl⟩
  rw [← hn] at hx hx2 ⊢
  have Hn := Lib.hid hn; clear hn
  go_enter Tryz.func24, Tryz.ntmps24
  go_wp2_with fail
  refine (next_any _ _ B sb m hS hm (by omega) (by omega)).mono ?_
  rintro e w1 ⟨v, hv, rfl, hS1, hg1⟩
  have hv := isBelow_lt hv (by omega)
  obtain ⟨i, rfl⟩ := Int.eq_ofNat_of_zero_le hv.1
  have hi : i < n := by omega
  have hgb := hg.grown hg1 (by simpa using hne)
  obtain ⟨x, hx⟩ : ∃ x, xs[i]? = some x := ⟨_, List.getElem?_eq_getElem (by have := Hn.out; omega)⟩
  have hc : w1.cell? ⟨g, i, none⟩ = some (.int .i64 x) := hgb.cell_of (by simp [hx])
  have hmem : x ∈ xs := List.mem_of_getElem? hx
  clear hx hgb
  go_wp2_with fail
  go_ret
  exact ⟨x, hmem, rfl, hS1, hg1⟩
set_option maxHeartbeats 400000 in
theorem some_any (xs : List ByteArray) (g c : Nat) (T : TypeId) (w : World) (B sb m : Nat) (hS : Strm 25 w B sb m) (hm : m ≤ 1000000000000) (hx : 0 < xs.length) (hx2 : xs.length ≤ 1000000) (hg : Blk w g T (xs.map Value.string)) (hne : g ≠ sb) :
    Calls Tryz.prog 60 #[.pointer (some ⟨sb, 0, none⟩), .slice (some ⟨g, 0, none⟩) xs.length c] w (GotStr 25 w B sb (m + 1) (fun v => v ∈ xs)) := by
  obtain ⟨n, hn⟩ : ∃ n, n = xs.length := ⟨_, rfl⟩
  rw [← hn] at hx hx2 ⊢
  have Hn := Lib.hid hn; clear hn
  go_enter Tryz.func60, Tryz.ntmps60
  go_wp2_with fail
  refine (next_any _ _ B sb m hS hm (by omega) (by omega)).mono ?_
  rintro e w1 ⟨v, hv, rfl, hS1, hg1⟩
  have hv := isBelow_lt hv (by omega)
  obtain ⟨i, rfl⟩ := Int.eq_ofNat_of_zero_le hv.1
  have hi : i < n := by omega
  have hgb := hg.grown hg1 (by simpa using hne)
  obtain ⟨x, hx⟩ : ∃ x, xs[i]? = some x := ⟨_, List.getElem?_eq_getElem (by have := Hn.out; omega)⟩
  have hc : w1.cell? ⟨g, i, none⟩ = some (.string x) := hgb.cell_of (by simp [hx])
  have hmem : x ∈ xs := List.mem_of_getElem? hx
  clear hx hgb
  go_wp2_with fail
  go_ret
  exact ⟨x, hmem, rfl, hS1, hg1⟩
set_option maxHeartbeats 400000 in
theorem odd_any (lo hi : Int) (w : World) (B sb m : Nat) (hS : Strm 25 w B sb m) (hm : m ≤ 900000000000) (h1 : -1000000000000000 ≤ lo) (h2 : hi ≤ 1000000000000000) (h3 : lo ≤ hi) :
    Calls Tryz.prog 119 #[.pointer (some ⟨sb, 0, none⟩), .int .i64 lo, .int .i64 hi] w (GotInt 25 w B sb (m + 2) (fun v => -2000000000000000 ≤ v ∧ v ≤ 2000000000000000)) := by
  go_enter Tryz.func119, Tryz.ntmps119
  go_wp2_with fail
  refine (flip_any _ _ B sb m hS (by omega) (by omega) (by omega)).mono ?_
  rintro e w1 ⟨b, rfl, hS1, hg1⟩
  rcases b with _ | _
  · go_wp2_with fail
    refine (range_any _ _ _ B sb (m + 1) hS1 (by omega) (by omega) (by omega) (by omega) (by omega)).mono ?_
    rintro e w2 ⟨v, hv, rfl, hS2, hg2⟩
    go_wp2_with fail
    go_ret
    exact ⟨v, by omega, rfl, hS2, grow_trans hg1 hg2⟩
  · go_wp2_with fail
    refine (pick_any [lo - 1, hi + 1, lo, hi, -1099511627776, 1099511627776] _ _ _ _ B sb (m + 1) (hS1.alloc _) (by omega) (by simp) (by simp) (Blk.new _ _ _) (by have := hS1.lt; omega)).mono ?_
    rintro e w2 ⟨v, hv, rfl, hS2, hg2⟩
    go_wp2_with fail
    go_ret
    refine ⟨v, by simp at hv; omega, rfl, hS2, grow_trans hg1 (grow_trans (grow_alloc (World.grownBy.refl _ _) _) hg2)⟩
end Go.Proofs.YtnmpniaocjmkfaaGreatDoor
namespace Go.Proofs.YtnmpniaocjmkfaaGreatDoor
open Go.RowKit
def cdEnc (x : Cd) : List Value := [.string x.key, .string x.cls, .int .i64 x.fr, .int .i64 x.to_, .int .i64 x.days, .int .i64 x.mille]
theorem cd_len (x : Cd) : (cdEnc x).length = 6 := rfl
theorem prevCd_le {l : List Cd} {k : Nat} {b : Cd} (h : keyB b.key = true) : leB b.key (prevCd l k) = leCd (prevOf l k) b := by
  unfold prevCd leCd
  cases prevOf l k with
  | none => exact key_low h
  | some q => rfl
theorem checkCodes_any (l : List Cd) (A : Option Addr) (n c : Nat) (w : World) (hl : SlT cdEnc 6 262 w A n l) (hok : ∀ b ∈ l, CdOk b) (hn : n ≤ 1000000) :
  Calls Tryz.prog 106 #[.slice A n c] w (GotE w (codesE l)) := by
 refine gw_enter ⟨68, w, none, []⟩ Tryz.func106 rfl Tryz.ntmps106 rfl (mem0 (X := [SlOld cdEnc 6 262 w.heap.size none A n l]) (allF_cons hl.old allF_nil) (allL_cons SlOld.lasts allL_nil)) ?_
 refine sr_ ?_
 have hlen := hl.len
 refine sg_ rfl (nn_ (gw_seq (sr_ (mv_ rfl (wl_ov (ov_len es29 rfl) rfl ?_)))))
 refine wl_ov (ov_gtr rfl rfl) rfl ?_
 refine nn_ ?_
 refine gw_cond rfl (fun hh => ?_) (fun hh => ?_)
 ·have h1 : 50 < ((n : Nat) : Int) := by simpa using hh
  clear hh
  refine sr_ (sg_ rfl (nn_ ?_))
  refine gw_ret ?_
  refine nx_then_ret ?_
  refine nx_ret1 rfl rfl fun wx hm => ?_
  exact ⟨ret_int (by unfold codesE; rw [if_pos (by omega)]), hm.g⟩
 have h1 : ¬ (50 < ((n : Nat) : Int)) := by simpa using hh
 clear hh
 refine gw_skip (nx_then (gw_seq (sr_ (mv_ rfl (wl_ov (ov_len es29 rfl) rfl (mv_ rfl (nn_ (gw_block ?_))))))))
 refine gw_loop (γ := Nat) (fun (k : Nat) => k ≤ n ∧ codesE l = scanE codeE (prevOf l k) (l.drop k)) (fun (k : Nat) => [(0, .slice A n c), (8, .slice A n c), (9, .int .i64 ((n : Nat) : Int)), (10, .int .i64 ((k : Nat) : Int))]) (fun (k : Nat) => fun _ => True) (fun (k : Nat) => []) (fun (k : Nat) => []) (fun (k : Nat) => [SlOld cdEnc 6 262 w.heap.size none A n l]) (fun (k : Nat) => n - k) 0 ⟨Nat.zero_le _, by unfold codesE; rw [if_neg (by omega)]; rfl⟩ ⟨rfl, rfl, rfl, rfl, trivial⟩ (fun _ hm => hm.pick [] [] [0] rfl rfl) ?_
 intro k hinv
 replace hinv : k ≤ n ∧ codesE l = scanE codeE (prevOf l k) (l.drop k) := hinv
 refine sr_ (wl_ov (ov_lss rfl rfl) rfl (nn_ (gw_seq ?_)))
 refine gw_cond rfl (fun hh => ?_) (fun hh => ?_)
 ·have hk : ((k : Nat) : Int) < ((n : Nat) : Int) := by simpa using hh
  clear hh
  refine gw_skip (nx_then (gw_seq (gw_block (sr_ ?_))))
  obtain ⟨b, off, hA, _, _⟩ := hl.get (by omega)
  subst hA
  obtain ⟨x, hx⟩ : ∃ x, l[k]? = some x := ⟨_, List.getElem?_eq_getElem (by omega)⟩
  obtain ⟨ke, cl, fr, tt, dy, mi⟩ := x
  have hat := scanE_at codeE l k _ hx
  have hk1 : ke.size ≤ 1000000 := (hok _ (List.mem_of_getElem? hx)).1
  have hk2 : cl.size ≤ 1000000 := (hok _ (List.mem_of_getElem? hx)).2
  refine mv_ rfl ?_
  refine wl_ov (ov_index (j := k) es29 rfl rfl (by omega)) rfl ?_
  refine wl_ov (ov_elem (vs := [.string ke, .string cl, .int .i64 fr, .int .i64 tt, .int .i64 dy, .int .i64 mi]) rz262 rfl (fun _ hm => (hm.fact 0 rfl).1) hx rfl rfl) rfl ?_
  refine wl_alloc zc262 rfl fun g1 => ?_
  refine sg_ rfl ?_
  refine wl_stores (cs' := [.string ke, .string cl, .int .i64 fr, .int .i64 tt, .int .i64 dy, .int .i64 mi]) 0 rz262 rfl rfl rfl rfl rfl rfl rfl rfl ?_
  refine nn_ (gw_block (sr_ (fd_ fo262_0 rfl rfl (lk_ sc9 0 rfl rfl rfl ?_))))
  refine wl_callw rfl cb137 rfl rfl (fun wx hm => (isKey_any _ wx (by omega))) ?_
  refine wl_ov (ov_un_not rfl) rfl (sg_ rfl (nn_ ?_))
  refine gw_cond rfl (fun hh => ?_) (fun hh => ?_)
  ·have h2 : (keyB ke) = false := by simpa using hh
   clear hh
   refine sr_ (sg_ rfl (nn_ ?_))
   refine gw_ret ?_
   refine nx_blk_ret (nx_blk_ret (nx_then_ret (nx_then_ret (nx_blk_ret (nx_then_ret ?_)))))
   have hE : codeE (prevOf l k) ⟨ke, cl, fr, tt, dy, mi⟩ = 5 := by unfold codeE; simp [h2]
   refine nx_ret1 rfl rfl fun wx hm => ?_
   exact ⟨ret_int (by rw [hinv.2, hat, if_neg (by rw [hE]; decide), hE]), hm.g⟩
  have h2 : (keyB ke) = true := by simpa using hh
  clear hh
  refine gw_seq ?_
  by_cases hk0 : k = 0
  ·have hO : leCd (prevOf l k) ⟨ke, cl, fr, tt, dy, mi⟩ = false := by rw [prevOf_zero hk0]; rfl
   refine gd (fun wz => Blk wz g1 262 [.string ke, .string cl, .int .i64 fr, .int .i64 tt, .int .i64 dy, .int .i64 mi] ∧ (SlOld cdEnc 6 262 w.heap.size none (some ⟨b, off, none⟩) n l) wz ∧ True) mixed (fun _ hm => ⟨hm.bl 0, hm.fa 0, trivial⟩) fun z => ?_
   refine wt 0 14 1 rfl z (ov_move rfl) ?_
   refine wt 1 14 3 rfl z (ov_gtr rfl rfl) ?_
   refine wa_set 22 (v' := .bool false) rfl (congrArg Value.bool (decide_eq_false (by omega))) ?_
   refine wt 2 14 7 rfl z (ov_move rfl) ?_
   refine wtf 3 14 15 rfl rfl rfl z ?_
   refine wtf 4 14 31 rfl rfl rfl z ?_
   refine wtf 5 14 63 rfl rfl rfl z ?_
   refine wtf 6 14 127 rfl rfl rfl z ?_
   refine wtf 7 14 255 rfl rfl rfl z ?_
   refine wtf 8 14 511 rfl rfl rfl z ?_
   refine wtf 9 14 1023 rfl rfl rfl z ?_
   refine wtf 10 14 2047 rfl rfl rfl z ?_
   refine wtf 11 14 4095 rfl rfl rfl z ?_
   refine wt 12 14 8191 rfl z (ov_pick_f rfl rfl) ?_
   refine wt 13 14 16383 rfl z (ov_assign rfl) ?_
   refine wa_done (by kernel_rfl) ?_
   refine nx_then (cf_ rfl (sr_ (fd_ fo262_1 rfl rfl (lk_ sc9 0 rfl rfl rfl (wl_ov (ov_sneq rfl rfl) rfl (mv_ rfl ?_))))))
   rcases Bool.eq_false_or_eq_true (!(cl.toList == (⟨#[]⟩ : ByteArray).toList)) with h31 | h31
   ·refine wl_set 38 rfl (congrArg Value.bool h31) ?_
    have h31 : emptyS cl = false := by unfold emptyS; simpa only [Bool.not_eq_true'] using h31
    refine wl_guard_on rfl rfl rfl (fd_ fo262_1 rfl rfl (wl_guard_on rfl rfl rfl (lk_ sc9 0 rfl rfl rfl (wl_guard_on rfl rfl rfl ?_))))
    refine wl_callw rfl cb137 rfl rfl (fun wx hm => (isKey_any _ wx (by omega))) ?_
    refine wl_guard_on rfl rfl rfl (wl_ov (ov_un_not rfl) rfl (pt_ rfl rfl (sg_ rfl (nn_ ?_))))
    refine gw_cond rfl (fun hh => ?_) (fun hh => ?_)
    ·have h32 : (keyB cl) = false := by simpa using hh
     clear hh
     refine sr_ (sg_ rfl (nn_ ?_))
     refine gw_ret ?_
     refine nx_blk_ret (nx_blk_ret (nx_then_ret (nx_then_ret (nx_blk_ret (nx_then_ret ?_)))))
     have hE : codeE (prevOf l k) ⟨ke, cl, fr, tt, dy, mi⟩ = 5 := by unfold codeE; simp [h2, hO, h31, h32]
     refine nx_ret1 rfl rfl fun wx hm => ?_
     exact ⟨ret_int (by rw [hinv.2, hat, if_neg (by rw [hE]; decide), hE]), hm.g⟩
    have h32 : (keyB cl) = true := by simpa using hh
    clear hh
    refine sr_ (fd_ fo262_2 rfl rfl (lk_ sc3 0 rfl rfl rfl (fd_ fo262_3 rfl rfl (lk_ sc3 0 rfl rfl rfl ?_))))
    refine wl_callw rfl cb175 rfl rfl (fun wx hm => (in_any _ _ _ wx)) ?_
    refine wl_ov (ov_un_not rfl) rfl (mv_ rfl ?_)
    rcases Bool.eq_false_or_eq_true (!(inB fr 0 tt)) with h4 | h4
    ·refine wl_set 51 rfl (congrArg Value.bool h4) ?_
     refine goff rfl rfl rfl (goff rfl rfl rfl (goff rfl rfl rfl (pt_ rfl rfl (sg_ rfl (nn_ (ct_ rfl (sr_ (sg_ rfl (nn_ ?_)))))))))
     refine gw_ret ?_
     refine nx_blk_ret (nx_blk_ret (nx_then_ret (nx_then_ret (nx_blk_ret (nx_then_ret ?_)))))
     have hE : codeE (prevOf l k) ⟨ke, cl, fr, tt, dy, mi⟩ = 1 := by unfold codeE; simp [h2, hO, h31, h32, h4]
     refine nx_ret1 rfl rfl fun wx hm => ?_
     exact ⟨ret_int (by rw [hinv.2, hat, if_neg (by rw [hE]; decide), hE]), hm.g⟩
    refine wl_set 51 rfl (congrArg Value.bool h4) ?_
    refine wl_guard_on rfl rfl rfl (fd_ fo262_3 rfl rfl (wl_guard_on rfl rfl rfl (lk_ sc3 0 rfl rfl rfl (wl_guard_on rfl rfl rfl ?_))))
    refine wl_ov (ov_gtr rfl rfl) rfl ?_
    refine pf_ rfl rfl (sg_ rfl (nn_ ?_))
    refine gw_cond rfl (fun hh => ?_) (fun hh => ?_)
    ·have h5 : 4001 < tt := by simpa using hh
     clear hh
     refine sr_ (sg_ rfl (nn_ ?_))
     refine gw_ret ?_
     refine nx_blk_ret (nx_blk_ret (nx_then_ret (nx_then_ret (nx_blk_ret (nx_then_ret ?_)))))
     have hE : codeE (prevOf l k) ⟨ke, cl, fr, tt, dy, mi⟩ = 1 := by unfold codeE; simp [h2, hO, h31, h32, h4, h5]
     refine nx_ret1 rfl rfl fun wx hm => ?_
     exact ⟨ret_int (by rw [hinv.2, hat, if_neg (by rw [hE]; decide), hE]), hm.g⟩
    have h5 : ¬ (4001 < tt) := by simpa using hh
    clear hh
    refine sr_ (fd_ fo262_4 rfl rfl (lk_ sc3 0 rfl rfl rfl ?_))
    refine wl_callw rfl cb175 rfl rfl (fun wx hm => (in_any _ _ _ wx)) ?_
    refine wl_ov (ov_un_not rfl) rfl (mv_ rfl ?_)
    rcases Bool.eq_false_or_eq_true (!(inB dy 1 120)) with h6 | h6
    ·refine wl_set 61 rfl (congrArg Value.bool h6) ?_
     refine goff rfl rfl rfl (goff rfl rfl rfl (goff rfl rfl rfl (goff rfl rfl rfl (pt_ rfl rfl (sg_ rfl (nn_ (ct_ rfl (sr_ (sg_ rfl (nn_ ?_))))))))))
     refine gw_ret ?_
     refine nx_blk_ret (nx_blk_ret (nx_then_ret (nx_then_ret (nx_blk_ret (nx_then_ret ?_)))))
     have hE : codeE (prevOf l k) ⟨ke, cl, fr, tt, dy, mi⟩ = 1 := by unfold codeE; simp [h2, hO, h31, h32, h4, h5, h6]
     refine nx_ret1 rfl rfl fun wx hm => ?_
     exact ⟨ret_int (by rw [hinv.2, hat, if_neg (by rw [hE]; decide), hE]), hm.g⟩
    refine wl_set 61 rfl (congrArg Value.bool h6) ?_
    refine wl_guard_on rfl rfl rfl (fd_ fo262_5 rfl rfl (wl_guard_on rfl rfl rfl (lk_ sc3 0 rfl rfl rfl (wl_guard_on rfl rfl rfl ?_))))
    refine wl_callw rfl cb175 rfl rfl (fun wx hm => (in_any _ _ _ wx)) ?_
    refine wl_guard_on rfl rfl rfl (wl_ov (ov_un_not rfl) rfl (pf_ rfl rfl (sg_ rfl (nn_ ?_))))
    refine gw_cond rfl (fun hh => ?_) (fun hh => ?_)
    ·have h7 : (inB mi 1 1000) = false := by simpa using hh
     clear hh
     refine sr_ (sg_ rfl (nn_ ?_))
     refine gw_ret ?_
     refine nx_blk_ret (nx_blk_ret (nx_then_ret (nx_then_ret (nx_blk_ret (nx_then_ret ?_)))))
     have hE : codeE (prevOf l k) ⟨ke, cl, fr, tt, dy, mi⟩ = 1 := by unfold codeE; simp [h2, hO, h31, h32, h4, h5, h6, h7]
     refine nx_ret1 rfl rfl fun wx hm => ?_
     exact ⟨ret_int (by rw [hinv.2, hat, if_neg (by rw [hE]; decide), hE]), hm.g⟩
    have h7 : (inB mi 1 1000) = true := by simpa using hh
    clear hh
    refine gw_skip (nx_blk_nrm (nx_blk_nrm (nx_then (gw_region ?_))))
    have hE : codeE (prevOf l k) ⟨ke, cl, fr, tt, dy, mi⟩ = 0 := by unfold codeE; simp [h2, hO, h31, h32, h4, h5, h6, h7]
    refine ad_ rfl rfl (mv_ rfl (wl_nil ?_))
    exact nx_round (k + 1) ⟨by omega, by rw [hinv.2, hat, if_pos hE]⟩ (by omega) ⟨rfl, rfl, rfl, (some_int (by omega)), trivial⟩ (fun _ hm => hm.pick [] [] [0] rfl rfl)
   refine wl_set 38 rfl (congrArg Value.bool h31) ?_
   have h31 : emptyS cl = true := by unfold emptyS; simpa only [Bool.not_eq_false'] using h31
   refine goff rfl rfl rfl (goff rfl rfl rfl (goff rfl rfl rfl (goff rfl rfl rfl (pf_ rfl rfl (sg_ rfl (nn_ (cf_ rfl (sr_ (fd_ fo262_2 rfl rfl (lk_ sc3 0 rfl rfl rfl (fd_ fo262_3 rfl rfl ?_)))))))))))
   refine lk_ sc3 0 rfl rfl rfl ?_
   refine wl_callw rfl cb175 rfl rfl (fun wx hm => (in_any _ _ _ wx)) ?_
   refine wl_ov (ov_un_not rfl) rfl (mv_ rfl ?_)
   rcases Bool.eq_false_or_eq_true (!(inB fr 0 tt)) with h4 | h4
   ·refine wl_set 51 rfl (congrArg Value.bool h4) ?_
    refine goff rfl rfl rfl (goff rfl rfl rfl (goff rfl rfl rfl (pt_ rfl rfl (sg_ rfl (nn_ (ct_ rfl (sr_ (sg_ rfl (nn_ ?_)))))))))
    refine gw_ret ?_
    refine nx_blk_ret (nx_blk_ret (nx_then_ret (nx_then_ret (nx_blk_ret (nx_then_ret ?_)))))
    have hE : codeE (prevOf l k) ⟨ke, cl, fr, tt, dy, mi⟩ = 1 := by unfold codeE; simp [h2, hO, h31, h4]
    refine nx_ret1 rfl rfl fun wx hm => ?_
    exact ⟨ret_int (by rw [hinv.2, hat, if_neg (by rw [hE]; decide), hE]), hm.g⟩
   refine wl_set 51 rfl (congrArg Value.bool h4) ?_
   refine wl_guard_on rfl rfl rfl (fd_ fo262_3 rfl rfl (wl_guard_on rfl rfl rfl (lk_ sc3 0 rfl rfl rfl (wl_guard_on rfl rfl rfl ?_))))
   refine wl_ov (ov_gtr rfl rfl) rfl ?_
   refine pf_ rfl rfl (sg_ rfl (nn_ ?_))
   refine gw_cond rfl (fun hh => ?_) (fun hh => ?_)
   ·have h5 : 4001 < tt := by simpa using hh
    clear hh
    refine sr_ (sg_ rfl (nn_ ?_))
    refine gw_ret ?_
    refine nx_blk_ret (nx_blk_ret (nx_then_ret (nx_then_ret (nx_blk_ret (nx_then_ret ?_)))))
    have hE : codeE (prevOf l k) ⟨ke, cl, fr, tt, dy, mi⟩ = 1 := by unfold codeE; simp [h2, hO, h31, h4, h5]
    refine nx_ret1 rfl rfl fun wx hm => ?_
    exact ⟨ret_int (by rw [hinv.2, hat, if_neg (by rw [hE]; decide), hE]), hm.g⟩
   have h5 : ¬ (4001 < tt) := by simpa using hh
   clear hh
   refine sr_ (fd_ fo262_4 rfl rfl (lk_ sc3 0 rfl rfl rfl ?_))
   refine wl_callw rfl cb175 rfl rfl (fun wx hm => (in_any _ _ _ wx)) ?_
   refine wl_ov (ov_un_not rfl) rfl (mv_ rfl ?_)
   rcases Bool.eq_false_or_eq_true (!(inB dy 1 120)) with h6 | h6
   ·refine wl_set 61 rfl (congrArg Value.bool h6) ?_
    refine goff rfl rfl rfl (goff rfl rfl rfl (goff rfl rfl rfl (goff rfl rfl rfl (pt_ rfl rfl (sg_ rfl (nn_ (ct_ rfl (sr_ (sg_ rfl (nn_ ?_))))))))))
    refine gw_ret ?_
    refine nx_blk_ret (nx_blk_ret (nx_then_ret (nx_then_ret (nx_blk_ret (nx_then_ret ?_)))))
    have hE : codeE (prevOf l k) ⟨ke, cl, fr, tt, dy, mi⟩ = 1 := by unfold codeE; simp [h2, hO, h31, h4, h5, h6]
    refine nx_ret1 rfl rfl fun wx hm => ?_
    exact ⟨ret_int (by rw [hinv.2, hat, if_neg (by rw [hE]; decide), hE]), hm.g⟩
   refine wl_set 61 rfl (congrArg Value.bool h6) ?_
   refine wl_guard_on rfl rfl rfl (fd_ fo262_5 rfl rfl (wl_guard_on rfl rfl rfl (lk_ sc3 0 rfl rfl rfl (wl_guard_on rfl rfl rfl ?_))))
   refine wl_callw rfl cb175 rfl rfl (fun wx hm => (in_any _ _ _ wx)) ?_
   refine wl_guard_on rfl rfl rfl (wl_ov (ov_un_not rfl) rfl (pf_ rfl rfl (sg_ rfl (nn_ ?_))))
   refine gw_cond rfl (fun hh => ?_) (fun hh => ?_)
   ·have h7 : (inB mi 1 1000) = false := by simpa using hh
    clear hh
    refine sr_ (sg_ rfl (nn_ ?_))
    refine gw_ret ?_
    refine nx_blk_ret (nx_blk_ret (nx_then_ret (nx_then_ret (nx_blk_ret (nx_then_ret ?_)))))
    have hE : codeE (prevOf l k) ⟨ke, cl, fr, tt, dy, mi⟩ = 1 := by unfold codeE; simp [h2, hO, h31, h4, h5, h6, h7]
    refine nx_ret1 rfl rfl fun wx hm => ?_
    exact ⟨ret_int (by rw [hinv.2, hat, if_neg (by rw [hE]; decide), hE]), hm.g⟩
   have h7 : (inB mi 1 1000) = true := by simpa using hh
   clear hh
   refine gw_skip (nx_blk_nrm (nx_blk_nrm (nx_then (gw_region ?_))))
   have hE : codeE (prevOf l k) ⟨ke, cl, fr, tt, dy, mi⟩ = 0 := by unfold codeE; simp [h2, hO, h31, h4, h5, h6, h7]
   refine ad_ rfl rfl (mv_ rfl (wl_nil ?_))
   exact nx_round (k + 1) ⟨by omega, by rw [hinv.2, hat, if_pos hE]⟩ (by omega) ⟨rfl, rfl, rfl, (some_int (by omega)), trivial⟩ (fun _ hm => hm.pick [] [] [0] rfl rfl)
  obtain ⟨y, hy⟩ : ∃ x, l[k - 1]? = some x := ⟨_, List.getElem?_eq_getElem (by omega)⟩
  obtain ⟨p0, p1, p2, p3, p4, p5⟩ := y
  refine gd (fun wz => Blk wz g1 262 [.string ke, .string cl, .int .i64 fr, .int .i64 tt, .int .i64 dy, .int .i64 mi] ∧ (SlOld cdEnc 6 262 w.heap.size none (some ⟨b, off, none⟩) n l) wz ∧ True) mixed (fun _ hm => ⟨hm.bl 0, hm.fa 0, trivial⟩) fun z => ?_
  refine wt 0 14 1 rfl z (ov_move rfl) ?_
  refine wt 1 14 3 rfl z (ov_gtr rfl rfl) ?_
  refine wa_set 22 (v' := .bool true) rfl (congrArg Value.bool (decide_eq_true (by omega))) ?_
  refine wt 2 14 7 rfl z (ov_move rfl) ?_
  refine wto 3 14 15 rfl rfl rfl z (ov_field fo262_0 rfl rfl) ?_
  refine wto 4 14 31 rfl rfl rfl z (ov_load sc9 rfl (fun _ hm => hm.1) rfl) ?_
  refine wto 5 14 63 rfl rfl rfl z (ov_move rfl) ?_
  refine wto 6 14 127 rfl rfl rfl z (ov_move rfl) ?_
  refine wto 7 14 255 rfl rfl rfl z (ov_sub rfl rfl (by omega) (by omega)) ?_
  refine wa_set 28 (v' := .int .i64 ((k - 1 : Nat) : Int)) rfl (congrArg (Value.int .i64) (by omega)) ?_
  refine wto 8 14 511 rfl rfl rfl z (ov_index (j := k - 1) es29 rfl rfl (by omega)) ?_
  refine wto 9 14 1023 rfl rfl rfl z (ov_field fo262_0 rfl rfl) ?_
  refine wto 10 14 2047 rfl rfl rfl z (ov_elem1 (k := 0) (v := .string p0) sc9 rfl (fun _ hm => (hm.2.1).1) hy rfl rfl) ?_
  refine wto 11 14 4095 rfl rfl rfl z (ov_sleq rfl rfl) ?_
  refine wt 12 14 8191 rfl z (ov_pick_t rfl rfl) ?_
  refine wt 13 14 16383 rfl z (ov_assign rfl) ?_
  refine wa_done (by kernel_rfl) ?_
  refine nx_then ?_
  refine gw_cond rfl (fun hh => ?_) (fun hh => ?_)
  ·have h9 : (Op.bytesLess ke.toList p0.toList || ke.toList == p0.toList) = true := by simpa using hh
   clear hh
   refine sr_ ?_
   have hO : leCd (prevOf l k) ⟨ke, cl, fr, tt, dy, mi⟩ = true := by rw [prevOf_pos hk0 hy]; exact h9
   refine sg_ rfl (nn_ ?_)
   refine gw_ret ?_
   refine nx_blk_ret (nx_blk_ret (nx_then_ret (nx_then_ret (nx_blk_ret (nx_then_ret ?_)))))
   have hE : codeE (prevOf l k) ⟨ke, cl, fr, tt, dy, mi⟩ = 7 := by unfold codeE; simp [h2, hO]
   refine nx_ret1 rfl rfl fun wx hm => ?_
   exact ⟨ret_int (by rw [hinv.2, hat, if_neg (by rw [hE]; decide), hE]), hm.g⟩
  have h9 : (Op.bytesLess ke.toList p0.toList || ke.toList == p0.toList) = false := by simpa using hh
  clear hh
  refine sr_ ?_
  have hO : leCd (prevOf l k) ⟨ke, cl, fr, tt, dy, mi⟩ = false := by rw [prevOf_pos hk0 hy]; exact h9
  refine fd_ fo262_1 rfl rfl (lk_ sc9 0 rfl rfl rfl (wl_ov (ov_sneq rfl rfl) rfl (mv_ rfl ?_)))
  rcases Bool.eq_false_or_eq_true (!(cl.toList == (⟨#[]⟩ : ByteArray).toList)) with h31 | h31
  ·refine wl_set 38 rfl (congrArg Value.bool h31) ?_
   have h31 : emptyS cl = false := by unfold emptyS; simpa only [Bool.not_eq_true'] using h31
   refine wl_guard_on rfl rfl rfl (fd_ fo262_1 rfl rfl (wl_guard_on rfl rfl rfl (lk_ sc9 0 rfl rfl rfl (wl_guard_on rfl rfl rfl ?_))))
   refine wl_callw rfl cb137 rfl rfl (fun wx hm => (isKey_any _ wx (by omega))) ?_
   refine wl_guard_on rfl rfl rfl (wl_ov (ov_un_not rfl) rfl (pt_ rfl rfl (sg_ rfl (nn_ ?_))))
   refine gw_cond rfl (fun hh => ?_) (fun hh => ?_)
   ·have h32 : (keyB cl) = false := by simpa using hh
    clear hh
    refine sr_ (sg_ rfl (nn_ ?_))
    refine gw_ret ?_
    refine nx_blk_ret (nx_blk_ret (nx_then_ret (nx_then_ret (nx_blk_ret (nx_then_ret ?_)))))
    have hE : codeE (prevOf l k) ⟨ke, cl, fr, tt, dy, mi⟩ = 5 := by unfold codeE; simp [h2, hO, h31, h32]
    refine nx_ret1 rfl rfl fun wx hm => ?_
    exact ⟨ret_int (by rw [hinv.2, hat, if_neg (by rw [hE]; decide), hE]), hm.g⟩
   have h32 : (keyB cl) = true := by simpa using hh
   clear hh
   refine sr_ (fd_ fo262_2 rfl rfl (lk_ sc3 0 rfl rfl rfl (fd_ fo262_3 rfl rfl (lk_ sc3 0 rfl rfl rfl ?_))))
   refine wl_callw rfl cb175 rfl rfl (fun wx hm => (in_any _ _ _ wx)) ?_
   refine wl_ov (ov_un_not rfl) rfl (mv_ rfl ?_)
   rcases Bool.eq_false_or_eq_true (!(inB fr 0 tt)) with h4 | h4
   ·refine wl_set 51 rfl (congrArg Value.bool h4) ?_
    refine goff rfl rfl rfl (goff rfl rfl rfl (goff rfl rfl rfl (pt_ rfl rfl (sg_ rfl (nn_ (ct_ rfl (sr_ (sg_ rfl (nn_ ?_)))))))))
    refine gw_ret ?_
    refine nx_blk_ret (nx_blk_ret (nx_then_ret (nx_then_ret (nx_blk_ret (nx_then_ret ?_)))))
    have hE : codeE (prevOf l k) ⟨ke, cl, fr, tt, dy, mi⟩ = 1 := by unfold codeE; simp [h2, hO, h31, h32, h4]
    refine nx_ret1 rfl rfl fun wx hm => ?_
    exact ⟨ret_int (by rw [hinv.2, hat, if_neg (by rw [hE]; decide), hE]), hm.g⟩
   refine wl_set 51 rfl (congrArg Value.bool h4) ?_
   refine wl_guard_on rfl rfl rfl (fd_ fo262_3 rfl rfl (wl_guard_on rfl rfl rfl (lk_ sc3 0 rfl rfl rfl (wl_guard_on rfl rfl rfl ?_))))
   refine wl_ov (ov_gtr rfl rfl) rfl ?_
   refine pf_ rfl rfl (sg_ rfl (nn_ ?_))
   refine gw_cond rfl (fun hh => ?_) (fun hh => ?_)
   ·have h5 : 4001 < tt := by simpa using hh
    clear hh
    refine sr_ (sg_ rfl (nn_ ?_))
    refine gw_ret ?_
    refine nx_blk_ret (nx_blk_ret (nx_then_ret (nx_then_ret (nx_blk_ret (nx_then_ret ?_)))))
    have hE : codeE (prevOf l k) ⟨ke, cl, fr, tt, dy, mi⟩ = 1 := by unfold codeE; simp [h2, hO, h31, h32, h4, h5]
    refine nx_ret1 rfl rfl fun wx hm => ?_
    exact ⟨ret_int (by rw [hinv.2, hat, if_neg (by rw [hE]; decide), hE]), hm.g⟩
   have h5 : ¬ (4001 < tt) := by simpa using hh
   clear hh
   refine sr_ (fd_ fo262_4 rfl rfl (lk_ sc3 0 rfl rfl rfl ?_))
   refine wl_callw rfl cb175 rfl rfl (fun wx hm => (in_any _ _ _ wx)) ?_
   refine wl_ov (ov_un_not rfl) rfl (mv_ rfl ?_)
   rcases Bool.eq_false_or_eq_true (!(inB dy 1 120)) with h6 | h6
   ·refine wl_set 61 rfl (congrArg Value.bool h6) ?_
    refine goff rfl rfl rfl (goff rfl rfl rfl (goff rfl rfl rfl (goff rfl rfl rfl (pt_ rfl rfl (sg_ rfl (nn_ (ct_ rfl (sr_ (sg_ rfl (nn_ ?_))))))))))
    refine gw_ret ?_
    refine nx_blk_ret (nx_blk_ret (nx_then_ret (nx_then_ret (nx_blk_ret (nx_then_ret ?_)))))
    have hE : codeE (prevOf l k) ⟨ke, cl, fr, tt, dy, mi⟩ = 1 := by unfold codeE; simp [h2, hO, h31, h32, h4, h5, h6]
    refine nx_ret1 rfl rfl fun wx hm => ?_
    exact ⟨ret_int (by rw [hinv.2, hat, if_neg (by rw [hE]; decide), hE]), hm.g⟩
   refine wl_set 61 rfl (congrArg Value.bool h6) ?_
   refine wl_guard_on rfl rfl rfl (fd_ fo262_5 rfl rfl (wl_guard_on rfl rfl rfl (lk_ sc3 0 rfl rfl rfl (wl_guard_on rfl rfl rfl ?_))))
   refine wl_callw rfl cb175 rfl rfl (fun wx hm => (in_any _ _ _ wx)) ?_
   refine wl_guard_on rfl rfl rfl (wl_ov (ov_un_not rfl) rfl (pf_ rfl rfl (sg_ rfl (nn_ ?_))))
   refine gw_cond rfl (fun hh => ?_) (fun hh => ?_)
   ·have h7 : (inB mi 1 1000) = false := by simpa using hh
    clear hh
    refine sr_ (sg_ rfl (nn_ ?_))
    refine gw_ret ?_
    refine nx_blk_ret (nx_blk_ret (nx_then_ret (nx_then_ret (nx_blk_ret (nx_then_ret ?_)))))
    have hE : codeE (prevOf l k) ⟨ke, cl, fr, tt, dy, mi⟩ = 1 := by unfold codeE; simp [h2, hO, h31, h32, h4, h5, h6, h7]
    refine nx_ret1 rfl rfl fun wx hm => ?_
    exact ⟨ret_int (by rw [hinv.2, hat, if_neg (by rw [hE]; decide), hE]), hm.g⟩
   have h7 : (inB mi 1 1000) = true := by simpa using hh
   clear hh
   refine gw_skip (nx_blk_nrm (nx_blk_nrm (nx_then (gw_region ?_))))
   have hE : codeE (prevOf l k) ⟨ke, cl, fr, tt, dy, mi⟩ = 0 := by unfold codeE; simp [h2, hO, h31, h32, h4, h5, h6, h7]
   refine ad_ rfl rfl (mv_ rfl (wl_nil ?_))
   exact nx_round (k + 1) ⟨by omega, by rw [hinv.2, hat, if_pos hE]⟩ (by omega) ⟨rfl, rfl, rfl, (some_int (by omega)), trivial⟩ (fun _ hm => hm.pick [] [] [0] rfl rfl)
  refine wl_set 38 rfl (congrArg Value.bool h31) ?_
  have h31 : emptyS cl = true := by unfold emptyS; simpa only [Bool.not_eq_false'] using h31
  refine goff rfl rfl rfl (goff rfl rfl rfl (goff rfl rfl rfl (goff rfl rfl rfl (pf_ rfl rfl (sg_ rfl (nn_ (cf_ rfl (sr_ (fd_ fo262_2 rfl rfl (lk_ sc3 0 rfl rfl rfl (fd_ fo262_3 rfl rfl ?_)))))))))))
  refine lk_ sc3 0 rfl rfl rfl ?_
  refine wl_callw rfl cb175 rfl rfl (fun wx hm => (in_any _ _ _ wx)) ?_
  refine wl_ov (ov_un_not rfl) rfl (mv_ rfl ?_)
  rcases Bool.eq_false_or_eq_true (!(inB fr 0 tt)) with h4 | h4
  ·refine wl_set 51 rfl (congrArg Value.bool h4) ?_
   refine goff rfl rfl rfl (goff rfl rfl rfl (goff rfl rfl rfl (pt_ rfl rfl (sg_ rfl (nn_ (ct_ rfl (sr_ (sg_ rfl (nn_ ?_)))))))))
   refine gw_ret ?_
   refine nx_blk_ret (nx_blk_ret (nx_then_ret (nx_then_ret (nx_blk_ret (nx_then_ret ?_)))))
   have hE : codeE (prevOf l k) ⟨ke, cl, fr, tt, dy, mi⟩ = 1 := by unfold codeE; simp [h2, hO, h31, h4]
   refine nx_ret1 rfl rfl fun wx hm => ?_
   exact ⟨ret_int (by rw [hinv.2, hat, if_neg (by rw [hE]; decide), hE]), hm.g⟩
  refine wl_set 51 rfl (congrArg Value.bool h4) ?_
  refine wl_guard_on rfl rfl rfl (fd_ fo262_3 rfl rfl (wl_guard_on rfl rfl rfl (lk_ sc3 0 rfl rfl rfl (wl_guard_on rfl rfl rfl ?_))))
  refine wl_ov (ov_gtr rfl rfl) rfl ?_
  refine pf_ rfl rfl (sg_ rfl (nn_ ?_))
  refine gw_cond rfl (fun hh => ?_) (fun hh => ?_)
  ·have h5 : 4001 < tt := by simpa using hh
   clear hh
   refine sr_ (sg_ rfl (nn_ ?_))
   refine gw_ret ?_
   refine nx_blk_ret (nx_blk_ret (nx_then_ret (nx_then_ret (nx_blk_ret (nx_then_ret ?_)))))
   have hE : codeE (prevOf l k) ⟨ke, cl, fr, tt, dy, mi⟩ = 1 := by unfold codeE; simp [h2, hO, h31, h4, h5]
   refine nx_ret1 rfl rfl fun wx hm => ?_
   exact ⟨ret_int (by rw [hinv.2, hat, if_neg (by rw [hE]; decide), hE]), hm.g⟩
  have h5 : ¬ (4001 < tt) := by simpa using hh
  clear hh
  refine sr_ (fd_ fo262_4 rfl rfl (lk_ sc3 0 rfl rfl rfl ?_))
  refine wl_callw rfl cb175 rfl rfl (fun wx hm => (in_any _ _ _ wx)) ?_
  refine wl_ov (ov_un_not rfl) rfl (mv_ rfl ?_)
  rcases Bool.eq_false_or_eq_true (!(inB dy 1 120)) with h6 | h6
  ·refine wl_set 61 rfl (congrArg Value.bool h6) ?_
   refine goff rfl rfl rfl (goff rfl rfl rfl (goff rfl rfl rfl (goff rfl rfl rfl (pt_ rfl rfl (sg_ rfl (nn_ (ct_ rfl (sr_ (sg_ rfl (nn_ ?_))))))))))
   refine gw_ret ?_
   refine nx_blk_ret (nx_blk_ret (nx_then_ret (nx_then_ret (nx_blk_ret (nx_then_ret ?_)))))
   have hE : codeE (prevOf l k) ⟨ke, cl, fr, tt, dy, mi⟩ = 1 := by unfold codeE; simp [h2, hO, h31, h4, h5, h6]
   refine nx_ret1 rfl rfl fun wx hm => ?_
   exact ⟨ret_int (by rw [hinv.2, hat, if_neg (by rw [hE]; decide), hE]), hm.g⟩
  refine wl_set 61 rfl (congrArg Value.bool h6) ?_
  refine wl_guard_on rfl rfl rfl (fd_ fo262_5 rfl rfl (wl_guard_on rfl rfl rfl (lk_ sc3 0 rfl rfl rfl (wl_guard_on rfl rfl rfl ?_))))
  refine wl_callw rfl cb175 rfl rfl (fun wx hm => (in_any _ _ _ wx)) ?_
  refine wl_guard_on rfl rfl rfl (wl_ov (ov_un_not rfl) rfl (pf_ rfl rfl (sg_ rfl (nn_ ?_))))
  refine gw_cond rfl (fun hh => ?_) (fun hh => ?_)
  ·have h7 : (inB mi 1 1000) = false := by simpa using hh
   clear hh
   refine sr_ (sg_ rfl (nn_ ?_))
   refine gw_ret ?_
   refine nx_blk_ret (nx_blk_ret (nx_then_ret (nx_then_ret (nx_blk_ret (nx_then_ret ?_)))))
   have hE : codeE (prevOf l k) ⟨ke, cl, fr, tt, dy, mi⟩ = 1 := by unfold codeE; simp [h2, hO, h31, h4, h5, h6, h7]
   refine nx_ret1 rfl rfl fun wx hm => ?_
   exact ⟨ret_int (by rw [hinv.2, hat, if_neg (by rw [hE]; decide), hE]), hm.g⟩
  have h7 : (inB mi 1 1000) = true := by simpa using hh
  clear hh
  refine gw_skip (nx_blk_nrm (nx_blk_nrm (nx_then (gw_region ?_))))
  have hE : codeE (prevOf l k) ⟨ke, cl, fr, tt, dy, mi⟩ = 0 := by unfold codeE; simp [h2, hO, h31, h4, h5, h6, h7]
  refine ad_ rfl rfl (mv_ rfl (wl_nil ?_))
  exact nx_round (k + 1) ⟨by omega, by rw [hinv.2, hat, if_pos hE]⟩ (by omega) ⟨rfl, rfl, rfl, (some_int (by omega)), trivial⟩ (fun _ hm => hm.pick [] [] [0] rfl rfl)
 have hk : ¬ (((k : Nat) : Int) < ((n : Nat) : Int)) := by simpa using hh
 clear hh
 refine gw_exit ?_
 refine nx_then_exit (nx_then_exit ?_)
 refine nx_blk_here ?_
 refine nx_then (sr_ (sg_ rfl (nn_ ?_)))
 refine gw_ret ?_
 refine nx_ret1 rfl rfl fun wx hm => ?_
 exact ⟨ret_int (by rw [hinv.2, scanE_end _ _ _ _ (by omega)]), hm.g⟩
theorem codesFault_any (l : List Cd) (A : Option Addr) (n c : Nat) (w : World) (hl : SlT cdEnc 6 262 w A n l) (hok : ∀ b ∈ l, CdOk b) (hn : n ≤ 1000000) :
  Calls Tryz.prog 100 #[.slice A n c] w (GotE w (codesE l)) := by
 refine gw_enter ⟨62, w, none, []⟩ Tryz.func100 rfl Tryz.ntmps100 rfl (mem0 (X := [SlOld cdEnc 6 262 w.heap.size none A n l]) (allF_cons hl.old allF_nil) (allL_cons SlOld.lasts allL_nil)) ?_
 refine sr_ ?_
 have hlen := hl.len
 refine sg_ rfl (nn_ (gw_seq (sr_ (mv_ rfl (wl_ov (ov_len es29 rfl) rfl ?_)))))
 refine wl_ov (ov_gtr rfl rfl) rfl ?_
 refine nn_ ?_
 refine gw_cond rfl (fun hh => ?_) (fun hh => ?_)
 ·have h1 : 50 < ((n : Nat) : Int) := by simpa using hh
  clear hh
  refine sr_ (sg_ rfl (nn_ ?_))
  refine gw_ret ?_
  refine nx_then_ret ?_
  refine nx_ret1 rfl rfl fun wx hm => ?_
  exact ⟨ret_int (by unfold codesE; rw [if_pos (by omega)]), hm.g⟩
 have h1 : ¬ (50 < ((n : Nat) : Int)) := by simpa using hh
 clear hh
 refine gw_skip (nx_then (sr_ (sg_ rfl (nn_ (gw_seq (sr_ (mv_ rfl (wl_ov (ov_len es29 rfl) rfl (mv_ rfl (wl_nil ?_))))))))))
 refine nx_then (gw_block ?_)
 refine gw_loop (γ := Nat) (fun (k : Nat) => k ≤ n ∧ codesE l = scanE codeE (prevOf l k) (l.drop k)) (fun (k : Nat) => [(3, .string (prevCd l k)), (9, .slice A n c), (10, .int .i64 ((n : Nat) : Int)), (11, .int .i64 ((k : Nat) : Int))]) (fun (k : Nat) => fun _ => True) (fun (k : Nat) => []) (fun (k : Nat) => []) (fun (k : Nat) => [SlOld cdEnc 6 262 w.heap.size none A n l]) (fun (k : Nat) => n - k) 0 ⟨Nat.zero_le _, by unfold codesE; rw [if_neg (by omega)]; rfl⟩ ⟨rfl, rfl, rfl, rfl, trivial⟩ (fun _ hm => hm.pick [] [] [0] rfl rfl) ?_
 intro k hinv
 replace hinv : k ≤ n ∧ codesE l = scanE codeE (prevOf l k) (l.drop k) := hinv
 refine sr_ (wl_ov (ov_lss rfl rfl) rfl (nn_ (gw_seq ?_)))
 refine gw_cond rfl (fun hh => ?_) (fun hh => ?_)
 ·have hk : ((k : Nat) : Int) < ((n : Nat) : Int) := by simpa using hh
  clear hh
  refine gw_skip (nx_then (gw_seq (gw_block (sr_ ?_))))
  obtain ⟨b, off, hA, _, _⟩ := hl.get (by omega)
  subst hA
  obtain ⟨x, hx⟩ : ∃ x, l[k]? = some x := ⟨_, List.getElem?_eq_getElem (by omega)⟩
  obtain ⟨ke, cl, fr, tt, dy, mi⟩ := x
  have hat := scanE_at codeE l k _ hx
  have hk1 : ke.size ≤ 1000000 := (hok _ (List.mem_of_getElem? hx)).1
  have hk2 : cl.size ≤ 1000000 := (hok _ (List.mem_of_getElem? hx)).2
  refine wl_ov (ov_index (j := k) es29 rfl rfl (by omega)) rfl ?_
  refine wl_ov (ov_elem (vs := [.string ke, .string cl, .int .i64 fr, .int .i64 tt, .int .i64 dy, .int .i64 mi]) rz262 rfl (fun _ hm => (hm.fact 0 rfl).1) hx rfl rfl) rfl ?_
  refine wl_alloc zc262 rfl fun g1 => ?_
  refine wl_stores (cs' := [.string ke, .string cl, .int .i64 fr, .int .i64 tt, .int .i64 dy, .int .i64 mi]) 0 rz262 rfl rfl rfl rfl rfl rfl rfl rfl ?_
  refine nn_ (gw_seq (gw_block (sr_ (fd_ fo262_0 rfl rfl (lk_ sc9 0 rfl rfl rfl ?_)))))
  refine wl_callv rfl cb108 rfl rfl (fun wx hm => (key_any _ wx (by omega))) ?_
  refine wl_ov (ov_un_not rfl) rfl (sg_ rfl (nn_ ?_))
  refine gw_cond rfl (fun hh => ?_) (fun hh => ?_)
  ·have h2 : (keyB ke) = false := by simpa using hh
   clear hh
   refine sr_ (sg_ rfl (nn_ ?_))
   refine gw_ret ?_
   refine nx_blk_ret (nx_then_ret (nx_blk_ret (nx_then_ret (nx_then_ret (nx_blk_ret (nx_then_ret ?_))))))
   have hE : codeE (prevOf l k) ⟨ke, cl, fr, tt, dy, mi⟩ = 5 := by unfold codeE; simp [h2]
   refine nx_ret1 rfl rfl fun wx hm => ?_
   exact ⟨ret_int (by rw [hinv.2, hat, if_neg (by rw [hE]; decide), hE]), hm.g⟩
  have h2 : (keyB ke) = true := by simpa using hh
  clear hh
  refine sr_ (fd_ fo262_0 rfl rfl (lk_ sc9 0 rfl rfl rfl (mv_ rfl ?_)))
  refine wl_ov (ov_sleq rfl rfl) rfl ?_
  refine sg_ rfl (nn_ ?_)
  refine gw_cond rfl (fun hh => ?_) (fun hh => ?_)
  ·have h9 : (Op.bytesLess ke.toList (prevCd l k).toList || ke.toList == (prevCd l k).toList) = true := by simpa using hh
   clear hh
   refine sr_ ?_
   have hO : leCd (prevOf l k) ⟨ke, cl, fr, tt, dy, mi⟩ = true := (prevCd_le (b := ⟨ke, cl, fr, tt, dy, mi⟩) (by simpa using h2)).symm.trans h9
   refine sg_ rfl (nn_ ?_)
   refine gw_ret ?_
   refine nx_blk_ret (nx_then_ret (nx_blk_ret (nx_then_ret (nx_then_ret (nx_blk_ret (nx_then_ret ?_))))))
   have hE : codeE (prevOf l k) ⟨ke, cl, fr, tt, dy, mi⟩ = 7 := by unfold codeE; simp [h2, hO]
   refine nx_ret1 rfl rfl fun wx hm => ?_
   exact ⟨ret_int (by rw [hinv.2, hat, if_neg (by rw [hE]; decide), hE]), hm.g⟩
  have h9 : (Op.bytesLess ke.toList (prevCd l k).toList || ke.toList == (prevCd l k).toList) = false := by simpa using hh
  clear hh
  refine sr_ ?_
  have hO : leCd (prevOf l k) ⟨ke, cl, fr, tt, dy, mi⟩ = false := (prevCd_le (b := ⟨ke, cl, fr, tt, dy, mi⟩) (by simpa using h2)).symm.trans h9
  refine fd_ fo262_1 rfl rfl (lk_ sc9 0 rfl rfl rfl (wl_ov (ov_sneq rfl rfl) rfl (mv_ rfl ?_)))
  rcases Bool.eq_false_or_eq_true (!(cl.toList == (⟨#[]⟩ : ByteArray).toList)) with h31 | h31
  ·refine wl_set 29 rfl (congrArg Value.bool h31) ?_
   have h31 : emptyS cl = false := by unfold emptyS; simpa only [Bool.not_eq_true'] using h31
   refine wl_guard_on rfl rfl rfl (fd_ fo262_1 rfl rfl (wl_guard_on rfl rfl rfl (lk_ sc9 0 rfl rfl rfl (wl_guard_on rfl rfl rfl ?_))))
   refine wl_callv rfl cb108 rfl rfl (fun wx hm => (key_any _ wx (by omega))) ?_
   refine wl_guard_on rfl rfl rfl (wl_ov (ov_un_not rfl) rfl (pt_ rfl rfl (sg_ rfl (nn_ ?_))))
   refine gw_cond rfl (fun hh => ?_) (fun hh => ?_)
   ·have h32 : (keyB cl) = false := by simpa using hh
    clear hh
    refine sr_ (sg_ rfl (nn_ ?_))
    refine gw_ret ?_
    refine nx_blk_ret (nx_then_ret (nx_blk_ret (nx_then_ret (nx_then_ret (nx_blk_ret (nx_then_ret ?_))))))
    have hE : codeE (prevOf l k) ⟨ke, cl, fr, tt, dy, mi⟩ = 5 := by unfold codeE; simp [h2, hO, h31, h32]
    refine nx_ret1 rfl rfl fun wx hm => ?_
    exact ⟨ret_int (by rw [hinv.2, hat, if_neg (by rw [hE]; decide), hE]), hm.g⟩
   have h32 : (keyB cl) = true := by simpa using hh
   clear hh
   refine sr_ (fd_ fo262_2 rfl rfl (lk_ sc3 0 rfl rfl rfl (fd_ fo262_3 rfl rfl (lk_ sc3 0 rfl rfl rfl ?_))))
   refine wl_callw rfl cb133 rfl rfl (fun wx hm => (rin_any _ _ _ wx)) ?_
   refine wl_ov (ov_un_not rfl) rfl (mv_ rfl ?_)
   rcases Bool.eq_false_or_eq_true (!(inB fr 0 tt)) with h4 | h4
   ·refine wl_set 42 rfl (congrArg Value.bool h4) ?_
    refine goff rfl rfl rfl (goff rfl rfl rfl (goff rfl rfl rfl (pt_ rfl rfl (mv_ rfl (goff rfl rfl rfl (goff rfl rfl rfl (goff rfl rfl rfl (goff rfl rfl rfl (pt_ rfl rfl (mv_ rfl (goff rfl rfl rfl (goff rfl rfl rfl (goff rfl rfl rfl ?_)))))))))))))
    refine goff rfl rfl rfl (pt_ rfl rfl (sg_ rfl (nn_ (ct_ rfl (sr_ (sg_ rfl (nn_ ?_)))))))
    refine gw_ret ?_
    refine nx_blk_ret (nx_then_ret (nx_blk_ret (nx_then_ret (nx_then_ret (nx_blk_ret (nx_then_ret ?_))))))
    have hE : codeE (prevOf l k) ⟨ke, cl, fr, tt, dy, mi⟩ = 1 := by unfold codeE; simp [h2, hO, h31, h32, h4]
    refine nx_ret1 rfl rfl fun wx hm => ?_
    exact ⟨ret_int (by rw [hinv.2, hat, if_neg (by rw [hE]; decide), hE]), hm.g⟩
   refine wl_set 42 rfl (congrArg Value.bool h4) ?_
   refine wl_guard_on rfl rfl rfl (fd_ fo262_3 rfl rfl (wl_guard_on rfl rfl rfl (lk_ sc3 0 rfl rfl rfl (wl_guard_on rfl rfl rfl ?_))))
   refine wl_ov (ov_gtr rfl rfl) rfl ?_
   refine pf_ rfl rfl (mv_ rfl ?_)
   rcases Bool.eq_false_or_eq_true (decide (4001 < tt)) with h5 | h5
   ·refine wl_set 47 rfl (congrArg Value.bool h5) ?_
    replace h5 := of_decide_eq_true h5
    refine goff rfl rfl rfl (goff rfl rfl rfl (goff rfl rfl rfl (goff rfl rfl rfl (pt_ rfl rfl (mv_ rfl (goff rfl rfl rfl (goff rfl rfl rfl (goff rfl rfl rfl (goff rfl rfl rfl (pt_ rfl rfl (sg_ rfl (nn_ ?_))))))))))))
    refine ct_ rfl (sr_ (sg_ rfl (nn_ ?_)))
    refine gw_ret ?_
    refine nx_blk_ret (nx_then_ret (nx_blk_ret (nx_then_ret (nx_then_ret (nx_blk_ret (nx_then_ret ?_))))))
    have hE : codeE (prevOf l k) ⟨ke, cl, fr, tt, dy, mi⟩ = 1 := by unfold codeE; simp [h2, hO, h31, h32, h4, h5]
    refine nx_ret1 rfl rfl fun wx hm => ?_
    exact ⟨ret_int (by rw [hinv.2, hat, if_neg (by rw [hE]; decide), hE]), hm.g⟩
   refine wl_set 47 rfl (congrArg Value.bool h5) ?_
   replace h5 := of_decide_eq_false h5
   refine wl_guard_on rfl rfl rfl (fd_ fo262_4 rfl rfl (wl_guard_on rfl rfl rfl (lk_ sc3 0 rfl rfl rfl (wl_guard_on rfl rfl rfl ?_))))
   refine wl_callw rfl cb133 rfl rfl (fun wx hm => (rin_any _ _ _ wx)) ?_
   refine wl_guard_on rfl rfl rfl (wl_ov (ov_un_not rfl) rfl (pf_ rfl rfl (mv_ rfl ?_)))
   rcases Bool.eq_false_or_eq_true (!(inB dy 1 120)) with h6 | h6
   ·refine wl_set 53 rfl (congrArg Value.bool h6) ?_
    refine goff rfl rfl rfl (goff rfl rfl rfl (goff rfl rfl rfl (goff rfl rfl rfl (pt_ rfl rfl (sg_ rfl (nn_ (ct_ rfl (sr_ (sg_ rfl (nn_ ?_))))))))))
    refine gw_ret ?_
    refine nx_blk_ret (nx_then_ret (nx_blk_ret (nx_then_ret (nx_then_ret (nx_blk_ret (nx_then_ret ?_))))))
    have hE : codeE (prevOf l k) ⟨ke, cl, fr, tt, dy, mi⟩ = 1 := by unfold codeE; simp [h2, hO, h31, h32, h4, h5, h6]
    refine nx_ret1 rfl rfl fun wx hm => ?_
    exact ⟨ret_int (by rw [hinv.2, hat, if_neg (by rw [hE]; decide), hE]), hm.g⟩
   refine wl_set 53 rfl (congrArg Value.bool h6) ?_
   refine wl_guard_on rfl rfl rfl (fd_ fo262_5 rfl rfl (wl_guard_on rfl rfl rfl (lk_ sc3 0 rfl rfl rfl (wl_guard_on rfl rfl rfl ?_))))
   refine wl_callw rfl cb133 rfl rfl (fun wx hm => (rin_any _ _ _ wx)) ?_
   refine wl_guard_on rfl rfl rfl (wl_ov (ov_un_not rfl) rfl (pf_ rfl rfl (sg_ rfl (nn_ ?_))))
   refine gw_cond rfl (fun hh => ?_) (fun hh => ?_)
   ·have h7 : (inB mi 1 1000) = false := by simpa using hh
    clear hh
    refine sr_ (sg_ rfl (nn_ ?_))
    refine gw_ret ?_
    refine nx_blk_ret (nx_then_ret (nx_blk_ret (nx_then_ret (nx_then_ret (nx_blk_ret (nx_then_ret ?_))))))
    have hE : codeE (prevOf l k) ⟨ke, cl, fr, tt, dy, mi⟩ = 1 := by unfold codeE; simp [h2, hO, h31, h32, h4, h5, h6, h7]
    refine nx_ret1 rfl rfl fun wx hm => ?_
    exact ⟨ret_int (by rw [hinv.2, hat, if_neg (by rw [hE]; decide), hE]), hm.g⟩
   have h7 : (inB mi 1 1000) = true := by simpa using hh
   clear hh
   refine gw_skip (nx_blk_nrm (nx_then (gw_region ?_)))
   have hE : codeE (prevOf l k) ⟨ke, cl, fr, tt, dy, mi⟩ = 0 := by unfold codeE; simp [h2, hO, h31, h32, h4, h5, h6, h7]
   refine fd_ fo262_0 rfl rfl (lk_ sc9 0 rfl rfl rfl (sg_ rfl (wl_nil (nx_blk_nrm (nx_then (gw_region (ad_ rfl rfl (mv_ rfl (wl_nil ?_)))))))))
   exact nx_round (k + 1) ⟨by omega, by rw [hinv.2, hat, if_pos hE]⟩ (by omega) ⟨(congrArg (fun z => some (Value.string z)) (prevCd_succ hx).symm), rfl, rfl, (some_int (by omega)), trivial⟩ (fun _ hm => hm.pick [] [] [0] rfl rfl)
  refine wl_set 29 rfl (congrArg Value.bool h31) ?_
  have h31 : emptyS cl = true := by unfold emptyS; simpa only [Bool.not_eq_false'] using h31
  refine goff rfl rfl rfl (goff rfl rfl rfl (goff rfl rfl rfl (goff rfl rfl rfl (pf_ rfl rfl (sg_ rfl (nn_ (cf_ rfl (sr_ (fd_ fo262_2 rfl rfl (lk_ sc3 0 rfl rfl rfl (fd_ fo262_3 rfl rfl ?_)))))))))))
  refine lk_ sc3 0 rfl rfl rfl ?_
  refine wl_callw rfl cb133 rfl rfl (fun wx hm => (rin_any _ _ _ wx)) ?_
  refine wl_ov (ov_un_not rfl) rfl (mv_ rfl ?_)
  rcases Bool.eq_false_or_eq_true (!(inB fr 0 tt)) with h4 | h4
  ·refine wl_set 42 rfl (congrArg Value.bool h4) ?_
   refine goff rfl rfl rfl (goff rfl rfl rfl (goff rfl rfl rfl (pt_ rfl rfl (mv_ rfl (goff rfl rfl rfl (goff rfl rfl rfl (goff rfl rfl rfl (goff rfl rfl rfl (pt_ rfl rfl (mv_ rfl (goff rfl rfl rfl (goff rfl rfl rfl (goff rfl rfl rfl ?_)))))))))))))
   refine goff rfl rfl rfl (pt_ rfl rfl (sg_ rfl (nn_ (ct_ rfl (sr_ (sg_ rfl (nn_ ?_)))))))
   refine gw_ret ?_
   refine nx_blk_ret (nx_then_ret (nx_blk_ret (nx_then_ret (nx_then_ret (nx_blk_ret (nx_then_ret ?_))))))
   have hE : codeE (prevOf l k) ⟨ke, cl, fr, tt, dy, mi⟩ = 1 := by unfold codeE; simp [h2, hO, h31, h4]
   refine nx_ret1 rfl rfl fun wx hm => ?_
   exact ⟨ret_int (by rw [hinv.2, hat, if_neg (by rw [hE]; decide), hE]), hm.g⟩
  refine wl_set 42 rfl (congrArg Value.bool h4) ?_
  refine wl_guard_on rfl rfl rfl (fd_ fo262_3 rfl rfl (wl_guard_on rfl rfl rfl (lk_ sc3 0 rfl rfl rfl (wl_guard_on rfl rfl rfl ?_))))
  refine wl_ov (ov_gtr rfl rfl) rfl ?_
  refine pf_ rfl rfl (mv_ rfl ?_)
  rcases Bool.eq_false_or_eq_true (decide (4001 < tt)) with h5 | h5
  ·refine wl_set 47 rfl (congrArg Value.bool h5) ?_
   replace h5 := of_decide_eq_true h5
   refine goff rfl rfl rfl (goff rfl rfl rfl (goff rfl rfl rfl (goff rfl rfl rfl (pt_ rfl rfl (mv_ rfl (goff rfl rfl rfl (goff rfl rfl rfl (goff rfl rfl rfl (goff rfl rfl rfl (pt_ rfl rfl (sg_ rfl (nn_ ?_))))))))))))
   refine ct_ rfl (sr_ (sg_ rfl (nn_ ?_)))
   refine gw_ret ?_
   refine nx_blk_ret (nx_then_ret (nx_blk_ret (nx_then_ret (nx_then_ret (nx_blk_ret (nx_then_ret ?_))))))
   have hE : codeE (prevOf l k) ⟨ke, cl, fr, tt, dy, mi⟩ = 1 := by unfold codeE; simp [h2, hO, h31, h4, h5]
   refine nx_ret1 rfl rfl fun wx hm => ?_
   exact ⟨ret_int (by rw [hinv.2, hat, if_neg (by rw [hE]; decide), hE]), hm.g⟩
  refine wl_set 47 rfl (congrArg Value.bool h5) ?_
  replace h5 := of_decide_eq_false h5
  refine wl_guard_on rfl rfl rfl (fd_ fo262_4 rfl rfl (wl_guard_on rfl rfl rfl (lk_ sc3 0 rfl rfl rfl (wl_guard_on rfl rfl rfl ?_))))
  refine wl_callw rfl cb133 rfl rfl (fun wx hm => (rin_any _ _ _ wx)) ?_
  refine wl_guard_on rfl rfl rfl (wl_ov (ov_un_not rfl) rfl (pf_ rfl rfl (mv_ rfl ?_)))
  rcases Bool.eq_false_or_eq_true (!(inB dy 1 120)) with h6 | h6
  ·refine wl_set 53 rfl (congrArg Value.bool h6) ?_
   refine goff rfl rfl rfl (goff rfl rfl rfl (goff rfl rfl rfl (goff rfl rfl rfl (pt_ rfl rfl (sg_ rfl (nn_ (ct_ rfl (sr_ (sg_ rfl (nn_ ?_))))))))))
   refine gw_ret ?_
   refine nx_blk_ret (nx_then_ret (nx_blk_ret (nx_then_ret (nx_then_ret (nx_blk_ret (nx_then_ret ?_))))))
   have hE : codeE (prevOf l k) ⟨ke, cl, fr, tt, dy, mi⟩ = 1 := by unfold codeE; simp [h2, hO, h31, h4, h5, h6]
   refine nx_ret1 rfl rfl fun wx hm => ?_
   exact ⟨ret_int (by rw [hinv.2, hat, if_neg (by rw [hE]; decide), hE]), hm.g⟩
  refine wl_set 53 rfl (congrArg Value.bool h6) ?_
  refine wl_guard_on rfl rfl rfl (fd_ fo262_5 rfl rfl (wl_guard_on rfl rfl rfl (lk_ sc3 0 rfl rfl rfl (wl_guard_on rfl rfl rfl ?_))))
  refine wl_callw rfl cb133 rfl rfl (fun wx hm => (rin_any _ _ _ wx)) ?_
  refine wl_guard_on rfl rfl rfl (wl_ov (ov_un_not rfl) rfl (pf_ rfl rfl (sg_ rfl (nn_ ?_))))
  refine gw_cond rfl (fun hh => ?_) (fun hh => ?_)
  ·have h7 : (inB mi 1 1000) = false := by simpa using hh
   clear hh
   refine sr_ (sg_ rfl (nn_ ?_))
   refine gw_ret ?_
   refine nx_blk_ret (nx_then_ret (nx_blk_ret (nx_then_ret (nx_then_ret (nx_blk_ret (nx_then_ret ?_))))))
   have hE : codeE (prevOf l k) ⟨ke, cl, fr, tt, dy, mi⟩ = 1 := by unfold codeE; simp [h2, hO, h31, h4, h5, h6, h7]
   refine nx_ret1 rfl rfl fun wx hm => ?_
   exact ⟨ret_int (by rw [hinv.2, hat, if_neg (by rw [hE]; decide), hE]), hm.g⟩
  have h7 : (inB mi 1 1000) = true := by simpa using hh
  clear hh
  refine gw_skip (nx_blk_nrm (nx_then (gw_region ?_)))
  have hE : codeE (prevOf l k) ⟨ke, cl, fr, tt, dy, mi⟩ = 0 := by unfold codeE; simp [h2, hO, h31, h4, h5, h6, h7]
  refine fd_ fo262_0 rfl rfl (lk_ sc9 0 rfl rfl rfl (sg_ rfl (wl_nil (nx_blk_nrm (nx_then (gw_region (ad_ rfl rfl (mv_ rfl (wl_nil ?_)))))))))
  exact nx_round (k + 1) ⟨by omega, by rw [hinv.2, hat, if_pos hE]⟩ (by omega) ⟨(congrArg (fun z => some (Value.string z)) (prevCd_succ hx).symm), rfl, rfl, (some_int (by omega)), trivial⟩ (fun _ hm => hm.pick [] [] [0] rfl rfl)
 have hk : ¬ (((k : Nat) : Int) < ((n : Nat) : Int)) := by simpa using hh
 clear hh
 refine gw_exit ?_
 refine nx_then_exit (nx_then_exit ?_)
 refine nx_blk_here ?_
 refine nx_then (sr_ (sg_ rfl (nn_ ?_)))
 refine gw_ret ?_
 refine nx_ret1 rfl rfl fun wx hm => ?_
 exact ⟨ret_int (by rw [hinv.2, scanE_end _ _ _ _ (by omega)]), hm.g⟩
theorem pred_codeAt_1_tariff (ke : ByteArray) (cl : ByteArray) (fr : Int) (tt : Int) (dy : Int) (mi : Int) (gk : Nat) (k : ByteArray) (w : World) (hk : Blk w gk 9 [.string k]) :
  Calls Tryz.prog 311 #[.agg #[.string ke, .string cl, .int .i64 fr, .int .i64 tt, .int .i64 dy, .int .i64 mi], .pointer (some ⟨gk, 0, none⟩)] w (fun e w' => e = .returned (.bool (codeP k ⟨ke, cl, fr, tt, dy, mi⟩)) ∧ w.grownBy w' none) := by
 refine gw_enter ⟨8, w, none, []⟩ Tryz.func311 rfl Tryz.ntmps311 rfl (mem0 (X := [BlkOld w.heap.size none gk 9 [.string k]]) (allF_cons hk.old allF_nil) (allL_cons BlkOld.lasts allL_nil)) ?_
 refine sr_ ?_
 refine wl_box rfl rfl rfl fun g1 => ?_
 refine sg_ rfl (nn_ (sr_ (fd_ fo262_0 rfl rfl (lk_ sc9 0 rfl rfl rfl ?_))))
 refine wl_ov (ov_load (v := .string k) sc9 rfl (fun _ hm => (hm.fact 0 rfl).2) rfl) rfl ?_
 refine wl_ov (ov_seql rfl rfl) rfl (sg_ rfl (nn_ ?_))
 refine gw_ret ?_
 refine nx_ret1 rfl rfl fun wx hm => ?_
 exact ⟨rfl, hm.g⟩
theorem index_codeAt_1_tariff (l : List Cd) (A : Option Addr) (n c0 : Nat) (gk : Nat) (k : ByteArray) (w : World) (hl : SlT cdEnc 6 262 w A n l) (hn : n ≤ 1000000) (hk : Blk w gk 9 [.string k]) :
  Calls Tryz.prog 264 #[.slice A n c0, .func (.func 311) #[] #[.pointer (some ⟨gk, 0, none⟩)]] w (GotE w (ixP (codeP k) l 0)) := by
 refine gw_enter ⟨19, w, none, []⟩ Tryz.func264 rfl Tryz.ntmps264 rfl (mem0 (X := [SlOld cdEnc 6 262 w.heap.size none A n l, BlkOld w.heap.size none gk 9 [.string k]]) (allF_cons hl.old (allF_cons hk.old allF_nil)) (allL_cons SlOld.lasts (allL_cons BlkOld.lasts allL_nil))) ?_
 refine sr_ ?_
 have hlen := hl.len
 refine sg_ rfl (nn_ (gw_seq (sr_ (mv_ rfl (wl_ov (ov_len es29 rfl) rfl (mv_ rfl (nn_ (gw_block ?_))))))))
 refine gw_loop (γ := Nat) (fun (i : Nat) => i ≤ n ∧ ixP (codeP k) l 0 = ixP (codeP k) (l.drop i) i) (fun (i : Nat) => [(0, .slice A n c0), (1, .func (.func 311) #[] #[.pointer (some ⟨gk, 0, none⟩)]), (7, .int .i64 ((n : Nat) : Int)), (8, .int .i64 ((i : Nat) : Int))]) (fun (i : Nat) => fun _ => True) (fun (i : Nat) => []) (fun (i : Nat) => []) (fun (i : Nat) => [SlOld cdEnc 6 262 w.heap.size none A n l, BlkOld w.heap.size none gk 9 [.string k]]) (fun (i : Nat) => n - i) 0 ⟨Nat.zero_le _, rfl⟩ ⟨rfl, rfl, rfl, rfl, trivial⟩ (fun _ hm => hm.pick [] [] [0, 1] rfl rfl) ?_
 intro i hinv
 replace hinv : i ≤ n ∧ ixP (codeP k) l 0 = ixP (codeP k) (l.drop i) i := hinv
 refine sr_ (wl_ov (ov_lss rfl rfl) rfl (nn_ (gw_seq ?_)))
 refine gw_cond rfl (fun hh => ?_) (fun hh => ?_)
 ·have hi : ((i : Nat) : Int) < ((n : Nat) : Int) := by simpa using hh
  clear hh
  refine gw_skip (nx_then (gw_seq (gw_block (sr_ ?_))))
  obtain ⟨b, off, hA, _, _⟩ := hl.get (by omega)
  subst hA
  obtain ⟨x, hx⟩ : ∃ x, l[i]? = some x := ⟨_, List.getElem?_eq_getElem (by omega)⟩
  obtain ⟨ke, cl, fr, tt, dy, mi⟩ := x
  have hat := ixP_at (p := codeP k) hx
  refine mv_ rfl (sg_ rfl (nn_ (sr_ (mv_ rfl (mv_ rfl (mv_ rfl ?_))))))
  refine wl_ov (ov_index (j := i) es29 rfl rfl (by omega)) rfl ?_
  refine wl_ov (ov_elem (vs := [.string ke, .string cl, .int .i64 fr, .int .i64 tt, .int .i64 dy, .int .i64 mi]) rz262 rfl (fun _ hm => (hm.fact 0 rfl).1) hx rfl rfl) rfl ?_
  refine wl_callv rfl cb311 rfl rfl (fun wx hm => (pred_codeAt_1_tariff ke cl fr tt dy mi gk k wx (hm.fact 1 rfl).2)) ?_
  refine nn_ ?_
  refine gw_cond rfl (fun hh => ?_) (fun hh => ?_)
  ·have hq : (codeP k ⟨ke, cl, fr, tt, dy, mi⟩) = true := by simpa using hh
   clear hh
   refine sr_ (mv_ rfl (sg_ rfl (nn_ ?_)))
   refine gw_ret ?_
   refine nx_blk_ret (nx_then_ret (nx_then_ret (nx_blk_ret (nx_then_ret ?_))))
   refine nx_ret1 rfl rfl fun wx hm => ?_
   exact ⟨ret_int (by rw [hinv.2, hat, if_pos hq]), hm.g⟩
  have hq : (codeP k ⟨ke, cl, fr, tt, dy, mi⟩) = false := by simpa using hh
  clear hh
  refine gw_skip (nx_blk_nrm (nx_then (gw_region (ad_ rfl rfl (mv_ rfl (wl_nil ?_))))))
  exact nx_round (i + 1) ⟨by omega, by rw [hinv.2, hat, if_neg (by rw [hq]; decide)]⟩ (by omega) ⟨rfl, rfl, rfl, (some_int (by omega)), trivial⟩ (fun _ hm => hm.pick [] [] [0, 1] rfl rfl)
 have hi : ¬ (((i : Nat) : Int) < ((n : Nat) : Int)) := by simpa using hh
 clear hh
 refine gw_exit ?_
 refine nx_then_exit (nx_then_exit ?_)
 refine nx_blk_here ?_
 refine nx_then (sr_ (sg_ rfl ?_))
 refine wl_set 4 (v' := .int .i64 (-1)) rfl rfl ?_
 refine nn_ ?_
 refine gw_ret ?_
 refine nx_ret1 rfl rfl fun wx hm => ?_
 exact ⟨ret_int (by rw [hinv.2, List.drop_eq_nil_of_le (by omega)]; rfl), hm.g⟩
theorem codeAt_any (l : List Cd) (A : Option Addr) (n c0 : Nat) (k : ByteArray) (w : World) (hl : SlT cdEnc 6 262 w A n l) (hn : n ≤ 1000000) :
  Calls Tryz.prog 256 #[.slice A n c0, .string k] w (GotE w (ixP (codeP k) l 0)) := by
 refine gw_enter ⟨8, w, none, []⟩ Tryz.func256 rfl Tryz.ntmps256 rfl (mem0 (X := [SlOld cdEnc 6 262 w.heap.size none A n l]) (allF_cons hl.old allF_nil) (allL_cons SlOld.lasts allL_nil)) ?_
 refine sr_ ?_
 refine wl_box rfl rfl rfl fun g1 => ?_
 refine sg_ rfl (nn_ (sr_ (mv_ rfl (wl_ov (ov_makeFunc rfl rfl) rfl ?_))))
 refine wl_callv rfl cb264 rfl rfl (fun wx hm => (index_codeAt_1_tariff l A n c0 _ k wx (hm.fact 0 rfl).1 hn (hm.blkI 0 rfl))) ?_
 refine sg_ rfl (nn_ ?_)
 refine gw_ret ?_
 refine nx_ret1 rfl rfl fun wx hm => ?_
 exact ⟨rfl, hm.g⟩
theorem pred_CodeKeysFault_1_rentref1 (ke : ByteArray) (cl : ByteArray) (fr : Int) (tt : Int) (dy : Int) (mi : Int) (gk : Nat) (k : ByteArray) (w : World) (hk : Blk w gk 9 [.string k]) :
  Calls Tryz.prog 212 #[.agg #[.string ke, .string cl, .int .i64 fr, .int .i64 tt, .int .i64 dy, .int .i64 mi], .pointer (some ⟨gk, 0, none⟩)] w (fun e w' => e = .returned (.bool (codeP k ⟨ke, cl, fr, tt, dy, mi⟩)) ∧ w.grownBy w' none) := by
 refine gw_enter ⟨8, w, none, []⟩ Tryz.func212 rfl Tryz.ntmps212 rfl (mem0 (X := [BlkOld w.heap.size none gk 9 [.string k]]) (allF_cons hk.old allF_nil) (allL_cons BlkOld.lasts allL_nil)) ?_
 refine sr_ ?_
 refine wl_box rfl rfl rfl fun g1 => ?_
 refine sg_ rfl (nn_ (sr_ (fd_ fo262_0 rfl rfl (lk_ sc9 0 rfl rfl rfl ?_))))
 refine wl_ov (ov_load (v := .string k) sc9 rfl (fun _ hm => (hm.fact 0 rfl).2) rfl) rfl ?_
 refine wl_ov (ov_seql rfl rfl) rfl (sg_ rfl (nn_ ?_))
 refine gw_ret ?_
 refine nx_ret1 rfl rfl fun wx hm => ?_
 exact ⟨rfl, hm.g⟩
theorem index_CodeKeysFault_1_rentref1 (l : List Cd) (A : Option Addr) (n c0 : Nat) (gk : Nat) (k : ByteArray) (w : World) (hl : SlT cdEnc 6 262 w A n l) (hn : n ≤ 1000000) (hk : Blk w gk 9 [.string k]) :
  Calls Tryz.prog 264 #[.slice A n c0, .func (.func 212) #[] #[.pointer (some ⟨gk, 0, none⟩)]] w (GotE w (ixP (codeP k) l 0)) := by
 refine gw_enter ⟨19, w, none, []⟩ Tryz.func264 rfl Tryz.ntmps264 rfl (mem0 (X := [SlOld cdEnc 6 262 w.heap.size none A n l, BlkOld w.heap.size none gk 9 [.string k]]) (allF_cons hl.old (allF_cons hk.old allF_nil)) (allL_cons SlOld.lasts (allL_cons BlkOld.lasts allL_nil))) ?_
 refine sr_ ?_
 have hlen := hl.len
 refine sg_ rfl (nn_ (gw_seq (sr_ (mv_ rfl (wl_ov (ov_len es29 rfl) rfl (mv_ rfl (nn_ (gw_block ?_))))))))
 refine gw_loop (γ := Nat) (fun (i : Nat) => i ≤ n ∧ ixP (codeP k) l 0 = ixP (codeP k) (l.drop i) i) (fun (i : Nat) => [(0, .slice A n c0), (1, .func (.func 212) #[] #[.pointer (some ⟨gk, 0, none⟩)]), (7, .int .i64 ((n : Nat) : Int)), (8, .int .i64 ((i : Nat) : Int))]) (fun (i : Nat) => fun _ => True) (fun (i : Nat) => []) (fun (i : Nat) => []) (fun (i : Nat) => [SlOld cdEnc 6 262 w.heap.size none A n l, BlkOld w.heap.size none gk 9 [.string k]]) (fun (i : Nat) => n - i) 0 ⟨Nat.zero_le _, rfl⟩ ⟨rfl, rfl, rfl, rfl, trivial⟩ (fun _ hm => hm.pick [] [] [0, 1] rfl rfl) ?_
 intro i hinv
 replace hinv : i ≤ n ∧ ixP (codeP k) l 0 = ixP (codeP k) (l.drop i) i := hinv
 refine sr_ (wl_ov (ov_lss rfl rfl) rfl (nn_ (gw_seq ?_)))
 refine gw_cond rfl (fun hh => ?_) (fun hh => ?_)
 ·have hi : ((i : Nat) : Int) < ((n : Nat) : Int) := by simpa using hh
  clear hh
  refine gw_skip (nx_then (gw_seq (gw_block (sr_ ?_))))
  obtain ⟨b, off, hA, _, _⟩ := hl.get (by omega)
  subst hA
  obtain ⟨x, hx⟩ : ∃ x, l[i]? = some x := ⟨_, List.getElem?_eq_getElem (by omega)⟩
  obtain ⟨ke, cl, fr, tt, dy, mi⟩ := x
  have hat := ixP_at (p := codeP k) hx
  refine mv_ rfl (sg_ rfl (nn_ (sr_ (mv_ rfl (mv_ rfl (mv_ rfl ?_))))))
  refine wl_ov (ov_index (j := i) es29 rfl rfl (by omega)) rfl ?_
  refine wl_ov (ov_elem (vs := [.string ke, .string cl, .int .i64 fr, .int .i64 tt, .int .i64 dy, .int .i64 mi]) rz262 rfl (fun _ hm => (hm.fact 0 rfl).1) hx rfl rfl) rfl ?_
  refine wl_callv rfl cb212 rfl rfl (fun wx hm => (pred_CodeKeysFault_1_rentref1 ke cl fr tt dy mi gk k wx (hm.fact 1 rfl).2)) ?_
  refine nn_ ?_
  refine gw_cond rfl (fun hh => ?_) (fun hh => ?_)
  ·have hq : (codeP k ⟨ke, cl, fr, tt, dy, mi⟩) = true := by simpa using hh
   clear hh
   refine sr_ (mv_ rfl (sg_ rfl (nn_ ?_)))
   refine gw_ret ?_
   refine nx_blk_ret (nx_then_ret (nx_then_ret (nx_blk_ret (nx_then_ret ?_))))
   refine nx_ret1 rfl rfl fun wx hm => ?_
   exact ⟨ret_int (by rw [hinv.2, hat, if_pos hq]), hm.g⟩
  have hq : (codeP k ⟨ke, cl, fr, tt, dy, mi⟩) = false := by simpa using hh
  clear hh
  refine gw_skip (nx_blk_nrm (nx_then (gw_region (ad_ rfl rfl (mv_ rfl (wl_nil ?_))))))
  exact nx_round (i + 1) ⟨by omega, by rw [hinv.2, hat, if_neg (by rw [hq]; decide)]⟩ (by omega) ⟨rfl, rfl, rfl, (some_int (by omega)), trivial⟩ (fun _ hm => hm.pick [] [] [0, 1] rfl rfl)
 have hi : ¬ (((i : Nat) : Int) < ((n : Nat) : Int)) := by simpa using hh
 clear hh
 refine gw_exit ?_
 refine nx_then_exit (nx_then_exit ?_)
 refine nx_blk_here ?_
 refine nx_then (sr_ (sg_ rfl ?_))
 refine wl_set 4 (v' := .int .i64 (-1)) rfl rfl ?_
 refine nn_ ?_
 refine gw_ret ?_
 refine nx_ret1 rfl rfl fun wx hm => ?_
 exact ⟨ret_int (by rw [hinv.2, List.drop_eq_nil_of_le (by omega)]; rfl), hm.g⟩
theorem hasCode_any (l : List Cd) (A : Option Addr) (n c0 : Nat) (gk : Nat) (k : ByteArray) (w : World) (hl : SlT cdEnc 6 262 w A n l) (hn : n ≤ 1000000) (hk : Blk w gk 9 [.string k]) :
  Calls Tryz.prog 211 #[.slice A n c0, .func (.func 212) #[] #[.pointer (some ⟨gk, 0, none⟩)]] w (fun e w' => e = .returned (.bool (l.any (codeP k))) ∧ w.grownBy w' none) := by
 refine gw_enter ⟨9, w, none, []⟩ Tryz.func211 rfl Tryz.ntmps211 rfl (mem0 (X := [SlOld cdEnc 6 262 w.heap.size none A n l, BlkOld w.heap.size none gk 9 [.string k]]) (allF_cons hl.old (allF_cons hk.old allF_nil)) (allL_cons SlOld.lasts (allL_cons BlkOld.lasts allL_nil))) ?_
 refine sr_ (sg_ rfl (nn_ (sr_ (mv_ rfl (mv_ rfl ?_)))))
 refine wl_callv rfl cb264 rfl rfl (fun wx hm => (index_CodeKeysFault_1_rentref1 l A n c0 gk k wx (hm.fact 0 rfl).1 hn (hm.fact 1 rfl).2)) ?_
 refine wl_ov (ov_geq rfl rfl) rfl ?_
 refine sg_ rfl (nn_ ?_)
 refine gw_ret ?_
 refine nx_ret1 rfl rfl fun wx hm => ?_
 exact ⟨by rw [← ix_any], hm.g⟩
theorem index_str (ks : List ByteArray) (A1 : Option Addr) (n1 c1 : Nat) (k : ByteArray) (w : World) (hs : SlT sgEnc 1 9 w A1 n1 ks) (hn : n1 ≤ 1000000) :
  Calls Tryz.prog 155 #[.slice A1 n1 c1, .string k] w (GotE w (ixP (fun y => k.toList == y.toList) ks 0)) := by
 refine gw_enter ⟨19, w, none, []⟩ Tryz.func155 rfl Tryz.ntmps155 rfl (mem0 (X := [SlOld sgEnc 1 9 w.heap.size none A1 n1 ks]) (allF_cons hs.old allF_nil) (allL_cons SlOld.lasts allL_nil)) ?_
 refine sr_ ?_
 have hlen := hs.len
 refine sg_ rfl (nn_ (gw_seq (sr_ (mv_ rfl (wl_ov (ov_len es36 rfl) rfl (mv_ rfl (nn_ (gw_block ?_))))))))
 refine gw_loop (γ := Nat) (fun (i : Nat) => i ≤ n1 ∧ ixP (fun y => k.toList == y.toList) ks 0 = ixP (fun y => k.toList == y.toList) (ks.drop i) i) (fun (i : Nat) => [(0, .slice A1 n1 c1), (1, .string k), (7, .int .i64 ((n1 : Nat) : Int)), (8, .int .i64 ((i : Nat) : Int))]) (fun (i : Nat) => fun _ => True) (fun (i : Nat) => []) (fun (i : Nat) => []) (fun (i : Nat) => [SlOld sgEnc 1 9 w.heap.size none A1 n1 ks]) (fun (i : Nat) => n1 - i) 0 ⟨Nat.zero_le _, rfl⟩ ⟨rfl, rfl, rfl, rfl, trivial⟩ (fun _ hm => hm.pick [] [] [0] rfl rfl) ?_
 intro i hinv
 replace hinv : i ≤ n1 ∧ ixP (fun y => k.toList == y.toList) ks 0 = ixP (fun y => k.toList == y.toList) (ks.drop i) i := hinv
 refine sr_ (wl_ov (ov_lss rfl rfl) rfl (nn_ (gw_seq ?_)))
 refine gw_cond rfl (fun hh => ?_) (fun hh => ?_)
 ·have hi : ((i : Nat) : Int) < ((n1 : Nat) : Int) := by simpa using hh
  clear hh
  refine gw_skip (nx_then (gw_seq (gw_block (sr_ ?_))))
  obtain ⟨b, off, hA, _, _⟩ := hs.get (by omega)
  subst hA
  obtain ⟨z0, hx⟩ : ∃ x, ks[i]? = some x := ⟨_, List.getElem?_eq_getElem (by omega)⟩
  have hat := ixP_at (p := (fun y => k.toList == y.toList)) hx
  refine mv_ rfl (sg_ rfl (nn_ (sr_ (mv_ rfl (mv_ rfl (mv_ rfl ?_))))))
  refine wl_ov (ov_index (j := i) es36 rfl rfl (by omega)) rfl ?_
  refine wl_ov (ov_elem1 (k := 0) (v := .string z0) sc9 rfl (fun _ hm => (hm.fact 0 rfl).1) hx rfl rfl) rfl ?_
  refine wl_ov (ov_seql rfl rfl) rfl (nn_ ?_)
  refine gw_cond rfl (fun hh => ?_) (fun hh => ?_)
  ·have hq : (k.toList == z0.toList) = true := by simpa using hh
   clear hh
   refine sr_ (mv_ rfl (sg_ rfl (nn_ ?_)))
   refine gw_ret ?_
   refine nx_blk_ret (nx_then_ret (nx_then_ret (nx_blk_ret (nx_then_ret ?_))))
   refine nx_ret1 rfl rfl fun wx hm => ?_
   exact ⟨ret_int (by rw [hinv.2, hat, if_pos hq]), hm.g⟩
  have hq : (k.toList == z0.toList) = false := by simpa using hh
  clear hh
  refine gw_skip (nx_blk_nrm (nx_then (gw_region (ad_ rfl rfl (mv_ rfl (wl_nil ?_))))))
  exact nx_round (i + 1) ⟨by omega, by rw [hinv.2, hat, if_neg (by rw [hq]; decide)]⟩ (by omega) ⟨rfl, rfl, rfl, (some_int (by omega)), trivial⟩ (fun _ hm => hm.pick [] [] [0] rfl rfl)
 have hi : ¬ (((i : Nat) : Int) < ((n1 : Nat) : Int)) := by simpa using hh
 clear hh
 refine gw_exit ?_
 refine nx_then_exit (nx_then_exit ?_)
 refine nx_blk_here ?_
 refine nx_then (sr_ (sg_ rfl ?_))
 refine wl_set 4 (v' := .int .i64 (-1)) rfl rfl ?_
 refine nn_ ?_
 refine gw_ret ?_
 refine nx_ret1 rfl rfl fun wx hm => ?_
 exact ⟨ret_int (by rw [hinv.2, List.drop_eq_nil_of_le (by omega)]; rfl), hm.g⟩
theorem contains_str (ks : List ByteArray) (A1 : Option Addr) (n1 c1 : Nat) (k : ByteArray) (w : World) (hs : SlT sgEnc 1 9 w A1 n1 ks) (hn : n1 ≤ 1000000) :
  Calls Tryz.prog 50 #[.slice A1 n1 c1, .string k] w (fun e w' => e = .returned (.bool (ks.any (fun y => k.toList == y.toList))) ∧ w.grownBy w' none) := by
 refine gw_enter ⟨9, w, none, []⟩ Tryz.func50 rfl Tryz.ntmps50 rfl (mem0 (X := [SlOld sgEnc 1 9 w.heap.size none A1 n1 ks]) (allF_cons hs.old allF_nil) (allL_cons SlOld.lasts allL_nil)) ?_
 refine sr_ (sg_ rfl (nn_ (sr_ (mv_ rfl (mv_ rfl ?_)))))
 refine wl_callv rfl cb155 rfl rfl (fun wx hm => (index_str ks A1 n1 c1 k wx (hm.fact 0 rfl).1 hn)) ?_
 refine wl_ov (ov_geq rfl rfl) rfl ?_
 refine sg_ rfl (nn_ ?_)
 refine gw_ret ?_
 refine nx_ret1 rfl rfl fun wx hm => ?_
 exact ⟨by rw [← ix_any], hm.g⟩
theorem isCode_any (l : List Cd) (A : Option Addr) (n c0 : Nat) (gl : Nat) (k : ByteArray) (w : World) (hl : SlT cdEnc 6 262 w A n l) (hn : n ≤ 1000000) (hg : Blk w gl 29 [.slice A n c0]) :
  Calls Tryz.prog 255 #[.string k, .pointer (some ⟨gl, 0, none⟩)] w (fun e w' => e = .returned (.bool (l.any (codeP k))) ∧ w.grownBy w' none) := by
 refine gw_enter ⟨8, w, none, []⟩ Tryz.func255 rfl Tryz.ntmps255 rfl (mem0 (X := [SlOld cdEnc 6 262 w.heap.size none A n l, BlkOld w.heap.size none gl 29 [.slice A n c0]]) (allF_cons hl.old (allF_cons hg.old allF_nil)) (allL_cons SlOld.lasts (allL_cons BlkOld.lasts allL_nil))) ?_
 refine sr_ (sg_ rfl (nn_ (sr_ ?_)))
 refine wl_ov (ov_load (v := .slice A n c0) sc29 rfl (fun _ hm => (hm.fact 1 rfl).2) rfl) rfl ?_
 refine mv_ rfl ?_
 refine wl_callv rfl cb256 rfl rfl (fun wx hm => (codeAt_any l A n c0 k wx (hm.fact 0 rfl).1 hn)) ?_
 refine wl_ov (ov_geq rfl rfl) rfl ?_
 refine sg_ rfl (nn_ ?_)
 refine gw_ret ?_
 refine nx_ret1 rfl rfl fun wx hm => ?_
 exact ⟨by rw [← ix_any], hm.g⟩
theorem checkAsked_codes (l : List Cd) (A : Option Addr) (n c0 : Nat) (ks : List ByteArray) (A1 : Option Addr) (n1 c1 : Nat) (gl : Nat) (w : World) (hl : SlT cdEnc 6 262 w A n l) (hn : n ≤ 1000000) (hs : SlT sgEnc 1 9 w A1 n1 ks) (hn1 : n1 ≤ 1000000) (hc1 : n1 ≤ c1) (hg : Blk w gl 29 [.slice A n c0]) :
  Calls Tryz.prog 197 #[.slice A1 n1 c1, .func (.func 255) #[] #[.pointer (some ⟨gl, 0, none⟩)]] w (GotE w (askE (fun k => l.any (codeP k)) ks)) := by
 refine gw_enter ⟨29, w, none, []⟩ Tryz.func197 rfl Tryz.ntmps197 rfl (mem0 (X := [SlOld sgEnc 1 9 w.heap.size none A1 n1 ks, SlOld cdEnc 6 262 w.heap.size none A n l, BlkOld w.heap.size none gl 29 [.slice A n c0]]) (allF_cons hs.old (allF_cons hl.old (allF_cons hg.old allF_nil))) (allL_cons SlOld.lasts (allL_cons SlOld.lasts (allL_cons BlkOld.lasts allL_nil)))) ?_
 refine sr_ ?_
 have hlen := hs.len
 refine sg_ rfl (nn_ (gw_seq (sr_ (mv_ rfl (wl_ov (ov_len es36 rfl) rfl ?_)))))
 refine wl_ov (ov_gtr rfl rfl) rfl ?_
 refine nn_ ?_
 refine gw_cond rfl (fun hh => ?_) (fun hh => ?_)
 ·have h1 : 10 < ((n1 : Nat) : Int) := by simpa using hh
  clear hh
  refine sr_ (sg_ rfl (nn_ ?_))
  refine gw_ret ?_
  refine nx_then_ret ?_
  refine nx_ret1 rfl rfl fun wx hm => ?_
  exact ⟨ret_int (by unfold askE; rw [if_pos (by omega)]), hm.g⟩
 have h1 : ¬ (10 < ((n1 : Nat) : Int)) := by simpa using hh
 clear hh
 refine gw_skip (nx_then (gw_seq (sr_ (mv_ rfl (wl_ov (ov_len es36 rfl) rfl (mv_ rfl (nn_ (gw_block ?_))))))))
 refine gw_loop (γ := Nat) (fun (i : Nat) => i ≤ n1 ∧ askE (fun k => l.any (codeP k)) ks = askG (fun k => l.any (codeP k)) (ks.take i) (ks.drop i)) (fun (i : Nat) => [(0, .slice A1 n1 c1), (1, .func (.func 255) #[] #[.pointer (some ⟨gl, 0, none⟩)]), (10, .slice A1 n1 c1), (11, .int .i64 ((n1 : Nat) : Int)), (12, .int .i64 ((i : Nat) : Int))]) (fun (i : Nat) => fun _ => True) (fun (i : Nat) => []) (fun (i : Nat) => []) (fun (i : Nat) => [SlOld sgEnc 1 9 w.heap.size none A1 n1 ks, SlOld cdEnc 6 262 w.heap.size none A n l, BlkOld w.heap.size none gl 29 [.slice A n c0]]) (fun (i : Nat) => n1 - i) 0 ⟨Nat.zero_le _, by unfold askE; rw [if_neg (by omega)]; rfl⟩ ⟨rfl, rfl, rfl, rfl, rfl, trivial⟩ (fun _ hm => hm.pick [] [] [0, 1, 2] rfl rfl) ?_
 intro i hinv
 replace hinv : i ≤ n1 ∧ askE (fun k => l.any (codeP k)) ks = askG (fun k => l.any (codeP k)) (ks.take i) (ks.drop i) := hinv
 refine sr_ (wl_ov (ov_lss rfl rfl) rfl (nn_ (gw_seq ?_)))
 refine gw_cond rfl (fun hh => ?_) (fun hh => ?_)
 ·have hi : ((i : Nat) : Int) < ((n1 : Nat) : Int) := by simpa using hh
  clear hh
  refine gw_skip (nx_then (gw_seq (gw_block (sr_ ?_))))
  obtain ⟨b1, off1, hA, _, _⟩ := hs.get (by omega)
  subst hA
  obtain ⟨k, hx⟩ : ∃ x, ks[i]? = some x := ⟨_, List.getElem?_eq_getElem (by omega)⟩
  have hat := askG_at (has := (fun k => l.any (codeP k))) hx
  refine mv_ rfl ?_
  refine wl_ov (ov_index (j := i) es36 rfl rfl (by omega)) rfl ?_
  refine wl_ov (ov_elem1 (k := 0) (v := .string k) sc9 rfl (fun _ hm => (hm.fact 0 rfl).1) hx rfl rfl) rfl ?_
  refine sg_ rfl (sg_ rfl (nn_ (gw_block (sr_ (mv_ rfl (mv_ rfl ?_))))))
  refine wl_callv rfl cb255 rfl rfl (fun wx hm => (isCode_any l A n c0 gl k wx (hm.fact 1 rfl).1 hn (hm.fact 2 rfl).2)) ?_
  refine wl_ov (ov_un_not rfl) rfl (sg_ rfl (nn_ ?_))
  refine gw_cond rfl (fun hh => ?_) (fun hh => ?_)
  ·have h2 : (l.any (codeP k)) = false := by simpa using hh
   clear hh
   refine sr_ (sg_ rfl (nn_ ?_))
   refine gw_ret ?_
   refine nx_blk_ret (nx_blk_ret (nx_then_ret (nx_then_ret (nx_blk_ret (nx_then_ret ?_)))))
   refine nx_ret1 rfl rfl fun wx hm => ?_
   exact ⟨ret_int (by rw [hinv.2, hat, if_pos (by simpa using h2)]), hm.g⟩
  have h2 : (l.any (codeP k)) = true := by simpa using hh
  clear hh
  refine sr_ (mv_ rfl (mv_ rfl ?_))
  refine wl_ov (ov_sliceHi (hi := i) es36 rfl rfl rfl (by omega)) rfl ?_
  refine mv_ rfl ?_
  refine wl_callv rfl cb50 rfl rfl (fun wx hm => (contains_str (ks.take i) _ i c1 k wx (SlT.takeT (hm.fact 0 rfl).1 (by omega)) (by omega))) ?_
  refine sg_ rfl (nn_ ?_)
  refine gw_cond rfl (fun hh => ?_) (fun hh => ?_)
  ·have h3 : ((ks.take i).any (fun y => k.toList == y.toList)) = true := by simpa using hh
   clear hh
   refine sr_ (sg_ rfl (nn_ ?_))
   refine gw_ret ?_
   refine nx_blk_ret (nx_blk_ret (nx_then_ret (nx_then_ret (nx_blk_ret (nx_then_ret ?_)))))
   refine nx_ret1 rfl rfl fun wx hm => ?_
   exact ⟨ret_int (by rw [hinv.2, hat, if_neg (by simpa using h2), if_pos h3]), hm.g⟩
  have h3 : ((ks.take i).any (fun y => k.toList == y.toList)) = false := by simpa using hh
  clear hh
  refine gw_skip (nx_blk_nrm (nx_blk_nrm (nx_then (gw_region (ad_ rfl rfl (mv_ rfl (wl_nil ?_)))))))
  exact nx_round (i + 1) ⟨by omega, by rw [hinv.2, hat, if_neg (by simpa using h2), if_neg (by rw [h3]; decide)]⟩ (by omega) ⟨rfl, rfl, rfl, rfl, (some_int (by omega)), trivial⟩ (fun _ hm => hm.pick [] [] [0, 1, 2] rfl rfl)
 have hi : ¬ (((i : Nat) : Int) < ((n1 : Nat) : Int)) := by simpa using hh
 clear hh
 refine gw_exit ?_
 refine nx_then_exit (nx_then_exit ?_)
 refine nx_blk_here ?_
 refine nx_then (sr_ (sg_ rfl (nn_ ?_)))
 refine gw_ret ?_
 refine nx_ret1 rfl rfl fun wx hm => ?_
 exact ⟨ret_int (by rw [hinv.2, List.drop_eq_nil_of_le (by omega)]; rfl), hm.g⟩
theorem codeKeys_any (l : List Cd) (A : Option Addr) (n c0 : Nat) (ks : List ByteArray) (A1 : Option Addr) (n1 c1 : Nat) (w : World) (hl : SlT cdEnc 6 262 w A n l) (hn : n ≤ 1000000) (hs : SlT sgEnc 1 9 w A1 n1 ks) (hn1 : n1 ≤ 1000000) (hc1 : n1 ≤ c1) :
  Calls Tryz.prog 110 #[.slice A n c0, .slice A1 n1 c1] w (GotE w (askE (fun k => l.any (codeP k)) ks)) := by
 refine gw_enter ⟨27, w, none, []⟩ Tryz.func110 rfl Tryz.ntmps110 rfl (mem0 (X := [SlOld sgEnc 1 9 w.heap.size none A1 n1 ks, SlOld cdEnc 6 262 w.heap.size none A n l]) (allF_cons hs.old (allF_cons hl.old allF_nil)) (allL_cons SlOld.lasts (allL_cons SlOld.lasts allL_nil))) ?_
 refine sr_ ?_
 have hlen := hs.len
 refine sg_ rfl (nn_ (gw_seq (sr_ (mv_ rfl (wl_ov (ov_len es36 rfl) rfl ?_)))))
 refine wl_ov (ov_gtr rfl rfl) rfl ?_
 refine nn_ ?_
 refine gw_cond rfl (fun hh => ?_) (fun hh => ?_)
 ·have h1 : 10 < ((n1 : Nat) : Int) := by simpa using hh
  clear hh
  refine sr_ (sg_ rfl (nn_ ?_))
  refine gw_ret ?_
  refine nx_then_ret ?_
  refine nx_ret1 rfl rfl fun wx hm => ?_
  exact ⟨ret_int (by unfold askE; rw [if_pos (by omega)]), hm.g⟩
 have h1 : ¬ (10 < ((n1 : Nat) : Int)) := by simpa using hh
 clear hh
 refine gw_skip (nx_then (gw_seq (sr_ (mv_ rfl (wl_ov (ov_len es36 rfl) rfl (mv_ rfl (nn_ (gw_block ?_))))))))
 refine gw_loop (γ := Nat) (fun (i : Nat) => i ≤ n1 ∧ askE (fun k => l.any (codeP k)) ks = askG (fun k => l.any (codeP k)) (ks.take i) (ks.drop i)) (fun (i : Nat) => [(0, .slice A n c0), (1, .slice A1 n1 c1), (10, .slice A1 n1 c1), (11, .int .i64 ((n1 : Nat) : Int)), (12, .int .i64 ((i : Nat) : Int))]) (fun (i : Nat) => fun _ => True) (fun (i : Nat) => []) (fun (i : Nat) => []) (fun (i : Nat) => [SlOld sgEnc 1 9 w.heap.size none A1 n1 ks, SlOld cdEnc 6 262 w.heap.size none A n l]) (fun (i : Nat) => n1 - i) 0 ⟨Nat.zero_le _, by unfold askE; rw [if_neg (by omega)]; rfl⟩ ⟨rfl, rfl, rfl, rfl, rfl, trivial⟩ (fun _ hm => hm.pick [] [] [0, 1] rfl rfl) ?_
 intro i hinv
 replace hinv : i ≤ n1 ∧ askE (fun k => l.any (codeP k)) ks = askG (fun k => l.any (codeP k)) (ks.take i) (ks.drop i) := hinv
 refine sr_ (wl_ov (ov_lss rfl rfl) rfl (nn_ (gw_seq ?_)))
 refine gw_cond rfl (fun hh => ?_) (fun hh => ?_)
 ·have hi : ((i : Nat) : Int) < ((n1 : Nat) : Int) := by simpa using hh
  clear hh
  refine gw_skip (nx_then (gw_seq (gw_block (sr_ ?_))))
  obtain ⟨b1, off1, hA, _, _⟩ := hs.get (by omega)
  subst hA
  obtain ⟨k, hx⟩ : ∃ x, ks[i]? = some x := ⟨_, List.getElem?_eq_getElem (by omega)⟩
  have hat := askG_at (has := (fun k => l.any (codeP k))) hx
  refine mv_ rfl ?_
  refine wl_ov (ov_index (j := i) es36 rfl rfl (by omega)) rfl ?_
  refine wl_ov (ov_elem1 (k := 0) (v := .string k) sc9 rfl (fun _ hm => (hm.fact 0 rfl).1) hx rfl rfl) rfl ?_
  refine wl_alloc zc9 rfl fun g1 => ?_
  refine sg_ rfl ?_
  refine wl_store 0 sc9 rfl rfl rfl rfl rfl rfl ?_
  refine nn_ (gw_seq (sr_ (mv_ rfl (wl_ov (ov_makeFunc rfl rfl) rfl ?_))))
  refine wl_callv rfl cb211 rfl rfl (fun wx hm => (hasCode_any l A n c0 _ k wx (hm.fact 1 rfl).1 hn (hm.blkI 0 rfl))) ?_
  refine wl_ov (ov_un_not rfl) rfl (nn_ ?_)
  refine gw_cond rfl (fun hh => ?_) (fun hh => ?_)
  ·have h2 : (l.any (codeP k)) = false := by simpa using hh
   clear hh
   refine sr_ (sg_ rfl (nn_ ?_))
   refine gw_ret ?_
   refine nx_then_ret (nx_blk_ret (nx_then_ret (nx_then_ret (nx_blk_ret (nx_then_ret ?_)))))
   refine nx_ret1 rfl rfl fun wx hm => ?_
   exact ⟨ret_int (by rw [hinv.2, hat, if_pos (by simpa using h2)]), hm.g⟩
  have h2 : (l.any (codeP k)) = true := by simpa using hh
  clear hh
  refine gw_skip (nx_then (gw_seq ?_))
  refine gd (fun wz => Blk wz g1 9 [.string k] ∧ (SlOld sgEnc 1 9 w.heap.size none (some ⟨b1, off1, none⟩) n1 ks) wz ∧ (SlOld cdEnc 6 262 w.heap.size none A n l) wz ∧ True) mixed (fun _ hm => ⟨hm.bl 0, hm.fa 0, hm.fa 1, trivial⟩) fun z => ?_
  refine wt 0 5 1 rfl z (ov_move rfl) ?_
  refine wt 1 5 3 rfl z (ov_move rfl) ?_
  refine wt 2 5 7 rfl z (ov_sliceHi (hi := i) es36 rfl rfl rfl (by omega)) ?_
  refine wt 3 5 15 rfl z (ov_load sc9 rfl (fun _ hm => hm.1) rfl) ?_
  refine wa1 4 rfl ?_
  refine wl_callv rfl cb50 rfl rfl (fun wx hm => (contains_str (ks.take i) _ i c1 k wx (SlT.takeT (hm.fact 0 rfl).1 (by omega)) (by omega))) ?_
  refine wl_nil ?_
  refine nw 5 31 (fun _ hm => ⟨hm.bl 0, hm.fa 0, hm.fa 1, trivial⟩) fun z => ?_
  refine wa_done (by kernel_rfl) ?_
  refine nx_then ?_
  refine gw_cond rfl (fun hh => ?_) (fun hh => ?_)
  ·have h3 : ((ks.take i).any (fun y => k.toList == y.toList)) = true := by simpa using hh
   clear hh
   refine sr_ (sg_ rfl (nn_ ?_))
   refine gw_ret ?_
   refine nx_blk_ret (nx_then_ret (nx_then_ret (nx_blk_ret (nx_then_ret ?_))))
   refine nx_ret1 rfl rfl fun wx hm => ?_
   exact ⟨ret_int (by rw [hinv.2, hat, if_neg (by simpa using h2), if_pos h3]), hm.g⟩
  have h3 : ((ks.take i).any (fun y => k.toList == y.toList)) = false := by simpa using hh
  clear hh
  refine gw_skip (nx_blk_nrm (nx_then (gw_region (ad_ rfl rfl (mv_ rfl (wl_nil ?_))))))
  exact nx_round (i + 1) ⟨by omega, by rw [hinv.2, hat, if_neg (by simpa using h2), if_neg (by rw [h3]; decide)]⟩ (by omega) ⟨rfl, rfl, rfl, rfl, (some_int (by omega)), trivial⟩ (fun _ hm => hm.pick [] [] [0, 1] rfl rfl)
 have hi : ¬ (((i : Nat) : Int) < ((n1 : Nat) : Int)) := by simpa using hh
 clear hh
 refine gw_exit ?_
 refine nx_then_exit (nx_then_exit ?_)
 refine nx_blk_here ?_
 refine nx_then (sr_ (sg_ rfl (nn_ ?_)))
 refine gw_ret ?_
 refine nx_ret1 rfl rfl fun wx hm => ?_
 exact ⟨ret_int (by rw [hinv.2, List.drop_eq_nil_of_le (by omega)]; rfl), hm.g⟩
theorem cd_snoc {l : List Cd} {x : Cd} (h : ∀ y ∈ l, CdOk y) (h1 : x.key.size ≤ 1000000) (h2 : x.cls.size ≤ 1000000) : ∀ y ∈ l ++ [x], CdOk y := fun y hy => by
  rcases List.mem_append.1 hy with hy | hy
  · exact h y hy
  · rw [List.mem_singleton.1 hy]; exact ⟨h1, h2⟩
theorem cd_set {l : List Cd} {x : Cd} {j : Nat} (h : ∀ y ∈ l, CdOk y) (h1 : x.key.size ≤ 1000000) (h2 : x.cls.size ≤ 1000000) : ∀ y ∈ l.set j x, CdOk y := fun y hy => by
  rcases List.mem_or_eq_of_mem_set hy with hy | rfl
  · exact h y hy
  · exact ⟨h1, h2⟩
theorem gcodes_any (w : World) (B sb m : Nat) (hS : Strm 25 w B sb m) (hm : m ≤ 100000000000) :
  Calls Tryz.prog 91 #[.pointer (some ⟨sb, 0, none⟩)] w (fun e w' => ∃ (A : Option Addr) (n c : Nat) (l : List Cd), e = .returned (.slice A n c) ∧ SlT cdEnc 6 262 w' A n l ∧ (∀ x ∈ l, CdOk x) ∧ n ≤ 3 ∧ n ≤ c ∧ Strm 25 w' B sb (m + 50) ∧ w.grownBy w' (some sb)) := by
 refine gw_enter ⟨74, w, (some sb), []⟩ Tryz.func91 rfl Tryz.ntmps91 rfl (memS (X := []) hS allF_nil allL_nil) ?_
 refine sr_ (sg_ rfl (nn_ (sr_ (sg_ rfl (nn_ (gw_seq (sr_ ?_)))))))
 refine wl_buildSlice (e := 9) (cs := [.string ⟨#[97, 49, 48]⟩, .string ⟨#[98, 50, 48]⟩, .string ⟨#[99, 51, 48]⟩]) rfl (by kernel_rfl) rfl fun g1 => ?_
 refine wl_ov (ov_len es36 rfl) rfl ?_
 refine wl_set 9 (v' := .int .i64 3) rfl rfl ?_
 refine mv_ rfl (nn_ (gw_block ?_))
 refine gw_nilOwn 262 6 ?_
 refine gw_loop (γ := Nat × Nat × Value × List Cd × List Value) (fun g => g.1 ≤ 3 ∧ g.2.1 ≤ g.1 ∧ g.2.2.2.1.length = g.2.1 ∧ (∀ x ∈ g.2.2.2.1, CdOk x) ∧ g.2.2.2.2 = g.2.2.2.1.flatMap cdEnc) (fun g => [(0, .pointer (some ⟨sb, 0, none⟩)), (2, .slice none 0 0), (3, g.2.2.1), (8, .slice (some ⟨g1, 0, none⟩) 3 3), (9, .int .i64 3), (10, .int .i64 ((g.1 : Nat) : Int))]) (fun g => fun w => Strm 25 w B sb (m + 10 * g.1)) (fun g => [(g1, 9, [.string ⟨#[97, 49, 48]⟩, .string ⟨#[98, 50, 48]⟩, .string ⟨#[99, 51, 48]⟩])]) (fun g => [⟨g.2.2.1, 262, 6, g.2.1, g.2.2.2.2⟩]) (fun g => []) (fun g => 3 - g.1) (0, 0, .slice none 0 0, [], []) ⟨Nat.zero_le _, Nat.zero_le _, rfl, (fun _ h => by cases h), rfl⟩ ⟨rfl, rfl, rfl, rfl, rfl, rfl, trivial⟩ (fun _ hm => (hm.more rfl (by first | omega | (dsimp only; omega))).pick [0] [0] [] rfl rfl) ?_
 rintro ⟨k, n, v, l, xs⟩ hinv
 replace hinv : k ≤ 3 ∧ n ≤ k ∧ l.length = n ∧ (∀ x ∈ l, CdOk x) ∧ xs = l.flatMap cdEnc := hinv
 dsimp only
 refine sr_ ?_
 obtain ⟨hi0, hi1, hi2, hi3, rfl⟩ := hinv
 refine wl_ov (ov_lss rfl rfl) rfl (nn_ (gw_seq ?_))
 refine gw_cond rfl (fun hh => ?_) (fun hh => ?_)
 ·have hk : ((k : Nat) : Int) < 3 := by simpa using hh
  clear hh
  refine gw_skip (nx_then (gw_seq (gw_block (sr_ ?_))))
  obtain ⟨nm, hx⟩ : ∃ x, ([⟨#[97, 49, 48]⟩, ⟨#[98, 50, 48]⟩, ⟨#[99, 51, 48]⟩] : List ByteArray)[k]? = some x := ⟨_, List.getElem?_eq_getElem (by simp; omega)⟩
  have hnm : nm.size ≤ 100 := mem_sz (List.mem_of_getElem? hx) (by decide)
  refine wl_ov (ov_index (j := k) es36 rfl rfl (by omega)) rfl ?_
  refine wl_ov (ov_elem1 (k := 0) (v := .string nm) sc9 rfl (fun _ hm => (SlT.ofBlk (l := [⟨#[97, 49, 48]⟩, ⟨#[98, 50, 48]⟩, ⟨#[99, 51, 48]⟩]) sg_len (hm.blkI 0 rfl))) hx rfl rfl) rfl ?_
  refine sg_ rfl (nn_ (gw_seq (sr_ (mv_ rfl ?_))))
  refine wl_got (γ := Bool) (val := fun v => .bool v) (φ := fun v => True) rfl cb70 rfl rfl rfl rfl (fun wx hm => ((flip_any _ wx B sb _ hm.k (by omega) (by omega) (by omega)).mono fun _ _ ⟨v, he, hS, hg⟩ => ⟨v, trivial, he, hS, hg⟩)) fun f2 _ => ?_
  refine nn_ ?_
  refine gw_cond rfl (fun hh => ?_) (fun hh => ?_)
  ·have hf : f2 = true := by simpa using hh
   clear hh
   refine gw_exit ?_
   refine nx_then_exit ?_
   refine nx_blk_here ?_
   refine nx_then (gw_region (ad_ rfl rfl (mv_ rfl (wl_nil ?_))))
   exact nx_round (k + 1, n, v, l, l.flatMap cdEnc) ⟨by dsimp only; omega, by dsimp only; omega, hi2, hi3, rfl⟩ (by dsimp only; omega) ⟨rfl, rfl, rfl, rfl, rfl, (some_int (by omega)), trivial⟩ (fun _ hm => (hm.more rfl (by first | omega | (dsimp only; omega))).pick [0] [0] [] rfl rfl)
  have hf : f2 = false := by simpa using hh
  clear hh
  refine gw_skip (nx_then (sr_ (mv_ rfl ?_)))
  refine wl_buildSlice (e := 3) (cs := [.int .i64 0, .int .i64 0, .int .i64 3]) rfl (by kernel_rfl) rfl fun g3 => ?_
  refine wl_got (γ := Int) (val := fun v => .int .i64 v) (φ := fun v => v ∈ ([0, 0, 3] : List Int)) rfl cb24 rfl rfl rfl rfl (fun wx hm => (pick_any [0, 0, 3] _ _ _ wx B sb _ hm.k (by omega) (by simp) (by simp) (hm.blkI 0 rfl) (hm.neRow 0 rfl rfl))) fun v4 hv4 => ?_
  have bv4 : 0 ≤ v4 ∧ v4 ≤ 3 := mem_rng hv4 (by decide)
  have bv40 := bv4.1
  have bv41 := bv4.2
  clear bv4
  refine sg_ rfl (nn_ (gw_region (mv_ rfl (mv_ rfl (mv_ rfl ?_)))))
  refine wl_buildSlice (e := 9) (cs := [.string ⟨#[]⟩, .string ⟨#[]⟩, .string ⟨#[109, 105, 110, 105]⟩]) rfl (by kernel_rfl) rfl fun g5 => ?_
  refine wl_got (γ := ByteArray) (val := fun v => .string v) (φ := fun v => v ∈ ([⟨#[]⟩, ⟨#[]⟩, ⟨#[109, 105, 110, 105]⟩] : List ByteArray)) rfl cb60 rfl rfl rfl rfl (fun wx hm => (some_any [⟨#[]⟩, ⟨#[]⟩, ⟨#[109, 105, 110, 105]⟩] _ _ _ wx B sb _ hm.k (by omega) (by simp) (by simp) (hm.blkI 0 rfl) (hm.neRow 0 rfl rfl))) fun s6 hs6 => ?_
  have zs6 : s6.size ≤ 100 := mem_sz hs6 (by decide)
  refine mv_ rfl (mv_ rfl (mv_ rfl ?_))
  refine wl_buildSlice (e := 3) (cs := [.int .i64 0, .int .i64 1, .int .i64 10, .int .i64 3000]) rfl (by kernel_rfl) rfl fun g7 => ?_
  refine wl_got (γ := Int) (val := fun v => .int .i64 v) (φ := fun v => v ∈ ([0, 1, 10, 3000] : List Int)) rfl cb24 rfl rfl rfl rfl (fun wx hm => (pick_any [0, 1, 10, 3000] _ _ _ wx B sb _ hm.k (by omega) (by simp) (by simp) (hm.blkI 0 rfl) (hm.neRow 0 rfl rfl))) fun v8 hv8 => ?_
  have bv8 : 0 ≤ v8 ∧ v8 ≤ 3000 := mem_rng hv8 (by decide)
  have bv80 := bv8.1
  have bv81 := bv8.2
  clear bv8
  refine ad_ rfl rfl (mv_ rfl ?_)
  refine wl_buildSlice (e := 3) (cs := [.int .i64 1, .int .i64 1, .int .i64 2, .int .i64 5]) rfl (by kernel_rfl) rfl fun g9 => ?_
  refine wl_got (γ := Int) (val := fun v => .int .i64 v) (φ := fun v => v ∈ ([1, 1, 2, 5] : List Int)) rfl cb24 rfl rfl rfl rfl (fun wx hm => (pick_any [1, 1, 2, 5] _ _ _ wx B sb _ hm.k (by omega) (by simp) (by simp) (hm.blkI 0 rfl) (hm.neRow 0 rfl rfl))) fun v10 hv10 => ?_
  have bv10 : 1 ≤ v10 ∧ v10 ≤ 5 := mem_rng hv10 (by decide)
  have bv100 := bv10.1
  have bv101 := bv10.2
  clear bv10
  refine mv_ rfl ?_
  refine wl_buildSlice (e := 3) (cs := [.int .i64 1, .int .i64 100, .int .i64 100, .int .i64 250, .int .i64 1000]) rfl (by kernel_rfl) rfl fun g11 => ?_
  refine wl_got (γ := Int) (val := fun v => .int .i64 v) (φ := fun v => v ∈ ([1, 100, 100, 250, 1000] : List Int)) rfl cb24 rfl rfl rfl rfl (fun wx hm => (pick_any [1, 100, 100, 250, 1000] _ _ _ wx B sb _ hm.k (by omega) (by simp) (by simp) (hm.blkI 0 rfl) (hm.neRow 0 rfl rfl))) fun v12 hv12 => ?_
  have bv12 : 1 ≤ v12 ∧ v12 ≤ 1000 := mem_rng hv12 (by decide)
  have bv120 := bv12.1
  have bv121 := bv12.2
  clear bv12
  refine wl_ov (ov_build (cs := [.string nm, .string s6, .int .i64 v4, .int .i64 (v4 + v8), .int .i64 v10, .int .i64 v12]) rfl (by kernel_rfl)) rfl ?_
  refine wl_buildSlice (e := 262) (cs := [.string nm, .string s6, .int .i64 v4, .int .i64 (v4 + v8), .int .i64 v10, .int .i64 v12]) rfl (by kernel_rfl) rfl fun g13 => ?_
  refine wl_append (news := [.string nm, .string s6, .int .i64 v4, .int .i64 (v4 + v8), .int .i64 v10, .int .i64 v12]) 0 0 ap29 rfl rfl rfl rfl rfl rfl rfl (by omega) (by unfold maxLen; omega) rfl rfl fun v2 hv2 => ?_
  refine sg_ rfl (wl_nil (nx_blk_nrm (nx_then (gw_region (ad_ rfl rfl (mv_ rfl (wl_nil ?_)))))))
  exact nx_round (k + 1, n + 1, v2, l ++ [⟨nm, s6, v4, v4 + v8, v10, v12⟩], l.flatMap cdEnc ++ ([.string nm, .string s6, .int .i64 v4, .int .i64 (v4 + v8), .int .i64 v10, .int .i64 v12] : List Value)) ⟨by dsimp only; omega, by dsimp only; omega, by simp [hi2], cd_snoc hi3 (show nm.size ≤ 1000000 by omega) (show s6.size ≤ 1000000 by omega), by simp [cdEnc]⟩ (by dsimp only; omega) ⟨rfl, rfl, rfl, rfl, rfl, (some_int (by omega)), trivial⟩ (fun _ hm => (hm.more rfl (by first | omega | (dsimp only; omega))).pick [6] [0] [] rfl rfl)
 have hk : ¬ (((k : Nat) : Int) < 3) := by simpa using hh
 clear hh
 refine gw_exit ?_
 refine nx_then_exit (nx_then_exit ?_)
 refine nx_blk_here ?_
 refine nx_then (gw_seq (sr_ ?_))
 refine wl_look (R := ∃ A cc, v = .slice A n cc) (fun wx hm => own_slice (hm.ownI 0 rfl)) ?_
 rintro ⟨A, c, rfl⟩
 refine mv_ rfl (wl_ov (ov_len es29 rfl) rfl ?_)
 refine wl_ov (ov_gtr rfl rfl) rfl ?_
 refine mv_ rfl ?_
 rcases Bool.eq_false_or_eq_true (decide (0 < ((n : Nat) : Int))) with hb | hb
 ·refine wl_set 43 rfl (congrArg Value.bool hb) ?_
  have hk0 : 0 < n := by simpa using hb
  refine wl_guard_on rfl rfl rfl (mv_ rfl (wl_guard_on rfl rfl rfl ?_))
  refine wl_got (γ := Bool) (val := fun v => .bool v) (φ := fun v => True) rfl cb70 rfl rfl rfl rfl (fun wx hm => ((flip_any _ wx B sb _ hm.k (by omega) (by omega) (by omega)).mono fun _ _ ⟨v, he, hS, hg⟩ => ⟨v, trivial, he, hS, hg⟩)) fun f14 _ => ?_
  refine pt_ rfl rfl (nn_ ?_)
  refine gw_cond rfl (fun hh => ?_) (fun hh => ?_)
  ·have hf : f14 = true := by simpa using hh
   clear hh
   refine sr_ ?_
   refine wl_look (R := ∃ g, A = some ⟨g, 0, none⟩) (fun wx hm => own_addr (hm.ownI 0 rfl) hk0) ?_
   rintro ⟨bo, rfl⟩
   refine mv_ rfl (mv_ rfl (mv_ rfl (wl_ov (ov_len es29 rfl) rfl ?_)))
   refine wl_got (γ := Int) (val := fun v => .int .i64 v) (φ := fun v => IsBelow ((n : Nat) : Int) v) rfl cb59 rfl rfl rfl rfl (fun wx hm => (next_any _ wx B sb _ hm.k (by omega) (by omega) (by omega))) fun vj hvj => ?_
   have hj := isBelow_lt hvj (by omega)
   obtain ⟨i, rfl⟩ := Int.eq_ofNat_of_zero_le hj.1
   have hij : i < n := by omega
   obtain ⟨y, hy⟩ : ∃ y, l[i]? = some y := ⟨_, List.getElem?_eq_getElem (by omega)⟩
   obtain ⟨y0, y1, y2, y3, y4, y5⟩ := y
   obtain ⟨hy0, hy1⟩ := hi3 _ (List.mem_of_getElem? hy)
   have hy0 : y0.size ≤ 1000000 := hy0
   have hy1 : y1.size ≤ 1000000 := hy1
   refine wl_ov (ov_index (j := i) es29 rfl rfl (by omega)) rfl ?_
   refine sg_ rfl (nn_ (gw_region (mv_ rfl (mv_ rfl (mv_ rfl (mv_ rfl (mv_ rfl (wl_ov (ov_nilcheck rfl) rfl (fd_ fo262_0 rfl rfl ?_)))))))))
   refine wl_ov (ov_elem1 (k := 0) (v := .string y0) sc9 rfl (fun _ hm => (SlT.ofOwn cd_len (hm.ownI 0 rfl) hi2)) hy rfl rfl) rfl ?_
   refine wl_buildSlice (e := 9) (cs := [.string y0, .string ⟨#[]⟩, .string ⟨#[122, 101, 100]⟩, .string ⟨#[97, 49, 48]⟩]) rfl (by kernel_rfl) rfl fun g15 => ?_
   refine wl_got (γ := ByteArray) (val := fun v => .string v) (φ := fun v => v ∈ ([y0, ⟨#[]⟩, ⟨#[122, 101, 100]⟩, ⟨#[97, 49, 48]⟩] : List ByteArray)) rfl cb60 rfl rfl rfl rfl (fun wx hm => (some_any [y0, ⟨#[]⟩, ⟨#[122, 101, 100]⟩, ⟨#[97, 49, 48]⟩] _ _ _ wx B sb _ hm.k (by omega) (by simp) (by simp) (hm.blkI 0 rfl) (hm.neRow 0 rfl rfl))) fun sn hsn => ?_
   have hsn : sn.size ≤ 1000000 := by
    simp at hsn
    rcases hsn with rfl | rfl | rfl | rfl
    ·exact hy0
    ·decide
    ·decide
    decide
   refine mv_ rfl ?_
   refine wl_got (γ := Int) (val := fun v => .int .i64 v) (φ := fun v => -2000000000000000 ≤ v ∧ v ≤ 2000000000000000) rfl cb119 rfl rfl rfl rfl (fun wx hm => (odd_any _ _ wx B sb _ hm.k (by omega) (by omega) (by omega) (by omega))) fun v16 hv16 => ?_
   refine mv_ rfl ?_
   refine wl_got (γ := Int) (val := fun v => .int .i64 v) (φ := fun v => -2000000000000000 ≤ v ∧ v ≤ 2000000000000000) rfl cb119 rfl rfl rfl rfl (fun wx hm => (odd_any _ _ wx B sb _ hm.k (by omega) (by omega) (by omega) (by omega))) fun v17 hv17 => ?_
   refine wl_ov (ov_nilcheck rfl) rfl (fd_ fo262_0 rfl rfl ?_)
   refine wl_storeE (l := l) (j := i) (r := 0) (el := ⟨y0, y1, y2, y3, y4, y5⟩) (el' := ⟨sn, y1, y2, y3, y4, y5⟩) 0 sc9 rfl rfl rfl rfl cd_len rfl hy hi2 (by decide) rfl rfl ?_
   refine wl_ov (ov_nilcheck rfl) rfl (fd_ fo262_4 rfl rfl ?_)
   refine wl_storeE (l := (l.set i ⟨sn, y1, y2, y3, y4, y5⟩)) (j := i) (r := 4) (el := ⟨sn, y1, y2, y3, y4, y5⟩) (el' := ⟨sn, y1, y2, y3, v16, y5⟩) 0 sc3 rfl rfl rfl rfl cd_len rfl (List.getElem?_set_self (by first | omega | (simp; omega))) (by simp; exact hi2) (by decide) rfl rfl ?_
   refine wl_ov (ov_nilcheck rfl) rfl (fd_ fo262_5 rfl rfl ?_)
   refine wl_storeE (l := ((l.set i ⟨sn, y1, y2, y3, y4, y5⟩).set i ⟨sn, y1, y2, y3, v16, y5⟩)) (j := i) (r := 5) (el := ⟨sn, y1, y2, y3, v16, y5⟩) (el' := ⟨sn, y1, y2, y3, v16, v17⟩) 0 sc3 rfl rfl rfl rfl cd_len rfl (List.getElem?_set_self (by first | omega | (simp; omega))) (by simp; exact hi2) (by decide) rfl rfl ?_
   refine nn_ (sr_ (mv_ rfl (sg_ rfl (nn_ ?_))))
   refine gw_ret ?_
   refine nx_ret1 rfl rfl fun wx hm => ?_
   exact ⟨some ⟨bo, 0, none⟩, n, c, (((l.set i ⟨sn, y1, y2, y3, y4, y5⟩).set i ⟨sn, y1, y2, y3, v16, y5⟩).set i ⟨sn, y1, y2, y3, v16, v17⟩), rfl, SlT.ofOwn cd_len (hm.ownI 0 rfl) (by simp; exact hi2), cd_set (cd_set (cd_set (hi3) hsn hy1) hsn hy1) hsn hy1, by omega, own_cap (hm.ownI 0 rfl), hm.k.more (by omega), hm.g⟩
  have hf : f14 = false := by simpa using hh
  clear hh
  refine gw_skip (nx_then (sr_ (mv_ rfl (sg_ rfl (nn_ ?_)))))
  refine gw_ret ?_
  refine nx_ret1 rfl rfl fun wx hm => ?_
  exact ⟨A, n, c, l, rfl, SlT.ofOwn cd_len (hm.ownI 0 rfl) hi2, hi3, by omega, own_cap (hm.ownI 0 rfl), hm.k.more (by omega), hm.g⟩
 refine wl_set 43 rfl (congrArg Value.bool hb) ?_
 refine goff rfl rfl rfl (goff rfl rfl rfl (pf_ rfl rfl (nn_ (cf_ rfl (gw_skip (nx_then (sr_ (mv_ rfl (sg_ rfl (nn_ ?_))))))))))
 refine gw_ret ?_
 refine nx_ret1 rfl rfl fun wx hm => ?_
 exact ⟨A, n, c, l, rfl, SlT.ofOwn cd_len (hm.ownI 0 rfl) hi2, hi3, by omega, own_cap (hm.ownI 0 rfl), hm.k.more (by omega), hm.g⟩
theorem gcodeKeys_any (w : World) (B sb m : Nat) (hS : Strm 25 w B sb m) (hm : m ≤ 100000000000) :
  Calls Tryz.prog 94 #[.pointer (some ⟨sb, 0, none⟩)] w (fun e w' => ∃ (A : Option Addr) (n c : Nat) (l : List ByteArray), e = .returned (.slice A n c) ∧ SlT sgEnc 1 9 w' A n l ∧ (∀ x ∈ l, x.size ≤ 100) ∧ n ≤ 3 ∧ n ≤ c ∧ Strm 25 w' B sb (m + 1) ∧ w.grownBy w' (some sb)) := by
 refine gw_enter ⟨14, w, (some sb), []⟩ Tryz.func94 rfl Tryz.ntmps94 rfl (memS (X := []) hS allF_nil allL_nil) ?_
 refine sr_ (sg_ rfl (nn_ (sr_ ?_)))
 refine wl_buildSlice (e := 9) (cs := [.string ⟨#[97, 49, 48]⟩]) rfl (by kernel_rfl) rfl fun g1 => ?_
 refine wl_buildSlice (e := 9) (cs := [.string ⟨#[98, 50, 48]⟩, .string ⟨#[97, 49, 48]⟩]) rfl (by kernel_rfl) rfl fun g2 => ?_
 refine wl_buildSlice (e := 9) (cs := [.string ⟨#[99, 51, 48]⟩, .string ⟨#[98, 50, 48]⟩, .string ⟨#[97, 49, 48]⟩]) rfl (by kernel_rfl) rfl fun g3 => ?_
 refine wl_buildSlice (e := 9) (cs := [.string ⟨#[110, 111, 110, 101]⟩]) rfl (by kernel_rfl) rfl fun g4 => ?_
 refine wl_buildSlice (e := 9) (cs := [.string ⟨#[97, 49, 48]⟩, .string ⟨#[97, 49, 48]⟩]) rfl (by kernel_rfl) rfl fun g5 => ?_
 refine wl_buildSlice (e := 36) (cs := [.slice none 0 0, .slice (some ⟨g1, 0, none⟩) 1 1, .slice (some ⟨g2, 0, none⟩) 2 2, .slice (some ⟨g3, 0, none⟩) 3 3, .slice (some ⟨g4, 0, none⟩) 1 1, .slice (some ⟨g5, 0, none⟩) 2 2]) rfl (by kernel_rfl) rfl fun g6 => ?_
 refine mv_ rfl ?_
 refine wl_buildSlice (e := 3) (cs := [.int .i64 0, .int .i64 1, .int .i64 1, .int .i64 2, .int .i64 2, .int .i64 3, .int .i64 4, .int .i64 5]) rfl (by kernel_rfl) rfl fun g7 => ?_
 refine wl_got (γ := Int) (val := fun v => .int .i64 v) (φ := fun v => v ∈ ([0, 1, 1, 2, 2, 3, 4, 5] : List Int)) rfl cb24 rfl rfl rfl rfl (fun wx hm => (pick_any [0, 1, 1, 2, 2, 3, 4, 5] _ _ _ wx B sb _ hm.k (by omega) (by simp) (by simp) (hm.blkI 0 rfl) (hm.neRow 0 rfl rfl))) fun v hv => ?_
 have bv : 0 ≤ v ∧ v ≤ 5 := mem_rng hv (by decide)
 have bv0 := bv.1
 have bv1 := bv.2
 clear bv
 obtain hv8 | hv8 | hv8 | hv8 | hv8 | hv8 : v = 0 ∨ v = 1 ∨ v = 2 ∨ v = 3 ∨ v = 4 ∨ v = 5 := (by simp at hv; omega)
 ·subst hv8
  refine wl_ov (ov_index (j := 0) es93 rfl rfl (by decide)) rfl ?_
  refine lk_ sc36 1 rfl rfl rfl (sg_ rfl (nn_ ?_))
  refine gw_ret ?_
  refine nx_ret1 rfl rfl fun wx hm => ?_
  exact ⟨none, 0, 0, [], rfl, SlT.nil_ _ _, (fun _ h => by cases h), by omega, by omega, hm.k, hm.g⟩
 ·subst hv8
  refine wl_ov (ov_index (j := 1) es93 rfl rfl (by decide)) rfl ?_
  refine lk_ sc36 1 rfl rfl rfl (sg_ rfl (nn_ ?_))
  refine gw_ret ?_
  refine nx_ret1 rfl rfl fun wx hm => ?_
  exact ⟨some ⟨g1, 0, none⟩, 1, 1, [⟨#[97, 49, 48]⟩], rfl, SlT.ofBlk (l := [⟨#[97, 49, 48]⟩]) sg_len (hm.blkI 6 rfl), (by decide), by omega, by omega, hm.k, hm.g⟩
 ·subst hv8
  refine wl_ov (ov_index (j := 2) es93 rfl rfl (by decide)) rfl ?_
  refine lk_ sc36 1 rfl rfl rfl (sg_ rfl (nn_ ?_))
  refine gw_ret ?_
  refine nx_ret1 rfl rfl fun wx hm => ?_
  exact ⟨some ⟨g2, 0, none⟩, 2, 2, [⟨#[98, 50, 48]⟩, ⟨#[97, 49, 48]⟩], rfl, SlT.ofBlk (l := [⟨#[98, 50, 48]⟩, ⟨#[97, 49, 48]⟩]) sg_len (hm.blkI 5 rfl), (by decide), by omega, by omega, hm.k, hm.g⟩
 ·subst hv8
  refine wl_ov (ov_index (j := 3) es93 rfl rfl (by decide)) rfl ?_
  refine lk_ sc36 1 rfl rfl rfl (sg_ rfl (nn_ ?_))
  refine gw_ret ?_
  refine nx_ret1 rfl rfl fun wx hm => ?_
  exact ⟨some ⟨g3, 0, none⟩, 3, 3, [⟨#[99, 51, 48]⟩, ⟨#[98, 50, 48]⟩, ⟨#[97, 49, 48]⟩], rfl, SlT.ofBlk (l := [⟨#[99, 51, 48]⟩, ⟨#[98, 50, 48]⟩, ⟨#[97, 49, 48]⟩]) sg_len (hm.blkI 4 rfl), (by decide), by omega, by omega, hm.k, hm.g⟩
 ·subst hv8
  refine wl_ov (ov_index (j := 4) es93 rfl rfl (by decide)) rfl ?_
  refine lk_ sc36 1 rfl rfl rfl (sg_ rfl (nn_ ?_))
  refine gw_ret ?_
  refine nx_ret1 rfl rfl fun wx hm => ?_
  exact ⟨some ⟨g4, 0, none⟩, 1, 1, [⟨#[110, 111, 110, 101]⟩], rfl, SlT.ofBlk (l := [⟨#[110, 111, 110, 101]⟩]) sg_len (hm.blkI 3 rfl), (by decide), by omega, by omega, hm.k, hm.g⟩
 subst hv8
 refine wl_ov (ov_index (j := 5) es93 rfl rfl (by decide)) rfl ?_
 refine lk_ sc36 1 rfl rfl rfl (sg_ rfl (nn_ ?_))
 refine gw_ret ?_
 refine nx_ret1 rfl rfl fun wx hm => ?_
 exact ⟨some ⟨g5, 0, none⟩, 2, 2, [⟨#[97, 49, 48]⟩, ⟨#[97, 49, 48]⟩], rfl, SlT.ofBlk (l := [⟨#[97, 49, 48]⟩, ⟨#[97, 49, 48]⟩]) sg_len (hm.blkI 2 rfl), (by decide), by omega, by omega, hm.k, hm.g⟩
end Go.Proofs.YtnmpniaocjmkfaaGreatDoor
namespace Go.Proofs.YtnmpniaocjmkfaaGreatDoor
open Go.RowKit
def itEnc (z : Int) : List Value := [.int .i64 z]
theorem it_len (z : Int) : (itEnc z).length = 1 := rfl
theorem slice_cut {b o i mm c : Nat} (h : i < c) : Value.slice (if c = i then (some ⟨b, o, none⟩ : Option Addr) else Option.map (fun a : Addr => a.add (i * 1)) (some ⟨b, o, none⟩)) (i + mm - i) (c - i) = .slice (some ⟨b, o + i, none⟩) mm (c - i) := by
  rw [if_neg (by omega), Nat.add_sub_cancel_left]
  simp only [Option.map_some, Nat.mul_one, Value.slice.injEq, Option.some.injEq, and_self, and_true]
  exact add_addr b o i
theorem SlT.cut {α : Type} {enc : α → List Value} {T : TypeId} {w : World} {b o n i mm : Nat} {l : List α} (h : SlT enc 1 T w (some ⟨b, o, none⟩) n l) (h1 : i + mm ≤ n) (h2 : i < n) : SlT enc 1 T w (some ⟨b, o + i, none⟩) mm ((l.drop i).take mm) := by
  have hb := h.between i (i + mm) (by omega) h1 (Nat.le_refl n)
  rw [if_neg (by omega), Nat.add_sub_cancel_left] at hb
  simp only [Option.map_some, Nat.mul_one] at hb
  rw [add_addr] at hb
  exact hb
theorem index_int (l : List Int) (A : Option Addr) (n c0 : Nat) (x : Int) (w : World) (hl : SlT itEnc 1 3 w A n l) (hn : n ≤ 1000000) :
  Calls Tryz.prog 265 #[.slice A n c0, .int .i64 x] w (GotE w (ixP (fun y => decide (x = y)) l 0)) := by
 refine gw_enter ⟨19, w, none, []⟩ Tryz.func265 rfl Tryz.ntmps265 rfl (mem0 (X := [SlOld itEnc 1 3 w.heap.size none A n l]) (allF_cons hl.old allF_nil) (allL_cons SlOld.lasts allL_nil)) ?_
 refine sr_ ?_
 have hlen := hl.len
 refine sg_ rfl (nn_ (gw_seq (sr_ (mv_ rfl (wl_ov (ov_len es22 rfl) rfl (mv_ rfl (nn_ (gw_block ?_))))))))
 refine gw_loop (γ := Nat) (fun (k : Nat) => k ≤ n ∧ ixP (fun y => decide (x = y)) l 0 = ixP (fun y => decide (x = y)) (l.drop k) k) (fun (k : Nat) => [(0, .slice A n c0), (1, .int .i64 x), (7, .int .i64 ((n : Nat) : Int)), (8, .int .i64 ((k : Nat) : Int))]) (fun (k : Nat) => fun _ => True) (fun (k : Nat) => []) (fun (k : Nat) => []) (fun (k : Nat) => [SlOld itEnc 1 3 w.heap.size none A n l]) (fun (k : Nat) => n - k) 0 ⟨Nat.zero_le _, rfl⟩ ⟨rfl, rfl, rfl, rfl, trivial⟩ (fun _ hm => hm.pick [] [] [0] rfl rfl) ?_
 intro k hinv
 replace hinv : k ≤ n ∧ ixP (fun y => decide (x = y)) l 0 = ixP (fun y => decide (x = y)) (l.drop k) k := hinv
 refine sr_ (wl_ov (ov_lss rfl rfl) rfl (nn_ (gw_seq ?_)))
 refine gw_cond rfl (fun hh => ?_) (fun hh => ?_)
 ·have hk : ((k : Nat) : Int) < ((n : Nat) : Int) := by simpa using hh
  clear hh
  refine gw_skip (nx_then (gw_seq (gw_block (sr_ ?_))))
  obtain ⟨b, off, hA, _, _⟩ := hl.get (by omega)
  subst hA
  obtain ⟨z0, hx⟩ : ∃ x, l[k]? = some x := ⟨_, List.getElem?_eq_getElem (by omega)⟩
  have hat := ixP_at (p := fun y => decide (x = y)) hx
  refine mv_ rfl (sg_ rfl (nn_ (sr_ (mv_ rfl (mv_ rfl (mv_ rfl ?_))))))
  refine wl_ov (ov_index (j := k) es22 rfl rfl (by omega)) rfl ?_
  refine wl_ov (ov_elem1 (k := 0) (v := .int .i64 z0) sc3 rfl (fun _ hm => (hm.fact 0 rfl).1) hx rfl rfl) rfl ?_
  refine wl_ov (ov_eql rfl rfl) rfl (nn_ ?_)
  refine gw_cond rfl (fun hh => ?_) (fun hh => ?_)
  ·have hq : x = z0 := by simpa using hh
   clear hh
   refine sr_ (mv_ rfl (sg_ rfl (nn_ ?_)))
   refine gw_ret ?_
   refine nx_blk_ret (nx_then_ret (nx_then_ret (nx_blk_ret (nx_then_ret ?_))))
   refine nx_ret1 rfl rfl fun wx hm => ?_
   exact ⟨ret_int (by rw [hinv.2, hat, if_pos (decide_eq_true hq)]), hm.g⟩
  have hq : ¬ (x = z0) := by simpa using hh
  clear hh
  refine gw_skip (nx_blk_nrm (nx_then (gw_region (ad_ rfl rfl (mv_ rfl (wl_nil ?_))))))
  exact nx_round (k + 1) ⟨by omega, by rw [hinv.2, hat, if_neg (by rw [decide_eq_false hq]; decide)]⟩ (by omega) ⟨rfl, rfl, rfl, (some_int (by omega)), trivial⟩ (fun _ hm => hm.pick [] [] [0] rfl rfl)
 have hk : ¬ (((k : Nat) : Int) < ((n : Nat) : Int)) := by simpa using hh
 clear hh
 refine gw_exit ?_
 refine nx_then_exit (nx_then_exit ?_)
 refine nx_blk_here ?_
 refine nx_then (sr_ (sg_ rfl ?_))
 refine wl_set 4 (v' := .int .i64 (-1)) rfl rfl ?_
 refine nn_ ?_
 refine gw_ret ?_
 refine nx_ret1 rfl rfl fun wx hm => ?_
 exact ⟨ret_int (by rw [hinv.2, List.drop_eq_nil_of_le (by omega)]; rfl), hm.g⟩
theorem contains_int (l : List Int) (A : Option Addr) (n c0 : Nat) (x : Int) (w : World) (hl : SlT itEnc 1 3 w A n l) (hn : n ≤ 1000000) :
  Calls Tryz.prog 213 #[.slice A n c0, .int .i64 x] w (fun e w' => e = .returned (.bool (decide (x ∈ l))) ∧ w.grownBy w' none) := by
 refine gw_enter ⟨9, w, none, []⟩ Tryz.func213 rfl Tryz.ntmps213 rfl (mem0 (X := [SlOld itEnc 1 3 w.heap.size none A n l]) (allF_cons hl.old allF_nil) (allL_cons SlOld.lasts allL_nil)) ?_
 refine sr_ (sg_ rfl (nn_ (sr_ (mv_ rfl (mv_ rfl ?_)))))
 refine wl_callv rfl cb265 rfl rfl (fun wx hm => (index_int l A n c0 x wx (hm.fact 0 rfl).1 hn)) ?_
 refine wl_ov (ov_geq rfl rfl) rfl ?_
 refine sg_ rfl (nn_ ?_)
 refine gw_ret ?_
 refine nx_ret1 rfl rfl fun wx hm => ?_
 exact ⟨by rw [ix_mem], hm.g⟩
theorem tbegin_any (A : Option Addr) (n c0 : Nat) (fr tt : Int) (vs : Value) (i : Nat) (w : World) (h0 : 0 ≤ fr) (h1 : fr ≤ 5761439) (hi : i ≤ 10000) :
  Calls Tryz.prog 249 #[.agg #[.slice A n c0, .int .i64 fr, .int .i64 tt, vs], .int .i64 ((i : Nat) : Int)] w (fun e w' => e = .returned (.int .i64 (begV fr i)) ∧ w.grownBy w' none) := by
 refine gw_enter ⟨11, w, none, []⟩ Tryz.func249 rfl Tryz.ntmps249 rfl (mem0 (X := []) allF_nil allL_nil) ?_
 refine sr_ ?_
 refine wl_box rfl rfl rfl fun g1 => ?_
 refine sg_ rfl (nn_ (sr_ (fd_ fo244_1 rfl rfl (fd_ fo35_0 rfl rfl (lk_ sc3 0 rfl rfl rfl (mv_ rfl ?_))))))
 refine wl_ov (ov_mul rfl rfl (by omega) (by omega)) rfl ?_
 refine ad_ rfl rfl (sg_ rfl (nn_ ?_))
 refine gw_ret ?_
 refine nx_ret1 rfl rfl fun wx hm => ?_
 exact ⟨rfl, hm.g⟩
theorem tend_any (A : Option Addr) (n c0 : Nat) (fr tt : Int) (vs : Value) (i : Nat) (w : World) (h0 : 0 ≤ fr) (h1 : fr ≤ 5761439) (hi : i ≤ 9000) :
  Calls Tryz.prog 301 #[.agg #[.slice A n c0, .int .i64 fr, .int .i64 tt, vs], .int .i64 ((i : Nat) : Int)] w (fun e w' => e = .returned (.int .i64 (endV fr tt i)) ∧ w.grownBy w' none) := by
 refine gw_enter ⟨13, w, none, []⟩ Tryz.func301 rfl Tryz.ntmps301 rfl (mem0 (X := []) allF_nil allL_nil) ?_
 refine sr_ ?_
 refine wl_box rfl rfl rfl fun g1 => ?_
 refine sg_ rfl (nn_ (gw_seq ?_))
 refine gd (fun wz => Blk wz g1 244 [.slice A n c0, .int .i64 fr, .int .i64 tt, vs] ∧ True) mixed (fun _ hm => ⟨hm.bl 0, trivial⟩) fun z => ?_
 refine wt 0 9 1 rfl z (ov_loads rz244 rfl (fun _ hm => hm.1) rfl rfl) ?_
 refine wt 1 9 3 rfl z (ov_move rfl) ?_
 refine wt 2 9 7 rfl z (ov_add rfl rfl (by omega) (by omega)) ?_
 refine wa_set 7 (v' := .int .i64 ((i + 1 : Nat) : Int)) rfl (congrArg (Value.int .i64) (by omega)) ?_
 refine wt 4 9 23 rfl z (ov_field fo244_1 rfl rfl) ?_
 refine wt 5 9 55 rfl z (ov_field fo35_1 rfl rfl) ?_
 refine wt 6 9 119 rfl z (ov_load sc3 rfl (fun _ hm => hm.1) rfl) ?_
 refine wa1 3 rfl ?_
 refine wl_callv rfl cb249 rfl rfl (fun wx hm => (tbegin_any A n c0 fr tt vs (i + 1) wx h0 h1 (by omega))) ?_
 refine wl_nil ?_
 refine nw 9 127 (fun _ hm => ⟨hm.bl 0, trivial⟩) fun z => ?_
 refine wt 7 9 255 rfl z (ov_min rfl rfl) ?_
 refine wt 8 9 511 rfl z (ov_assign rfl) ?_
 refine wa_done (by kernel_rfl) ?_
 refine nx_then ?_
 refine gw_ret ?_
 refine nx_ret1 rfl rfl fun wx hm => ?_
 exact ⟨by unfold endV begV; simp, hm.g⟩
theorem tweekend_any (x : Int) (w : World) (h0 : 0 ≤ x) (h1 : x ≤ 100000000) :
  Calls Tryz.prog 300 #[.int .i64 x] w (GotE w (wkE x)) := by
 refine gw_enter ⟨32, w, none, []⟩ Tryz.func300 rfl Tryz.ntmps300 rfl (mem0 (X := []) allF_nil allL_nil) ?_
 refine sr_ ?_
 have hr0 : 0 ≤ x % 10080 := Int.emod_nonneg _ (by omega)
 have hr1 : x % 10080 < 10080 := Int.emod_lt_of_pos _ (by omega)
 refine sg_ rfl (nn_ (sr_ (mv_ rfl (mv_ rfl ?_))))
 refine wl_ov (ov_rem rfl rfl (by omega) (by omega) (by omega)) rfl ?_
 refine wl_ov (ov_sub rfl rfl (by omega) (by omega)) rfl ?_
 refine sg_ rfl (nn_ (gw_seq (sr_ (mv_ rfl ?_))))
 refine wl_ov (ov_sub rfl rfl (by omega) (by omega)) rfl ?_
 refine mv_ rfl (ad_ rfl rfl ?_)
 refine wl_buildSlice (e := 3) (cs := [.int .i64 ((x - (x % 10080)) - 4320), .int .i64 ((x - (x % 10080)) + 5760)]) rfl (by kernel_rfl) rfl fun g1 => ?_
 refine wl_ov (ov_len es22 rfl) rfl ?_
 refine wl_set 16 (v' := .int .i64 2) rfl rfl ?_
 refine mv_ rfl (nn_ (gw_block ?_))
 refine gw_rounds 3 ?_
 refine gr_next ?_
 refine sr_ (wl_ov (ov_lss rfl rfl) rfl ?_)
 refine wl_set 18 (v' := .bool true) rfl (congrArg Value.bool (by decide)) ?_
 refine nn_ (gw_seq (ct_ rfl (gw_skip (nx_then (gw_seq (gw_block (sr_ ?_)))))))
 refine wl_ov (ov_index (j := 0) es22 rfl rfl (by decide)) rfl ?_
 refine lk_ sc3 0 rfl rfl rfl (sg_ rfl (nn_ (sr_ (mv_ rfl (ad_ rfl rfl (sg_ rfl (nn_ (sr_ (mv_ rfl ?_)))))))))
 refine mv_ rfl (mv_ rfl (ad_ rfl rfl ?_))
 refine wl_ov (ov_sub rfl rfl (by omega) (by omega)) rfl ?_
 refine wl_callw rfl cb175 rfl rfl (fun wx hm => (in_any _ _ _ wx)) ?_
 refine nn_ ?_
 refine gw_cond rfl (fun hh => ?_) (fun hh => ?_)
 ·have h1 : (inB x (((x - (x % 10080)) - 4320) + 720) (((((x - (x % 10080)) - 4320) + 720) + 4320) - 1)) = true := by simpa using hh
  clear hh
  refine sr_ (mv_ rfl (ad_ rfl rfl (sg_ rfl (nn_ ?_))))
  refine gw_ret ?_
  refine nx_blk_ret (nx_then_ret (nx_then_ret (nx_blk_ret (nx_then_ret ?_))))
  refine nx_ret1 rfl rfl fun wx hm => ?_
  have h1 := inB_iff.1 h1
  refine ⟨ret_int ?_, hm.g⟩
  unfold wkE; rw [if_pos (by omega)]; omega
 have h1 : (inB x (((x - (x % 10080)) - 4320) + 720) (((((x - (x % 10080)) - 4320) + 720) + 4320) - 1)) = false := by simpa using hh
 clear hh
 refine gw_skip (nx_blk_nrm (nx_then (gw_region (ad_ rfl rfl ?_))))
 refine wl_set 31 (v' := .int .i64 1) rfl rfl ?_
 refine mv_ rfl (wl_nil ?_)
 refine nx_next ?_
 refine gr_next ?_
 refine sr_ (wl_ov (ov_lss rfl rfl) rfl ?_)
 refine wl_set 18 (v' := .bool true) rfl (congrArg Value.bool (by decide)) ?_
 refine nn_ (gw_seq (ct_ rfl (gw_skip (nx_then (gw_seq (gw_block (sr_ ?_)))))))
 refine wl_ov (ov_index (j := 1) es22 rfl rfl (by decide)) rfl ?_
 refine lk_ sc3 0 rfl rfl rfl (sg_ rfl (nn_ (sr_ (mv_ rfl (ad_ rfl rfl (sg_ rfl (nn_ (sr_ (mv_ rfl ?_)))))))))
 refine mv_ rfl (mv_ rfl (ad_ rfl rfl ?_))
 refine wl_ov (ov_sub rfl rfl (by omega) (by omega)) rfl ?_
 refine wl_callw rfl cb175 rfl rfl (fun wx hm => (in_any _ _ _ wx)) ?_
 refine nn_ ?_
 refine gw_cond rfl (fun hh => ?_) (fun hh => ?_)
 ·have h2 : (inB x (((x - (x % 10080)) + 5760) + 720) (((((x - (x % 10080)) + 5760) + 720) + 4320) - 1)) = true := by simpa using hh
  clear hh
  refine sr_ (mv_ rfl (ad_ rfl rfl (sg_ rfl (nn_ ?_))))
  refine gw_ret ?_
  refine nx_blk_ret (nx_then_ret (nx_then_ret (nx_blk_ret (nx_then_ret ?_))))
  refine nx_ret1 rfl rfl fun wx hm => ?_
  have h1 := inB_false.1 h1
  have h2 := inB_iff.1 h2
  refine ⟨ret_int ?_, hm.g⟩
  unfold wkE; rw [if_neg (by omega), if_pos (by omega)]; omega
 have h2 : (inB x (((x - (x % 10080)) + 5760) + 720) (((((x - (x % 10080)) + 5760) + 720) + 4320) - 1)) = false := by simpa using hh
 clear hh
 refine gw_skip (nx_blk_nrm (nx_then (gw_region (ad_ rfl rfl ?_))))
 refine wl_set 31 (v' := .int .i64 2) rfl rfl ?_
 refine mv_ rfl (wl_nil ?_)
 refine nx_next ?_
 refine gr_next ?_
 refine sr_ (wl_ov (ov_lss rfl rfl) rfl ?_)
 refine wl_set 18 (v' := .bool false) rfl (congrArg Value.bool (by decide)) ?_
 refine nn_ (gw_seq (cf_ rfl ?_))
 refine gw_exit ?_
 refine nx_then_exit (nx_then_exit ?_)
 refine nx_blk_here ?_
 refine nx_then (sr_ (sg_ rfl ?_))
 refine wl_set 2 (v' := .int .i64 (-1)) rfl rfl ?_
 refine nn_ ?_
 refine gw_ret ?_
 refine nx_ret1 rfl rfl fun wx hm => ?_
 have h1 := inB_false.1 h1
 have h2 := inB_false.1 h2
 refine ⟨ret_int ?_, hm.g⟩
 unfold wkE; rw [if_neg (by omega), if_neg (by omega)]
theorem trent_any (l : List Rt) (A : Option Addr) (n c0 : Nat) (c : ByteArray) (fr tt : Int) (w : World) (hl : SlT rtEnc 7 170 w A n l) (hn : n ≤ 1000000) (hpos : ∀ r ∈ l, RtPos r) (ht : timeE fr tt = 0) :
  Calls Tryz.prog 192 #[.slice A n c0, .string c, .agg #[.int .i64 fr, .int .i64 tt]] w (fun e w' => ∃ A2 c2, e = .returned (.agg #[.slice A n c0, .int .i64 fr, .int .i64 tt, .slice A2 (daysV fr tt).toNat c2]) ∧ w.grownBy w' none ∧ SlT itEnc 1 3 w' A2 (daysV fr tt).toNat (seasons l c fr (daysV fr tt).toNat) ∧ (daysV fr tt).toNat ≤ c2) := by
 refine gw_enter ⟨31, w, none, []⟩ Tryz.func192 rfl Tryz.ntmps192 rfl (mem0 (X := [SlOld rtEnc 7 170 w.heap.size none A n l]) (allF_cons hl.old allF_nil) (allL_cons SlOld.lasts allL_nil)) ?_
 refine sr_ ?_
 obtain ⟨h0, h1, h2, h3⟩ := timeE_ok ht
 have hD1 := timeE_days ht
 obtain ⟨D, hDn⟩ := Int.eq_ofNat_of_zero_le (show 0 ≤ daysV fr tt by omega)
 have hDN : (daysV fr tt).toNat = D := by omega
 rw [hDN]
 have hD2 : D ≤ 120 := by omega
 refine wl_box rfl rfl rfl fun g1 => ?_
 refine wl_alloc zc244 rfl fun g2 => ?_
 refine nn_ (sr_ (mv_ rfl ?_))
 refine wl_ov (ov_loads rz35 rfl (fun _ hm => hm.blkI 1 rfl) rfl rfl) rfl ?_
 refine wl_ov (ov_build (cs := [.slice A n c0, .int .i64 fr, .int .i64 tt, .slice none 0 0]) rfl (by kernel_rfl)) rfl ?_
 refine wl_alloc zc244 rfl fun g3 => ?_
 refine wl_stores (cs' := [.slice A n c0, .int .i64 fr, .int .i64 tt, .slice none 0 0]) 0 rz244 rfl rfl rfl rfl rfl rfl rfl rfl ?_
 refine nn_ (gw_seq (sr_ ?_))
 refine wl_ov (ov_loads rz35 rfl (fun _ hm => hm.blkI 2 rfl) rfl rfl) rfl ?_
 refine wl_callv rfl cb202 rfl rfl (fun wx hm => (days_any _ _ wx (by omega) (by omega) (by omega))) ?_
 refine mv_ rfl (nn_ (gw_block ?_))
 refine gw_nilOwn 3 1 ?_
 refine gw_set 13 (v' := .int .i64 ((D : Nat) : Int)) rfl (congrArg (Value.int .i64) hDn) ?_
 refine gw_loop (γ := Nat × Value × List Value) (fun g => g.1 ≤ D ∧ g.2.2 = (seasons l c fr g.1).flatMap itEnc) (fun g => [(0, .slice A n c0), (1, .string c), (6, .pointer (some ⟨g2, 0, none⟩)), (7, .pointer (some ⟨g3, 0, none⟩)), (13, .int .i64 ((D : Nat) : Int)), (14, .int .i64 ((g.1 : Nat) : Int))]) (fun g => fun _ => True) (fun g => [(g3, 244, [.slice A n c0, .int .i64 fr, .int .i64 tt, g.2.1]), (g2, 244, [.slice none 0 0, .int .i64 0, .int .i64 0, .slice none 0 0])]) (fun g => [⟨g.2.1, 3, 1, g.1, g.2.2⟩]) (fun g => [SlOld rtEnc 7 170 w.heap.size none A n l]) (fun g => D - g.1) (0, .slice none 0 0, []) ⟨Nat.zero_le _, rfl⟩ ⟨rfl, rfl, rfl, rfl, rfl, rfl, trivial⟩ (fun _ hm => hm.pick [0, 1] [0] [0] rfl rfl) ?_
 rintro ⟨k, v, xs⟩ hinv
 replace hinv : k ≤ D ∧ xs = (seasons l c fr k).flatMap itEnc := hinv
 dsimp only
 refine sr_ ?_
 obtain ⟨hi0, rfl⟩ := hinv
 refine wl_ov (ov_lss rfl rfl) rfl (nn_ (gw_seq ?_))
 refine gw_cond rfl (fun hh => ?_) (fun hh => ?_)
 ·have hk : ((k : Nat) : Int) < ((D : Nat) : Int) := by simpa using hh
  clear hh
  refine gw_skip (nx_then (gw_seq (gw_block (sr_ ?_))))
  obtain ⟨S, hS⟩ : ∃ S, S = seaV l c fr k := ⟨_, rfl⟩
  have hbv : 0 ≤ begV fr k ∧ begV fr k ≤ 10000000 := by unfold begV; omega
  have hbv0 := hbv.1
  have hbv1 := hbv.2
  refine mv_ rfl (sg_ rfl (nn_ ?_))
  refine gd (fun wz => Blk wz g2 244 [.slice none 0 0, .int .i64 0, .int .i64 0, .slice none 0 0] ∧ (SlOld rtEnc 7 170 w.heap.size none A n l) wz ∧ True) mixed (fun _ hm => ⟨hm.bl 1, hm.fa 0, trivial⟩) fun z => ?_
  refine wt 0 13 1 rfl z (ov_field fo244_2 rfl rfl) ?_
  refine wt 2 13 5 rfl z (ov_move rfl) ?_
  refine wt 3 13 13 rfl z (ov_move rfl) ?_
  refine wt 5 13 45 rfl z (ov_move rfl) ?_
  refine wa_all [1, 4] (by kernel_rfl) rfl ⟨⟨_, rfl, ?_⟩, ⟨_, rfl, ?_⟩, trivial⟩
  ·refine lk_ sc22 0 rfl rfl rfl (wl_nil ?_)
   refine nw 13 47 (fun _ hm => ⟨hm.bl 1, hm.fa 0, trivial⟩) fun z => ?_
   refine wa1 4 rfl ?_
   refine wl_ov (ov_loads rz244 rfl (fun _ hm => hm.blkI 0 rfl) rfl rfl) rfl ?_
   refine wl_nil ?_
   refine nw 13 63 (fun _ hm => ⟨hm.bl 1, hm.fa 0, trivial⟩) fun z => ?_
   refine wa1 6 rfl ?_
   refine wl_callv rfl cb249 rfl rfl (fun wx hm => (tbegin_any A n c0 fr tt v k wx h0 (by omega) (by omega))) ?_
   refine wl_nil ?_
   refine nw 13 127 (fun _ hm => ⟨hm.bl 1, hm.fa 0, trivial⟩) fun z => ?_
   refine wt 7 13 255 rfl z (ov_quo rfl rfl (by omega) (by omega) (by omega)) ?_
   refine wa1 8 rfl ?_
   refine wl_callv (v := .int .i64 S) rfl cb248 rfl rfl (fun wx hm => (by rw [hS]; exact rateOn_any l A n c0 c (begV fr k / 1440) wx (hm.fact 0 rfl).1 hn hpos)) ?_
   refine wl_nil ?_
   refine nw 13 511 (fun _ hm => ⟨hm.bl 1, hm.fa 0, trivial⟩) fun z => ?_
   refine wa1 9 rfl ?_
   refine wl_buildSlice (e := 3) (cs := [.int .i64 S]) rfl (by kernel_rfl) rfl fun g4 => ?_
   refine wl_nil ?_
   refine nw 13 1023 (fun _ hm => ⟨hm.bl 2, hm.fa 0, trivial⟩) fun z => ?_
   refine wa1 10 rfl ?_
   refine wl_append (news := [.int .i64 S]) 0 0 ap22 rfl rfl rfl rfl rfl rfl rfl (by omega) (by unfold maxLen; omega) rfl rfl fun v2 hv2 => ?_
   refine wl_look (R := ∃ A cc, v2 = .slice A (k + 1) cc) (fun wx hm => own_slice (hm.ownI 0 rfl)) ?_
   rintro ⟨A9, c9, rfl⟩
   refine wl_nil ?_
   refine nw 13 2047 (fun _ hm => ⟨hm.bl 2, hm.fa 0, trivial⟩) fun z => ?_
   refine wt 11 13 4095 rfl z (ov_field fo244_2 rfl rfl) ?_
   refine wa1 12 rfl ?_
   refine wl_store 1 sc22 rfl rfl rfl rfl rfl rfl ?_
   refine wl_nil ?_
   refine nw 13 8191 (fun _ hm => ⟨hm.bl 2, hm.fa 0, trivial⟩) fun z => ?_
   refine wa_done (by kernel_rfl) ?_
   refine nx_blk_nrm (nx_then (gw_region (ad_ rfl rfl (mv_ rfl (wl_nil ?_)))))
   exact nx_round (k + 1, .slice A9 (k + 1) c9, (seasons l c fr k).flatMap itEnc ++ ([.int .i64 S] : List Value)) ⟨by dsimp only; omega, by rw [hS, seasons_succ]; simp [itEnc]⟩ (by dsimp only; omega) ⟨rfl, rfl, rfl, rfl, rfl, (some_int (by omega)), trivial⟩ (fun _ hm => hm.pick [1, 2] [0] [0] rfl rfl)
  refine wl_ov (ov_loads rz244 rfl (fun _ hm => hm.blkI 0 rfl) rfl rfl) rfl ?_
  refine wl_nil ?_
  refine nw 13 61 (fun _ hm => ⟨hm.bl 1, hm.fa 0, trivial⟩) fun z => ?_
  refine wa_all [1, 6] (by kernel_rfl) rfl ⟨⟨_, rfl, ?_⟩, ⟨_, rfl, ?_⟩, trivial⟩
  ·refine lk_ sc22 0 rfl rfl rfl (wl_nil ?_)
   refine nw 13 63 (fun _ hm => ⟨hm.bl 1, hm.fa 0, trivial⟩) fun z => ?_
   refine wa1 6 rfl ?_
   refine wl_callv rfl cb249 rfl rfl (fun wx hm => (tbegin_any A n c0 fr tt v k wx h0 (by omega) (by omega))) ?_
   refine wl_nil ?_
   refine nw 13 127 (fun _ hm => ⟨hm.bl 1, hm.fa 0, trivial⟩) fun z => ?_
   refine wt 7 13 255 rfl z (ov_quo rfl rfl (by omega) (by omega) (by omega)) ?_
   refine wa1 8 rfl ?_
   refine wl_callv (v := .int .i64 S) rfl cb248 rfl rfl (fun wx hm => (by rw [hS]; exact rateOn_any l A n c0 c (begV fr k / 1440) wx (hm.fact 0 rfl).1 hn hpos)) ?_
   refine wl_nil ?_
   refine nw 13 511 (fun _ hm => ⟨hm.bl 1, hm.fa 0, trivial⟩) fun z => ?_
   refine wa1 9 rfl ?_
   refine wl_buildSlice (e := 3) (cs := [.int .i64 S]) rfl (by kernel_rfl) rfl fun g5 => ?_
   refine wl_nil ?_
   refine nw 13 1023 (fun _ hm => ⟨hm.bl 2, hm.fa 0, trivial⟩) fun z => ?_
   refine wa1 10 rfl ?_
   refine wl_append (news := [.int .i64 S]) 0 0 ap22 rfl rfl rfl rfl rfl rfl rfl (by omega) (by unfold maxLen; omega) rfl rfl fun v2 hv2 => ?_
   refine wl_look (R := ∃ A cc, v2 = .slice A (k + 1) cc) (fun wx hm => own_slice (hm.ownI 0 rfl)) ?_
   rintro ⟨A9, c9, rfl⟩
   refine wl_nil ?_
   refine nw 13 2047 (fun _ hm => ⟨hm.bl 2, hm.fa 0, trivial⟩) fun z => ?_
   refine wt 11 13 4095 rfl z (ov_field fo244_2 rfl rfl) ?_
   refine wa1 12 rfl ?_
   refine wl_store 1 sc22 rfl rfl rfl rfl rfl rfl ?_
   refine wl_nil ?_
   refine nw 13 8191 (fun _ hm => ⟨hm.bl 2, hm.fa 0, trivial⟩) fun z => ?_
   refine wa_done (by kernel_rfl) ?_
   refine nx_blk_nrm (nx_then (gw_region (ad_ rfl rfl (mv_ rfl (wl_nil ?_)))))
   exact nx_round (k + 1, .slice A9 (k + 1) c9, (seasons l c fr k).flatMap itEnc ++ ([.int .i64 S] : List Value)) ⟨by dsimp only; omega, by rw [hS, seasons_succ]; simp [itEnc]⟩ (by dsimp only; omega) ⟨rfl, rfl, rfl, rfl, rfl, (some_int (by omega)), trivial⟩ (fun _ hm => hm.pick [1, 2] [0] [0] rfl rfl)
  refine wl_callv rfl cb249 rfl rfl (fun wx hm => (tbegin_any A n c0 fr tt v k wx h0 (by omega) (by omega))) ?_
  refine wl_nil ?_
  refine nw 13 125 (fun _ hm => ⟨hm.bl 1, hm.fa 0, trivial⟩) fun z => ?_
  refine wt 7 13 253 rfl z (ov_quo rfl rfl (by omega) (by omega) (by omega)) ?_
  refine wa_all [1, 8] (by kernel_rfl) rfl ⟨⟨_, rfl, ?_⟩, ⟨_, rfl, ?_⟩, trivial⟩
  ·refine lk_ sc22 0 rfl rfl rfl (wl_nil ?_)
   refine nw 13 255 (fun _ hm => ⟨hm.bl 1, hm.fa 0, trivial⟩) fun z => ?_
   refine wa1 8 rfl ?_
   refine wl_callv (v := .int .i64 S) rfl cb248 rfl rfl (fun wx hm => (by rw [hS]; exact rateOn_any l A n c0 c (begV fr k / 1440) wx (hm.fact 0 rfl).1 hn hpos)) ?_
   refine wl_nil ?_
   refine nw 13 511 (fun _ hm => ⟨hm.bl 1, hm.fa 0, trivial⟩) fun z => ?_
   refine wa1 9 rfl ?_
   refine wl_buildSlice (e := 3) (cs := [.int .i64 S]) rfl (by kernel_rfl) rfl fun g6 => ?_
   refine wl_nil ?_
   refine nw 13 1023 (fun _ hm => ⟨hm.bl 2, hm.fa 0, trivial⟩) fun z => ?_
   refine wa1 10 rfl ?_
   refine wl_append (news := [.int .i64 S]) 0 0 ap22 rfl rfl rfl rfl rfl rfl rfl (by omega) (by unfold maxLen; omega) rfl rfl fun v2 hv2 => ?_
   refine wl_look (R := ∃ A cc, v2 = .slice A (k + 1) cc) (fun wx hm => own_slice (hm.ownI 0 rfl)) ?_
   rintro ⟨A9, c9, rfl⟩
   refine wl_nil ?_
   refine nw 13 2047 (fun _ hm => ⟨hm.bl 2, hm.fa 0, trivial⟩) fun z => ?_
   refine wt 11 13 4095 rfl z (ov_field fo244_2 rfl rfl) ?_
   refine wa1 12 rfl ?_
   refine wl_store 1 sc22 rfl rfl rfl rfl rfl rfl ?_
   refine wl_nil ?_
   refine nw 13 8191 (fun _ hm => ⟨hm.bl 2, hm.fa 0, trivial⟩) fun z => ?_
   refine wa_done (by kernel_rfl) ?_
   refine nx_blk_nrm (nx_then (gw_region (ad_ rfl rfl (mv_ rfl (wl_nil ?_)))))
   exact nx_round (k + 1, .slice A9 (k + 1) c9, (seasons l c fr k).flatMap itEnc ++ ([.int .i64 S] : List Value)) ⟨by dsimp only; omega, by rw [hS, seasons_succ]; simp [itEnc]⟩ (by dsimp only; omega) ⟨rfl, rfl, rfl, rfl, rfl, (some_int (by omega)), trivial⟩ (fun _ hm => hm.pick [1, 2] [0] [0] rfl rfl)
  refine wl_callv (v := .int .i64 S) rfl cb248 rfl rfl (fun wx hm => (by rw [hS]; exact rateOn_any l A n c0 c (begV fr k / 1440) wx (hm.fact 0 rfl).1 hn hpos)) ?_
  refine wl_nil ?_
  refine nw 13 509 (fun _ hm => ⟨hm.bl 1, hm.fa 0, trivial⟩) fun z => ?_
  refine wa_all [1, 9] (by kernel_rfl) rfl ⟨⟨_, rfl, ?_⟩, ⟨_, rfl, ?_⟩, trivial⟩
  ·refine lk_ sc22 0 rfl rfl rfl (wl_nil ?_)
   refine nw 13 511 (fun _ hm => ⟨hm.bl 1, hm.fa 0, trivial⟩) fun z => ?_
   refine wa1 9 rfl ?_
   refine wl_buildSlice (e := 3) (cs := [.int .i64 S]) rfl (by kernel_rfl) rfl fun g7 => ?_
   refine wl_nil ?_
   refine nw 13 1023 (fun _ hm => ⟨hm.bl 2, hm.fa 0, trivial⟩) fun z => ?_
   refine wa1 10 rfl ?_
   refine wl_append (news := [.int .i64 S]) 0 0 ap22 rfl rfl rfl rfl rfl rfl rfl (by omega) (by unfold maxLen; omega) rfl rfl fun v2 hv2 => ?_
   refine wl_look (R := ∃ A cc, v2 = .slice A (k + 1) cc) (fun wx hm => own_slice (hm.ownI 0 rfl)) ?_
   rintro ⟨A9, c9, rfl⟩
   refine wl_nil ?_
   refine nw 13 2047 (fun _ hm => ⟨hm.bl 2, hm.fa 0, trivial⟩) fun z => ?_
   refine wt 11 13 4095 rfl z (ov_field fo244_2 rfl rfl) ?_
   refine wa1 12 rfl ?_
   refine wl_store 1 sc22 rfl rfl rfl rfl rfl rfl ?_
   refine wl_nil ?_
   refine nw 13 8191 (fun _ hm => ⟨hm.bl 2, hm.fa 0, trivial⟩) fun z => ?_
   refine wa_done (by kernel_rfl) ?_
   refine nx_blk_nrm (nx_then (gw_region (ad_ rfl rfl (mv_ rfl (wl_nil ?_)))))
   exact nx_round (k + 1, .slice A9 (k + 1) c9, (seasons l c fr k).flatMap itEnc ++ ([.int .i64 S] : List Value)) ⟨by dsimp only; omega, by rw [hS, seasons_succ]; simp [itEnc]⟩ (by dsimp only; omega) ⟨rfl, rfl, rfl, rfl, rfl, (some_int (by omega)), trivial⟩ (fun _ hm => hm.pick [1, 2] [0] [0] rfl rfl)
  refine wl_buildSlice (e := 3) (cs := [.int .i64 S]) rfl (by kernel_rfl) rfl fun g8 => ?_
  refine wl_nil ?_
  refine nw 13 1021 (fun _ hm => ⟨hm.bl 2, hm.fa 0, trivial⟩) fun z => ?_
  refine wa1 1 rfl ?_
  refine lk_ sc22 1 rfl rfl rfl (wl_nil ?_)
  refine nw 13 1023 (fun _ hm => ⟨hm.bl 2, hm.fa 0, trivial⟩) fun z => ?_
  refine wa1 10 rfl ?_
  refine wl_append (news := [.int .i64 S]) 0 0 ap22 rfl rfl rfl rfl rfl rfl rfl (by omega) (by unfold maxLen; omega) rfl rfl fun v2 hv2 => ?_
  refine wl_look (R := ∃ A cc, v2 = .slice A (k + 1) cc) (fun wx hm => own_slice (hm.ownI 0 rfl)) ?_
  rintro ⟨A9, c9, rfl⟩
  refine wl_nil ?_
  refine nw 13 2047 (fun _ hm => ⟨hm.bl 2, hm.fa 0, trivial⟩) fun z => ?_
  refine wt 11 13 4095 rfl z (ov_field fo244_2 rfl rfl) ?_
  refine wa1 12 rfl ?_
  refine wl_store 1 sc22 rfl rfl rfl rfl rfl rfl ?_
  refine wl_nil ?_
  refine nw 13 8191 (fun _ hm => ⟨hm.bl 2, hm.fa 0, trivial⟩) fun z => ?_
  refine wa_done (by kernel_rfl) ?_
  refine nx_blk_nrm (nx_then (gw_region (ad_ rfl rfl (mv_ rfl (wl_nil ?_)))))
  exact nx_round (k + 1, .slice A9 (k + 1) c9, (seasons l c fr k).flatMap itEnc ++ ([.int .i64 S] : List Value)) ⟨by dsimp only; omega, by rw [hS, seasons_succ]; simp [itEnc]⟩ (by dsimp only; omega) ⟨rfl, rfl, rfl, rfl, rfl, (some_int (by omega)), trivial⟩ (fun _ hm => hm.pick [1, 2] [0] [0] rfl rfl)
 have hk : ¬ (((k : Nat) : Int) < ((D : Nat) : Int)) := by simpa using hh
 clear hh
 refine gw_exit ?_
 refine nx_then_exit (nx_then_exit ?_)
 refine nx_blk_here ?_
 refine nx_then (sr_ ?_)
 have hkD : k = D := by omega
 subst hkD
 refine wl_look (R := ∃ A cc, v = .slice A k cc) (fun wx hm => own_slice (hm.ownI 0 rfl)) ?_
 rintro ⟨A2, c2, rfl⟩
 refine wl_ov (ov_loads rz244 rfl (fun _ hm => hm.blkI 0 rfl) rfl rfl) rfl ?_
 refine wl_stores (cs' := [.slice A n c0, .int .i64 fr, .int .i64 tt, .slice A2 k c2]) 1 rz244 rfl rfl rfl rfl rfl rfl rfl rfl ?_
 refine nn_ ?_
 refine gw_ret ?_
 refine nx_retc 1 rfl rz244 rfl rfl rfl fun wx hm => ?_
 exact ⟨A2, c2, rfl, hm.g, SlT.ofOwn it_len (hm.ownI 0 rfl) (seasons_len ..), own_cap (hm.ownI 0 rfl)⟩
end Go.Proofs.YtnmpniaocjmkfaaGreatDoor
