/- Several texts as one: Sr Gg Rs Rn Wn Eg Ef Ba Cv Gm Gw Gx Gy Srt Clr Cq Gz Wo Ci -/
import Derived.Test.YtiendebcdicjnaaGreatDoorN1b
import Derived.Test.YtiendebcdicjnaaGreatDoorN1a
import Derived.Laws.Concat
import Derived.RangeFuncNested
import Derived.RangeFuncBound
import Derived.RangeFuncCalls
import Derived.RangeFuncLeaves
import Derived.Shelf.Abstract
import Derived.Shelf.RegionOpen
import Derived.WalkKit
import Derived.OwnWalkIn
import Derived.TacticsInMore
import Derived.LoopNIn
import Derived.LoopIn
import Derived.OneCell
set_option maxRecDepth 100000
set_option maxHeartbeats 4000000
namespace Go.Proofs.YtiendebcdicjnaaGreatDoor
open Go.RowKit
theorem hours7 (u0 u1 u2 u3 u4 u5 u6 u7 u8 u9 u10 u11 u12 u13 : Int) : hoursBad [u0, u1, u2, u3, u4, u5, u6, u7, u8, u9, u10, u11, u12, u13] = (winBad u0 u1 || (winBad u2 u3 || (winBad u4 u5 || (winBad u6 u7 || (winBad u8 u9 || (winBad u10 u11 || (winBad u12 u13 || false))))))) := rfl
def prevSt (l : List St) (k : Nat) : ByteArray := match prevOf l k with
  | none => ⟨#[]⟩
  | some q => q.key
theorem prevSt_succ {l : List St} {k : Nat} {x : St} (h : l[k]? = some x) : prevSt l (k + 1) = x.key := by
  unfold prevSt prevOf; rw [if_neg (by omega), Nat.add_sub_cancel, h]
theorem prevSt_le {l : List St} {k : Nat} {key : ByteArray} (h : keyB key = true) : leB key (prevSt l k) = prevB (prevOf l k) (fun q => leB key q.key) := by
  unfold prevSt prevB
  cases prevOf l k with
  | none => exact key_low h
  | some q => rfl
theorem stationsFault_any (l : List St) (A : Option Addr) (n c : Nat) (w : World) (hl : SlT stEnc 15 105 w A n l) (hok : ∀ x ∈ l, StOk x) (hn : n ≤ 1000000) :
  Calls Tryz.prog 126 #[.slice A n c] w (GotE w (stationsE l)) := by
 refine gw_enter ⟨47, w, none, []⟩ Tryz.func126 rfl Tryz.ntmps126 rfl (mem0 (X := [SlOld stEnc 15 105 w.heap.size none A n l]) (allF_cons hl.old allF_nil) (allL_cons SlOld.lasts allL_nil)) ?_
 refine sr_ ?_
 have hlen := hl.len
 refine sg_ rfl (nn_ (gw_seq (sr_ (mv_ rfl (wl_ov (ov_len es26 rfl) rfl ?_)))))
 refine wl_ov (ov_gtr rfl rfl) rfl ?_
 refine nn_ ?_
 refine gw_cond rfl (fun hh => ?_) (fun hh => ?_)
 ·have h1 : 50 < ((n : Nat) : Int) := by simpa using hh
  clear hh
  refine sr_ (sg_ rfl (nn_ ?_))
  refine gw_ret ?_
  refine nx_then_ret ?_
  refine nx_ret1 rfl rfl fun wx hm => ?_
  exact ⟨ret_int (by unfold stationsE; rw [if_pos (by omega)]), hm.g⟩
 have h1 : ¬ (50 < ((n : Nat) : Int)) := by simpa using hh
 clear hh
 refine gw_skip (nx_then (sr_ ?_))
 have hse : stationsE l = scanE stationE none l := by unfold stationsE; rw [if_neg (by omega)]
 refine sg_ rfl (nn_ (gw_seq (sr_ (mv_ rfl (wl_ov (ov_len es26 rfl) rfl (mv_ rfl (nn_ (gw_block ?_))))))))
 refine gw_loop (γ := Nat) (fun (k : Nat) => k ≤ n ∧ scanE stationE none l = scanE stationE (prevOf l k) (l.drop k)) (fun (k : Nat) => [(3, .string (prevSt l k)), (11, .slice A n c), (12, .int .i64 ((n : Nat) : Int)), (13, .int .i64 ((k : Nat) : Int))]) (fun (k : Nat) => fun _ => True) (fun (k : Nat) => []) (fun (k : Nat) => []) (fun (k : Nat) => [SlOld stEnc 15 105 w.heap.size none A n l]) (fun (k : Nat) => n - k) 0 ⟨Nat.zero_le _, rfl⟩ ⟨rfl, rfl, rfl, rfl, trivial⟩ (fun _ hm => hm.pick [] [] [0] rfl rfl) ?_
 intro k hinv
 replace hinv : k ≤ n ∧ scanE stationE none l = scanE stationE (prevOf l k) (l.drop k) := hinv
 refine sr_ (wl_ov (ov_lss rfl rfl) rfl (nn_ (gw_seq ?_)))
 refine gw_cond rfl (fun hh => ?_) (fun hh => ?_)
 ·have hk : ((k : Nat) : Int) < ((n : Nat) : Int) := by simpa using hh
  clear hh
  refine gw_skip (nx_then (gw_seq (gw_block (sr_ ?_))))
  obtain ⟨b, off, hA, _, _⟩ := hl.get (by omega)
  subst hA
  obtain ⟨x, hx⟩ : ∃ x, l[k]? = some x := ⟨_, List.getElem?_eq_getElem (by omega)⟩
  have hat := scanE_at stationE l k _ hx
  have hso := hok _ (List.mem_of_getElem? hx)
  obtain ⟨key, hs⟩ := x
  obtain ⟨u0, u1, u2, u3, u4, u5, u6, u7, u8, u9, u10, u11, u12, u13, rfl⟩ := list14 hs hso.1
  have hk1 : key.size ≤ 1000000 := hso.2.1
  have hsb := hso.2.2
  refine wl_ov (ov_index (j := k) es26 rfl rfl (by omega)) rfl ?_
  refine wl_ov (ov_elem (vs := [.string key, .int .i64 u0, .int .i64 u1, .int .i64 u2, .int .i64 u3, .int .i64 u4, .int .i64 u5, .int .i64 u6, .int .i64 u7, .int .i64 u8, .int .i64 u9, .int .i64 u10, .int .i64 u11, .int .i64 u12, .int .i64 u13]) rz105 rfl (fun _ hm => (hm.fact 0 rfl).1) hx rfl rfl) rfl ?_
  refine wl_alloc zc105 rfl fun g1 => ?_
  refine wl_stores (cs' := [.string key, .int .i64 u0, .int .i64 u1, .int .i64 u2, .int .i64 u3, .int .i64 u4, .int .i64 u5, .int .i64 u6, .int .i64 u7, .int .i64 u8, .int .i64 u9, .int .i64 u10, .int .i64 u11, .int .i64 u12, .int .i64 u13]) 0 rz105 rfl rfl rfl rfl rfl rfl rfl rfl ?_
  refine nn_ (gw_seq (gw_block (sr_ (fd_ fo105_0 rfl rfl (lk_ sc9 0 rfl rfl rfl ?_)))))
  refine wl_callv rfl cb128 rfl rfl (fun wx hm => (key_any _ wx (by omega))) ?_
  refine wl_ov (ov_un_not rfl) rfl (sg_ rfl (nn_ ?_))
  refine gw_cond rfl (fun hh => ?_) (fun hh => ?_)
  ·have h2 : (keyB key) = false := by simpa using hh
   clear hh
   refine sr_ (sg_ rfl (nn_ ?_))
   refine gw_ret ?_
   refine nx_blk_ret (nx_then_ret (nx_blk_ret (nx_then_ret (nx_then_ret (nx_blk_ret (nx_then_ret ?_))))))
   have hE : stationE (prevOf l k) ⟨key, [u0, u1, u2, u3, u4, u5, u6, u7, u8, u9, u10, u11, u12, u13]⟩ = 5 := by unfold stationE; rw [if_pos (by simpa using h2)]
   refine nx_ret1 rfl rfl fun wx hm => ?_
   exact ⟨ret_int (by rw [hse, hinv.2, hat, if_neg (by rw [hE]; decide), hE]), hm.g⟩
  have h2 : (keyB key) = true := by simpa using hh
  clear hh
  refine sr_ (fd_ fo105_0 rfl rfl (lk_ sc9 0 rfl rfl rfl (mv_ rfl ?_)))
  refine wl_ov (ov_sleq rfl rfl) rfl ?_
  refine sg_ rfl (nn_ ?_)
  refine gw_cond rfl (fun hh => ?_) (fun hh => ?_)
  ·have h9 : (Op.bytesLess key.toList (prevSt l k).toList || key.toList == (prevSt l k).toList) = true := by simpa using hh
   clear hh
   refine sr_ ?_
   have hky : keyB key = true := by simpa using h2
   have hO : prevB (prevOf l k) (fun q => leB key q.key) = true := (prevSt_le hky).symm.trans h9
   refine sg_ rfl (nn_ ?_)
   refine gw_ret ?_
   refine nx_blk_ret (nx_then_ret (nx_blk_ret (nx_then_ret (nx_then_ret (nx_blk_ret (nx_then_ret ?_))))))
   have hE : stationE (prevOf l k) ⟨key, [u0, u1, u2, u3, u4, u5, u6, u7, u8, u9, u10, u11, u12, u13]⟩ = 7 := by unfold stationE; rw [if_neg (by rw [hky]; decide), if_pos hO]
   refine nx_ret1 rfl rfl fun wx hm => ?_
   exact ⟨ret_int (by rw [hse, hinv.2, hat, if_neg (by rw [hE]; decide), hE]), hm.g⟩
  have h9 : (Op.bytesLess key.toList (prevSt l k).toList || key.toList == (prevSt l k).toList) = false := by simpa using hh
  clear hh
  refine gw_skip (nx_blk_nrm (nx_then (sr_ ?_)))
  have hky : keyB key = true := by simpa using h2
  have hO : prevB (prevOf l k) (fun q => leB key q.key) = false := (prevSt_le hky).symm.trans h9
  have hE0 : stationE (prevOf l k) ⟨key, [u0, u1, u2, u3, u4, u5, u6, u7, u8, u9, u10, u11, u12, u13]⟩ = if hoursBad [u0, u1, u2, u3, u4, u5, u6, u7, u8, u9, u10, u11, u12, u13] = true then 1 else 0 := by unfold stationE; rw [if_neg (by rw [hky]; decide), if_neg (by rw [hO]; decide)]
  rw [hours7] at hE0
  refine fd_ fo105_0 rfl rfl (lk_ sc9 0 rfl rfl rfl (sg_ rfl (nn_ (sr_ (fd_ fo105_1 rfl rfl ?_)))))
  refine wl_ov (ov_loads rz103 rfl (fun _ hm => hm.blkI 0 rfl) rfl rfl) rfl ?_
  refine mv_ rfl (nn_ (gw_block ?_))
  refine gw_rounds 8 ?_
  refine gr_next ?_
  refine sr_ (wl_ov (ov_lss rfl rfl) rfl ?_)
  refine wl_set 32 (v' := .bool true) rfl (congrArg Value.bool (by decide)) ?_
  refine nn_ (gw_seq (ct_ rfl (gw_skip (nx_then (gw_seq (gw_block (sr_ ?_)))))))
  refine wl_ov (ov_indexA (e := 55) (len := 7) (sz := 2) (i := 0) (cs := [.int .i64 u0, .int .i64 u1, .int .i64 u2, .int .i64 u3, .int .i64 u4, .int .i64 u5, .int .i64 u6, .int .i64 u7, .int .i64 u8, .int .i64 u9, .int .i64 u10, .int .i64 u11, .int .i64 u12, .int .i64 u13]) (vs := [.int .i64 u0, .int .i64 u1]) (by kernel_rfl) rfl rfl (by decide) rfl) rfl ?_
  refine wl_alloc zc55 rfl fun g2 => ?_
  refine wl_stores (cs' := [.int .i64 u0, .int .i64 u1]) 0 rz55 rfl rfl rfl rfl rfl rfl rfl rfl ?_
  refine nn_ (sr_ (fd_ fo55_0 rfl rfl (lk_ sc3 0 rfl rfl rfl (fd_ fo55_1 rfl rfl (lk_ sc3 0 rfl rfl rfl ?_)))))
  refine wl_callw rfl cb70 rfl rfl (fun wx hm => (rin_any _ _ _ wx)) ?_
  refine wl_ov (ov_un_not rfl) rfl (mv_ rfl ?_)
  rcases Bool.eq_false_or_eq_true (!(inB u0 0 u1)) with hg0 | hg0
  ·refine wl_set 40 rfl (congrArg Value.bool hg0) ?_
   have hw0 : winBad u0 u1 = true := by unfold winBad; simp [hg0]
   refine goff rfl rfl rfl (goff rfl rfl rfl (goff rfl rfl rfl (pt_ rfl rfl (nn_ (ct_ rfl (sr_ (sg_ rfl (nn_ ?_))))))))
   refine gw_ret ?_
   refine nx_blk_ret (nx_then_ret (nx_then_ret (nx_blk_ret (nx_blk_ret (nx_then_ret (nx_then_ret (nx_blk_ret (nx_then_ret ?_))))))))
   have hE : stationE (prevOf l k) ⟨key, [u0, u1, u2, u3, u4, u5, u6, u7, u8, u9, u10, u11, u12, u13]⟩ = 1 := by rw [hE0]; simp [hw0]
   refine nx_ret1 rfl rfl fun wx hm => ?_
   exact ⟨ret_int (by rw [hse, hinv.2, hat, if_neg (by rw [hE]; decide), hE]), hm.g⟩
  refine wl_set 40 rfl (congrArg Value.bool hg0) ?_
  refine wl_guard_on rfl rfl rfl (fd_ fo55_1 rfl rfl (wl_guard_on rfl rfl rfl (lk_ sc3 0 rfl rfl rfl (wl_guard_on rfl rfl rfl ?_))))
  refine wl_ov (ov_gtr rfl rfl) rfl ?_
  refine pf_ rfl rfl (nn_ ?_)
  refine gw_cond rfl (fun hh => ?_) (fun hh => ?_)
  ·have hh0 : 1440 < u1 := by simpa using hh
   clear hh
   refine sr_ ?_
   have hw0 : winBad u0 u1 = true := by unfold winBad; simp [hg0, hh0]
   refine sg_ rfl (nn_ ?_)
   refine gw_ret ?_
   refine nx_blk_ret (nx_then_ret (nx_then_ret (nx_blk_ret (nx_blk_ret (nx_then_ret (nx_then_ret (nx_blk_ret (nx_then_ret ?_))))))))
   have hE : stationE (prevOf l k) ⟨key, [u0, u1, u2, u3, u4, u5, u6, u7, u8, u9, u10, u11, u12, u13]⟩ = 1 := by rw [hE0]; simp [hw0]
   refine nx_ret1 rfl rfl fun wx hm => ?_
   exact ⟨ret_int (by rw [hse, hinv.2, hat, if_neg (by rw [hE]; decide), hE]), hm.g⟩
  have hh0 : ¬ (1440 < u1) := by simpa using hh
  clear hh
  refine gw_skip (nx_blk_nrm (nx_then (gw_region ?_)))
  have hw0 : winBad u0 u1 = false := by unfold winBad; simp at hg0; simp [hg0]; omega
  refine ad_ rfl rfl ?_
  refine wl_set 45 (v' := .int .i64 1) rfl rfl ?_
  refine mv_ rfl (wl_nil ?_)
  refine nx_next ?_
  refine gr_next ?_
  refine sr_ (wl_ov (ov_lss rfl rfl) rfl ?_)
  refine wl_set 32 (v' := .bool true) rfl (congrArg Value.bool (by decide)) ?_
  refine nn_ (gw_seq (ct_ rfl (gw_skip (nx_then (gw_seq (gw_block (sr_ ?_)))))))
  refine wl_ov (ov_indexA (e := 55) (len := 7) (sz := 2) (i := 1) (cs := [.int .i64 u0, .int .i64 u1, .int .i64 u2, .int .i64 u3, .int .i64 u4, .int .i64 u5, .int .i64 u6, .int .i64 u7, .int .i64 u8, .int .i64 u9, .int .i64 u10, .int .i64 u11, .int .i64 u12, .int .i64 u13]) (vs := [.int .i64 u2, .int .i64 u3]) (by kernel_rfl) rfl rfl (by decide) rfl) rfl ?_
  refine wl_alloc zc55 rfl fun g3 => ?_
  refine wl_stores (cs' := [.int .i64 u2, .int .i64 u3]) 0 rz55 rfl rfl rfl rfl rfl rfl rfl rfl ?_
  refine nn_ (sr_ (fd_ fo55_0 rfl rfl (lk_ sc3 0 rfl rfl rfl (fd_ fo55_1 rfl rfl (lk_ sc3 0 rfl rfl rfl ?_)))))
  refine wl_callw rfl cb70 rfl rfl (fun wx hm => (rin_any _ _ _ wx)) ?_
  refine wl_ov (ov_un_not rfl) rfl (mv_ rfl ?_)
  rcases Bool.eq_false_or_eq_true (!(inB u2 0 u3)) with hg1 | hg1
  ·refine wl_set 40 rfl (congrArg Value.bool hg1) ?_
   have hw1 : winBad u2 u3 = true := by unfold winBad; simp [hg1]
   refine goff rfl rfl rfl (goff rfl rfl rfl (goff rfl rfl rfl (pt_ rfl rfl (nn_ (ct_ rfl (sr_ (sg_ rfl (nn_ ?_))))))))
   refine gw_ret ?_
   refine nx_blk_ret (nx_then_ret (nx_then_ret (nx_blk_ret (nx_blk_ret (nx_then_ret (nx_then_ret (nx_blk_ret (nx_then_ret ?_))))))))
   have hE : stationE (prevOf l k) ⟨key, [u0, u1, u2, u3, u4, u5, u6, u7, u8, u9, u10, u11, u12, u13]⟩ = 1 := by rw [hE0]; simp [hw0, hw1]
   refine nx_ret1 rfl rfl fun wx hm => ?_
   exact ⟨ret_int (by rw [hse, hinv.2, hat, if_neg (by rw [hE]; decide), hE]), hm.g⟩
  refine wl_set 40 rfl (congrArg Value.bool hg1) ?_
  refine wl_guard_on rfl rfl rfl (fd_ fo55_1 rfl rfl (wl_guard_on rfl rfl rfl (lk_ sc3 0 rfl rfl rfl (wl_guard_on rfl rfl rfl ?_))))
  refine wl_ov (ov_gtr rfl rfl) rfl ?_
  refine pf_ rfl rfl (nn_ ?_)
  refine gw_cond rfl (fun hh => ?_) (fun hh => ?_)
  ·have hh1 : 1440 < u3 := by simpa using hh
   clear hh
   refine sr_ ?_
   have hw1 : winBad u2 u3 = true := by unfold winBad; simp [hg1, hh1]
   refine sg_ rfl (nn_ ?_)
   refine gw_ret ?_
   refine nx_blk_ret (nx_then_ret (nx_then_ret (nx_blk_ret (nx_blk_ret (nx_then_ret (nx_then_ret (nx_blk_ret (nx_then_ret ?_))))))))
   have hE : stationE (prevOf l k) ⟨key, [u0, u1, u2, u3, u4, u5, u6, u7, u8, u9, u10, u11, u12, u13]⟩ = 1 := by rw [hE0]; simp [hw0, hw1]
   refine nx_ret1 rfl rfl fun wx hm => ?_
   exact ⟨ret_int (by rw [hse, hinv.2, hat, if_neg (by rw [hE]; decide), hE]), hm.g⟩
  have hh1 : ¬ (1440 < u3) := by simpa using hh
  clear hh
  refine gw_skip (nx_blk_nrm (nx_then (gw_region ?_)))
  have hw1 : winBad u2 u3 = false := by unfold winBad; simp at hg1; simp [hg1]; omega
  refine ad_ rfl rfl ?_
  refine wl_set 45 (v' := .int .i64 2) rfl rfl ?_
  refine mv_ rfl (wl_nil ?_)
  refine nx_next ?_
  refine gr_next ?_
  refine sr_ (wl_ov (ov_lss rfl rfl) rfl ?_)
  refine wl_set 32 (v' := .bool true) rfl (congrArg Value.bool (by decide)) ?_
  refine nn_ (gw_seq (ct_ rfl (gw_skip (nx_then (gw_seq (gw_block (sr_ ?_)))))))
  refine wl_ov (ov_indexA (e := 55) (len := 7) (sz := 2) (i := 2) (cs := [.int .i64 u0, .int .i64 u1, .int .i64 u2, .int .i64 u3, .int .i64 u4, .int .i64 u5, .int .i64 u6, .int .i64 u7, .int .i64 u8, .int .i64 u9, .int .i64 u10, .int .i64 u11, .int .i64 u12, .int .i64 u13]) (vs := [.int .i64 u4, .int .i64 u5]) (by kernel_rfl) rfl rfl (by decide) rfl) rfl ?_
  refine wl_alloc zc55 rfl fun g4 => ?_
  refine wl_stores (cs' := [.int .i64 u4, .int .i64 u5]) 0 rz55 rfl rfl rfl rfl rfl rfl rfl rfl ?_
  refine nn_ (sr_ (fd_ fo55_0 rfl rfl (lk_ sc3 0 rfl rfl rfl (fd_ fo55_1 rfl rfl (lk_ sc3 0 rfl rfl rfl ?_)))))
  refine wl_callw rfl cb70 rfl rfl (fun wx hm => (rin_any _ _ _ wx)) ?_
  refine wl_ov (ov_un_not rfl) rfl (mv_ rfl ?_)
  rcases Bool.eq_false_or_eq_true (!(inB u4 0 u5)) with hg2 | hg2
  ·refine wl_set 40 rfl (congrArg Value.bool hg2) ?_
   have hw2 : winBad u4 u5 = true := by unfold winBad; simp [hg2]
   refine goff rfl rfl rfl (goff rfl rfl rfl (goff rfl rfl rfl (pt_ rfl rfl (nn_ (ct_ rfl (sr_ (sg_ rfl (nn_ ?_))))))))
   refine gw_ret ?_
   refine nx_blk_ret (nx_then_ret (nx_then_ret (nx_blk_ret (nx_blk_ret (nx_then_ret (nx_then_ret (nx_blk_ret (nx_then_ret ?_))))))))
   have hE : stationE (prevOf l k) ⟨key, [u0, u1, u2, u3, u4, u5, u6, u7, u8, u9, u10, u11, u12, u13]⟩ = 1 := by rw [hE0]; simp [hw0, hw1, hw2]
   refine nx_ret1 rfl rfl fun wx hm => ?_
   exact ⟨ret_int (by rw [hse, hinv.2, hat, if_neg (by rw [hE]; decide), hE]), hm.g⟩
  refine wl_set 40 rfl (congrArg Value.bool hg2) ?_
  refine wl_guard_on rfl rfl rfl (fd_ fo55_1 rfl rfl (wl_guard_on rfl rfl rfl (lk_ sc3 0 rfl rfl rfl (wl_guard_on rfl rfl rfl ?_))))
  refine wl_ov (ov_gtr rfl rfl) rfl ?_
  refine pf_ rfl rfl (nn_ ?_)
  refine gw_cond rfl (fun hh => ?_) (fun hh => ?_)
  ·have hh2 : 1440 < u5 := by simpa using hh
   clear hh
   refine sr_ ?_
   have hw2 : winBad u4 u5 = true := by unfold winBad; simp [hg2, hh2]
   refine sg_ rfl (nn_ ?_)
   refine gw_ret ?_
   refine nx_blk_ret (nx_then_ret (nx_then_ret (nx_blk_ret (nx_blk_ret (nx_then_ret (nx_then_ret (nx_blk_ret (nx_then_ret ?_))))))))
   have hE : stationE (prevOf l k) ⟨key, [u0, u1, u2, u3, u4, u5, u6, u7, u8, u9, u10, u11, u12, u13]⟩ = 1 := by rw [hE0]; simp [hw0, hw1, hw2]
   refine nx_ret1 rfl rfl fun wx hm => ?_
   exact ⟨ret_int (by rw [hse, hinv.2, hat, if_neg (by rw [hE]; decide), hE]), hm.g⟩
  have hh2 : ¬ (1440 < u5) := by simpa using hh
  clear hh
  refine gw_skip (nx_blk_nrm (nx_then (gw_region ?_)))
  have hw2 : winBad u4 u5 = false := by unfold winBad; simp at hg2; simp [hg2]; omega
  refine ad_ rfl rfl ?_
  refine wl_set 45 (v' := .int .i64 3) rfl rfl ?_
  refine mv_ rfl (wl_nil ?_)
  refine nx_next ?_
  refine gr_next ?_
  refine sr_ (wl_ov (ov_lss rfl rfl) rfl ?_)
  refine wl_set 32 (v' := .bool true) rfl (congrArg Value.bool (by decide)) ?_
  refine nn_ (gw_seq (ct_ rfl (gw_skip (nx_then (gw_seq (gw_block (sr_ ?_)))))))
  refine wl_ov (ov_indexA (e := 55) (len := 7) (sz := 2) (i := 3) (cs := [.int .i64 u0, .int .i64 u1, .int .i64 u2, .int .i64 u3, .int .i64 u4, .int .i64 u5, .int .i64 u6, .int .i64 u7, .int .i64 u8, .int .i64 u9, .int .i64 u10, .int .i64 u11, .int .i64 u12, .int .i64 u13]) (vs := [.int .i64 u6, .int .i64 u7]) (by kernel_rfl) rfl rfl (by decide) rfl) rfl ?_
  refine wl_alloc zc55 rfl fun g5 => ?_
  refine wl_stores (cs' := [.int .i64 u6, .int .i64 u7]) 0 rz55 rfl rfl rfl rfl rfl rfl rfl rfl ?_
  refine nn_ (sr_ (fd_ fo55_0 rfl rfl (lk_ sc3 0 rfl rfl rfl (fd_ fo55_1 rfl rfl (lk_ sc3 0 rfl rfl rfl ?_)))))
  refine wl_callw rfl cb70 rfl rfl (fun wx hm => (rin_any _ _ _ wx)) ?_
  refine wl_ov (ov_un_not rfl) rfl (mv_ rfl ?_)
  rcases Bool.eq_false_or_eq_true (!(inB u6 0 u7)) with hg3 | hg3
  ·refine wl_set 40 rfl (congrArg Value.bool hg3) ?_
   have hw3 : winBad u6 u7 = true := by unfold winBad; simp [hg3]
   refine goff rfl rfl rfl (goff rfl rfl rfl (goff rfl rfl rfl (pt_ rfl rfl (nn_ (ct_ rfl (sr_ (sg_ rfl (nn_ ?_))))))))
   refine gw_ret ?_
   refine nx_blk_ret (nx_then_ret (nx_then_ret (nx_blk_ret (nx_blk_ret (nx_then_ret (nx_then_ret (nx_blk_ret (nx_then_ret ?_))))))))
   have hE : stationE (prevOf l k) ⟨key, [u0, u1, u2, u3, u4, u5, u6, u7, u8, u9, u10, u11, u12, u13]⟩ = 1 := by rw [hE0]; simp [hw0, hw1, hw2, hw3]
   refine nx_ret1 rfl rfl fun wx hm => ?_
   exact ⟨ret_int (by rw [hse, hinv.2, hat, if_neg (by rw [hE]; decide), hE]), hm.g⟩
  refine wl_set 40 rfl (congrArg Value.bool hg3) ?_
  refine wl_guard_on rfl rfl rfl (fd_ fo55_1 rfl rfl (wl_guard_on rfl rfl rfl (lk_ sc3 0 rfl rfl rfl (wl_guard_on rfl rfl rfl ?_))))
  refine wl_ov (ov_gtr rfl rfl) rfl ?_
  refine pf_ rfl rfl (nn_ ?_)
  refine gw_cond rfl (fun hh => ?_) (fun hh => ?_)
  ·have hh3 : 1440 < u7 := by simpa using hh
   clear hh
   refine sr_ ?_
   have hw3 : winBad u6 u7 = true := by unfold winBad; simp [hg3, hh3]
   refine sg_ rfl (nn_ ?_)
   refine gw_ret ?_
   refine nx_blk_ret (nx_then_ret (nx_then_ret (nx_blk_ret (nx_blk_ret (nx_then_ret (nx_then_ret (nx_blk_ret (nx_then_ret ?_))))))))
   have hE : stationE (prevOf l k) ⟨key, [u0, u1, u2, u3, u4, u5, u6, u7, u8, u9, u10, u11, u12, u13]⟩ = 1 := by rw [hE0]; simp [hw0, hw1, hw2, hw3]
   refine nx_ret1 rfl rfl fun wx hm => ?_
   exact ⟨ret_int (by rw [hse, hinv.2, hat, if_neg (by rw [hE]; decide), hE]), hm.g⟩
  have hh3 : ¬ (1440 < u7) := by simpa using hh
  clear hh
  refine gw_skip (nx_blk_nrm (nx_then (gw_region ?_)))
  have hw3 : winBad u6 u7 = false := by unfold winBad; simp at hg3; simp [hg3]; omega
  refine ad_ rfl rfl ?_
  refine wl_set 45 (v' := .int .i64 4) rfl rfl ?_
  refine mv_ rfl (wl_nil ?_)
  refine nx_next ?_
  refine gr_next ?_
  refine sr_ (wl_ov (ov_lss rfl rfl) rfl ?_)
  refine wl_set 32 (v' := .bool true) rfl (congrArg Value.bool (by decide)) ?_
  refine nn_ (gw_seq (ct_ rfl (gw_skip (nx_then (gw_seq (gw_block (sr_ ?_)))))))
  refine wl_ov (ov_indexA (e := 55) (len := 7) (sz := 2) (i := 4) (cs := [.int .i64 u0, .int .i64 u1, .int .i64 u2, .int .i64 u3, .int .i64 u4, .int .i64 u5, .int .i64 u6, .int .i64 u7, .int .i64 u8, .int .i64 u9, .int .i64 u10, .int .i64 u11, .int .i64 u12, .int .i64 u13]) (vs := [.int .i64 u8, .int .i64 u9]) (by kernel_rfl) rfl rfl (by decide) rfl) rfl ?_
  refine wl_alloc zc55 rfl fun g6 => ?_
  refine wl_stores (cs' := [.int .i64 u8, .int .i64 u9]) 0 rz55 rfl rfl rfl rfl rfl rfl rfl rfl ?_
  refine nn_ (sr_ (fd_ fo55_0 rfl rfl (lk_ sc3 0 rfl rfl rfl (fd_ fo55_1 rfl rfl (lk_ sc3 0 rfl rfl rfl ?_)))))
  refine wl_callw rfl cb70 rfl rfl (fun wx hm => (rin_any _ _ _ wx)) ?_
  refine wl_ov (ov_un_not rfl) rfl (mv_ rfl ?_)
  rcases Bool.eq_false_or_eq_true (!(inB u8 0 u9)) with hg4 | hg4
  ·refine wl_set 40 rfl (congrArg Value.bool hg4) ?_
   have hw4 : winBad u8 u9 = true := by unfold winBad; simp [hg4]
   refine goff rfl rfl rfl (goff rfl rfl rfl (goff rfl rfl rfl (pt_ rfl rfl (nn_ (ct_ rfl (sr_ (sg_ rfl (nn_ ?_))))))))
   refine gw_ret ?_
   refine nx_blk_ret (nx_then_ret (nx_then_ret (nx_blk_ret (nx_blk_ret (nx_then_ret (nx_then_ret (nx_blk_ret (nx_then_ret ?_))))))))
   have hE : stationE (prevOf l k) ⟨key, [u0, u1, u2, u3, u4, u5, u6, u7, u8, u9, u10, u11, u12, u13]⟩ = 1 := by rw [hE0]; simp [hw0, hw1, hw2, hw3, hw4]
   refine nx_ret1 rfl rfl fun wx hm => ?_
   exact ⟨ret_int (by rw [hse, hinv.2, hat, if_neg (by rw [hE]; decide), hE]), hm.g⟩
  refine wl_set 40 rfl (congrArg Value.bool hg4) ?_
  refine wl_guard_on rfl rfl rfl (fd_ fo55_1 rfl rfl (wl_guard_on rfl rfl rfl (lk_ sc3 0 rfl rfl rfl (wl_guard_on rfl rfl rfl ?_))))
  refine wl_ov (ov_gtr rfl rfl) rfl ?_
  refine pf_ rfl rfl (nn_ ?_)
  refine gw_cond rfl (fun hh => ?_) (fun hh => ?_)
  ·have hh4 : 1440 < u9 := by simpa using hh
   clear hh
   refine sr_ ?_
   have hw4 : winBad u8 u9 = true := by unfold winBad; simp [hg4, hh4]
   refine sg_ rfl (nn_ ?_)
   refine gw_ret ?_
   refine nx_blk_ret (nx_then_ret (nx_then_ret (nx_blk_ret (nx_blk_ret (nx_then_ret (nx_then_ret (nx_blk_ret (nx_then_ret ?_))))))))
   have hE : stationE (prevOf l k) ⟨key, [u0, u1, u2, u3, u4, u5, u6, u7, u8, u9, u10, u11, u12, u13]⟩ = 1 := by rw [hE0]; simp [hw0, hw1, hw2, hw3, hw4]
   refine nx_ret1 rfl rfl fun wx hm => ?_
   exact ⟨ret_int (by rw [hse, hinv.2, hat, if_neg (by rw [hE]; decide), hE]), hm.g⟩
  have hh4 : ¬ (1440 < u9) := by simpa using hh
  clear hh
  refine gw_skip (nx_blk_nrm (nx_then (gw_region ?_)))
  have hw4 : winBad u8 u9 = false := by unfold winBad; simp at hg4; simp [hg4]; omega
  refine ad_ rfl rfl ?_
  refine wl_set 45 (v' := .int .i64 5) rfl rfl ?_
  refine mv_ rfl (wl_nil ?_)
  refine nx_next ?_
  refine gr_next ?_
  refine sr_ (wl_ov (ov_lss rfl rfl) rfl ?_)
  refine wl_set 32 (v' := .bool true) rfl (congrArg Value.bool (by decide)) ?_
  refine nn_ (gw_seq (ct_ rfl (gw_skip (nx_then (gw_seq (gw_block (sr_ ?_)))))))
  refine wl_ov (ov_indexA (e := 55) (len := 7) (sz := 2) (i := 5) (cs := [.int .i64 u0, .int .i64 u1, .int .i64 u2, .int .i64 u3, .int .i64 u4, .int .i64 u5, .int .i64 u6, .int .i64 u7, .int .i64 u8, .int .i64 u9, .int .i64 u10, .int .i64 u11, .int .i64 u12, .int .i64 u13]) (vs := [.int .i64 u10, .int .i64 u11]) (by kernel_rfl) rfl rfl (by decide) rfl) rfl ?_
  refine wl_alloc zc55 rfl fun g7 => ?_
  refine wl_stores (cs' := [.int .i64 u10, .int .i64 u11]) 0 rz55 rfl rfl rfl rfl rfl rfl rfl rfl ?_
  refine nn_ (sr_ (fd_ fo55_0 rfl rfl (lk_ sc3 0 rfl rfl rfl (fd_ fo55_1 rfl rfl (lk_ sc3 0 rfl rfl rfl ?_)))))
  refine wl_callw rfl cb70 rfl rfl (fun wx hm => (rin_any _ _ _ wx)) ?_
  refine wl_ov (ov_un_not rfl) rfl (mv_ rfl ?_)
  rcases Bool.eq_false_or_eq_true (!(inB u10 0 u11)) with hg5 | hg5
  ·refine wl_set 40 rfl (congrArg Value.bool hg5) ?_
   have hw5 : winBad u10 u11 = true := by unfold winBad; simp [hg5]
   refine goff rfl rfl rfl (goff rfl rfl rfl (goff rfl rfl rfl (pt_ rfl rfl (nn_ (ct_ rfl (sr_ (sg_ rfl (nn_ ?_))))))))
   refine gw_ret ?_
   refine nx_blk_ret (nx_then_ret (nx_then_ret (nx_blk_ret (nx_blk_ret (nx_then_ret (nx_then_ret (nx_blk_ret (nx_then_ret ?_))))))))
   have hE : stationE (prevOf l k) ⟨key, [u0, u1, u2, u3, u4, u5, u6, u7, u8, u9, u10, u11, u12, u13]⟩ = 1 := by rw [hE0]; simp [hw0, hw1, hw2, hw3, hw4, hw5]
   refine nx_ret1 rfl rfl fun wx hm => ?_
   exact ⟨ret_int (by rw [hse, hinv.2, hat, if_neg (by rw [hE]; decide), hE]), hm.g⟩
  refine wl_set 40 rfl (congrArg Value.bool hg5) ?_
  refine wl_guard_on rfl rfl rfl (fd_ fo55_1 rfl rfl (wl_guard_on rfl rfl rfl (lk_ sc3 0 rfl rfl rfl (wl_guard_on rfl rfl rfl ?_))))
  refine wl_ov (ov_gtr rfl rfl) rfl ?_
  refine pf_ rfl rfl (nn_ ?_)
  refine gw_cond rfl (fun hh => ?_) (fun hh => ?_)
  ·have hh5 : 1440 < u11 := by simpa using hh
   clear hh
   refine sr_ ?_
   have hw5 : winBad u10 u11 = true := by unfold winBad; simp [hg5, hh5]
   refine sg_ rfl (nn_ ?_)
   refine gw_ret ?_
   refine nx_blk_ret (nx_then_ret (nx_then_ret (nx_blk_ret (nx_blk_ret (nx_then_ret (nx_then_ret (nx_blk_ret (nx_then_ret ?_))))))))
   have hE : stationE (prevOf l k) ⟨key, [u0, u1, u2, u3, u4, u5, u6, u7, u8, u9, u10, u11, u12, u13]⟩ = 1 := by rw [hE0]; simp [hw0, hw1, hw2, hw3, hw4, hw5]
   refine nx_ret1 rfl rfl fun wx hm => ?_
   exact ⟨ret_int (by rw [hse, hinv.2, hat, if_neg (by rw [hE]; decide), hE]), hm.g⟩
  have hh5 : ¬ (1440 < u11) := by simpa using hh
  clear hh
  refine gw_skip (nx_blk_nrm (nx_then (gw_region ?_)))
  have hw5 : winBad u10 u11 = false := by unfold winBad; simp at hg5; simp [hg5]; omega
  refine ad_ rfl rfl ?_
  refine wl_set 45 (v' := .int .i64 6) rfl rfl ?_
  refine mv_ rfl (wl_nil ?_)
  refine nx_next ?_
  refine gr_next ?_
  refine sr_ (wl_ov (ov_lss rfl rfl) rfl ?_)
  refine wl_set 32 (v' := .bool true) rfl (congrArg Value.bool (by decide)) ?_
  refine nn_ (gw_seq (ct_ rfl (gw_skip (nx_then (gw_seq (gw_block (sr_ ?_)))))))
  refine wl_ov (ov_indexA (e := 55) (len := 7) (sz := 2) (i := 6) (cs := [.int .i64 u0, .int .i64 u1, .int .i64 u2, .int .i64 u3, .int .i64 u4, .int .i64 u5, .int .i64 u6, .int .i64 u7, .int .i64 u8, .int .i64 u9, .int .i64 u10, .int .i64 u11, .int .i64 u12, .int .i64 u13]) (vs := [.int .i64 u12, .int .i64 u13]) (by kernel_rfl) rfl rfl (by decide) rfl) rfl ?_
  refine wl_alloc zc55 rfl fun g8 => ?_
  refine wl_stores (cs' := [.int .i64 u12, .int .i64 u13]) 0 rz55 rfl rfl rfl rfl rfl rfl rfl rfl ?_
  refine nn_ (sr_ (fd_ fo55_0 rfl rfl (lk_ sc3 0 rfl rfl rfl (fd_ fo55_1 rfl rfl (lk_ sc3 0 rfl rfl rfl ?_)))))
  refine wl_callw rfl cb70 rfl rfl (fun wx hm => (rin_any _ _ _ wx)) ?_
  refine wl_ov (ov_un_not rfl) rfl (mv_ rfl ?_)
  rcases Bool.eq_false_or_eq_true (!(inB u12 0 u13)) with hg6 | hg6
  ·refine wl_set 40 rfl (congrArg Value.bool hg6) ?_
   have hw6 : winBad u12 u13 = true := by unfold winBad; simp [hg6]
   refine goff rfl rfl rfl (goff rfl rfl rfl (goff rfl rfl rfl (pt_ rfl rfl (nn_ (ct_ rfl (sr_ (sg_ rfl (nn_ ?_))))))))
   refine gw_ret ?_
   refine nx_blk_ret (nx_then_ret (nx_then_ret (nx_blk_ret (nx_blk_ret (nx_then_ret (nx_then_ret (nx_blk_ret (nx_then_ret ?_))))))))
   have hE : stationE (prevOf l k) ⟨key, [u0, u1, u2, u3, u4, u5, u6, u7, u8, u9, u10, u11, u12, u13]⟩ = 1 := by rw [hE0]; simp [hw0, hw1, hw2, hw3, hw4, hw5, hw6]
   refine nx_ret1 rfl rfl fun wx hm => ?_
   exact ⟨ret_int (by rw [hse, hinv.2, hat, if_neg (by rw [hE]; decide), hE]), hm.g⟩
  refine wl_set 40 rfl (congrArg Value.bool hg6) ?_
  refine wl_guard_on rfl rfl rfl (fd_ fo55_1 rfl rfl (wl_guard_on rfl rfl rfl (lk_ sc3 0 rfl rfl rfl (wl_guard_on rfl rfl rfl ?_))))
  refine wl_ov (ov_gtr rfl rfl) rfl ?_
  refine pf_ rfl rfl (nn_ ?_)
  refine gw_cond rfl (fun hh => ?_) (fun hh => ?_)
  ·have hh6 : 1440 < u13 := by simpa using hh
   clear hh
   refine sr_ ?_
   have hw6 : winBad u12 u13 = true := by unfold winBad; simp [hg6, hh6]
   refine sg_ rfl (nn_ ?_)
   refine gw_ret ?_
   refine nx_blk_ret (nx_then_ret (nx_then_ret (nx_blk_ret (nx_blk_ret (nx_then_ret (nx_then_ret (nx_blk_ret (nx_then_ret ?_))))))))
   have hE : stationE (prevOf l k) ⟨key, [u0, u1, u2, u3, u4, u5, u6, u7, u8, u9, u10, u11, u12, u13]⟩ = 1 := by rw [hE0]; simp [hw0, hw1, hw2, hw3, hw4, hw5, hw6]
   refine nx_ret1 rfl rfl fun wx hm => ?_
   exact ⟨ret_int (by rw [hse, hinv.2, hat, if_neg (by rw [hE]; decide), hE]), hm.g⟩
  have hh6 : ¬ (1440 < u13) := by simpa using hh
  clear hh
  refine gw_skip (nx_blk_nrm (nx_then (gw_region ?_)))
  have hw6 : winBad u12 u13 = false := by unfold winBad; simp at hg6; simp [hg6]; omega
  have hE : stationE (prevOf l k) ⟨key, [u0, u1, u2, u3, u4, u5, u6, u7, u8, u9, u10, u11, u12, u13]⟩ = 0 := by rw [hE0]; simp [hw0, hw1, hw2, hw3, hw4, hw5, hw6]
  refine ad_ rfl rfl ?_
  refine wl_set 45 (v' := .int .i64 7) rfl rfl ?_
  refine mv_ rfl (wl_nil ?_)
  refine nx_next ?_
  refine gr_next ?_
  refine sr_ (wl_ov (ov_lss rfl rfl) rfl ?_)
  refine wl_set 32 (v' := .bool false) rfl (congrArg Value.bool (by decide)) ?_
  refine nn_ (gw_seq (cf_ rfl ?_))
  refine gw_exit ?_
  refine nx_then_exit (nx_then_exit ?_)
  refine nx_blk_here ?_
  refine nx_blk_nrm (nx_then (gw_region (ad_ rfl rfl (mv_ rfl (wl_nil ?_)))))
  exact nx_round (k + 1) ⟨by omega, by rw [hinv.2, hat, if_pos hE]⟩ (by omega) ⟨(congrArg (fun z => some (Value.string z)) (prevSt_succ hx).symm), rfl, rfl, (some_int (by omega)), trivial⟩ (fun _ hm => hm.pick [] [] [0] rfl rfl)
 have hk : ¬ (((k : Nat) : Int) < ((n : Nat) : Int)) := by simpa using hh
 clear hh
 refine gw_exit ?_
 refine nx_then_exit (nx_then_exit ?_)
 refine nx_blk_here ?_
 refine nx_then (sr_ (sg_ rfl (nn_ ?_)))
 refine gw_ret ?_
 refine nx_ret1 rfl rfl fun wx hm => ?_
 exact ⟨ret_int (by rw [hse, hinv.2, scanE_end _ _ _ _ (by omega)]), hm.g⟩
end Go.Proofs.YtiendebcdicjnaaGreatDoor
namespace Go.Proofs.YtiendebcdicjnaaGreatDoor
open Go.RowKit
def prevVh (l : List Vh) (k : Nat) : ByteArray := match prevOf l k with
  | none => ⟨#[]⟩
  | some q => q.key
theorem prevVh_succ {l : List Vh} {k : Nat} {x : Vh} (h : l[k]? = some x) : prevVh l (k + 1) = x.key := by
  unfold prevVh prevOf; rw [if_neg (by omega), Nat.add_sub_cancel, h]
theorem prevVh_le {l : List Vh} {k : Nat} {b : Vh} (h : keyB b.key = true) : leB b.key (prevVh l k) = leVh (prevOf l k) b := by
  unfold prevVh leVh
  cases prevOf l k with
  | none => exact key_low h
  | some q => rfl
theorem ix_dec {α : Type} {p : α → Bool} {l : List α} : decide (0 ≤ ixP p l 0) = l.any p := ix_any
theorem twin_any (pf : Int) (pv pp : ByteArray) (of : Int) (ov op : ByteArray) (gp : Nat) (w : World) (hk : Blk w gp 151 [.int .i64 pf, .string pv, .string pp]) :
  Calls Tryz.prog 133 #[.agg #[.int .i64 of, .string ov, .string op], .pointer (some ⟨gp, 0, none⟩)] w (fun e w' => e = .returned (.bool (plTwin ⟨pf, pv, pp⟩ ⟨of, ov, op⟩)) ∧ w.grownBy w' none) := by
 refine gw_enter ⟨23, w, none, []⟩ Tryz.func133 rfl Tryz.ntmps133 rfl (mem0 (X := [BlkOld w.heap.size none gp 151 [.int .i64 pf, .string pv, .string pp]]) (allF_cons hk.old allF_nil) (allL_cons BlkOld.lasts allL_nil)) ?_
 refine sr_ ?_
 refine wl_box rfl rfl rfl fun g1 => ?_
 refine sg_ rfl (nn_ (sr_ (fd_ fo151_0 rfl rfl (lk_ sc3 0 rfl rfl rfl (fd_ fo151_0 rfl rfl ?_)))))
 refine wl_ov (ov_load (v := .int .i64 pf) sc3 rfl (fun _ hm => (hm.fact 0 rfl).2) rfl) rfl ?_
 refine wl_ov (ov_eql rfl rfl) rfl (mv_ rfl ?_)
 rcases Bool.eq_false_or_eq_true (decide (of = pf)) with h1 | h1
 ·refine wl_set 9 rfl (congrArg Value.bool h1) ?_
  refine wl_guard_on rfl rfl rfl (fd_ fo151_1 rfl rfl (wl_guard_on rfl rfl rfl (lk_ sc9 0 rfl rfl rfl (wl_guard_on rfl rfl rfl (fd_ fo151_1 rfl rfl (wl_guard_on rfl rfl rfl ?_))))))
  refine wl_ov (ov_load (v := .string pv) sc9 rfl (fun _ hm => (hm.fact 0 rfl).2) rfl) rfl ?_
  refine wl_guard_on rfl rfl rfl (wl_ov (ov_seql rfl rfl) rfl (wl_guard_on rfl rfl rfl (mv_ rfl ?_)))
  rcases Bool.eq_false_or_eq_true (ov.toList == pv.toList) with h2 | h2
  ·refine wl_set 15 rfl (congrArg Value.bool h2) ?_
   refine goff rfl rfl rfl (goff rfl rfl rfl (goff rfl rfl rfl (goff rfl rfl rfl (goff rfl rfl rfl (wl_guard_on rfl rfl rfl (pt_ rfl rfl (pt_ rfl rfl (sg_ rfl (nn_ ?_)))))))))
   refine gw_ret ?_
   refine nx_ret1 rfl rfl fun wx hm => ?_
   exact ⟨by unfold plTwin; simp only [h1, h2]; rfl, hm.g⟩
  refine wl_set 15 rfl (congrArg Value.bool h2) ?_
  refine wl_guard_on rfl rfl rfl (fd_ fo151_2 rfl rfl (wl_guard_on rfl rfl rfl (lk_ sc9 0 rfl rfl rfl (wl_guard_on rfl rfl rfl (fd_ fo151_2 rfl rfl (wl_guard_on rfl rfl rfl ?_))))))
  refine wl_ov (ov_load (v := .string pp) sc9 rfl (fun _ hm => (hm.fact 0 rfl).2) rfl) rfl ?_
  refine wl_guard_on rfl rfl rfl (wl_ov (ov_seql rfl rfl) rfl (wl_guard_on rfl rfl rfl (pf_ rfl rfl (pt_ rfl rfl (sg_ rfl (nn_ ?_))))))
  refine gw_ret ?_
  refine nx_ret1 rfl rfl fun wx hm => ?_
  exact ⟨by unfold plTwin; simp only [h1, h2]; rfl, hm.g⟩
 refine wl_set 9 rfl (congrArg Value.bool h1) ?_
 refine goff rfl rfl rfl (goff rfl rfl rfl (goff rfl rfl rfl (goff rfl rfl rfl (goff rfl rfl rfl (goff rfl rfl rfl (gnd rfl rfl rfl (gnd rfl rfl rfl (gnd rfl rfl rfl (gnd rfl rfl rfl (gnd rfl rfl rfl (goff rfl rfl rfl (pf_ rfl rfl (sg_ rfl ?_)))))))))))))
 refine nn_ ?_
 refine gw_ret ?_
 refine nx_ret1 rfl rfl fun wx hm => ?_
 exact ⟨by unfold plTwin; simp only [h1]; rfl, hm.g⟩
theorem twinIx_any (l : List Pl) (A : Option Addr) (n c0 : Nat) (pf : Int) (pv pp : ByteArray) (gp : Nat) (w : World) (hl : SlT plEnc 3 151 w A n l) (hn : n ≤ 1000000) (hk : Blk w gp 151 [.int .i64 pf, .string pv, .string pp]) :
  Calls Tryz.prog 204 #[.slice A n c0, .func (.func 133) #[] #[.pointer (some ⟨gp, 0, none⟩)]] w (GotE w (ixP (plTwin ⟨pf, pv, pp⟩) l 0)) := by
 refine gw_enter ⟨19, w, none, []⟩ Tryz.func204 rfl Tryz.ntmps204 rfl (mem0 (X := [SlOld plEnc 3 151 w.heap.size none A n l, BlkOld w.heap.size none gp 151 [.int .i64 pf, .string pv, .string pp]]) (allF_cons hl.old (allF_cons hk.old allF_nil)) (allL_cons SlOld.lasts (allL_cons BlkOld.lasts allL_nil))) ?_
 refine sr_ ?_
 have hlen := hl.len
 refine sg_ rfl (nn_ (gw_seq (sr_ (mv_ rfl (wl_ov (ov_len es29 rfl) rfl (mv_ rfl (nn_ (gw_block ?_))))))))
 refine gw_loop (γ := Nat) (fun (i : Nat) => i ≤ n ∧ ixP (plTwin ⟨pf, pv, pp⟩) l 0 = ixP (plTwin ⟨pf, pv, pp⟩) (l.drop i) i) (fun (i : Nat) => [(0, .slice A n c0), (1, .func (.func 133) #[] #[.pointer (some ⟨gp, 0, none⟩)]), (7, .int .i64 ((n : Nat) : Int)), (8, .int .i64 ((i : Nat) : Int))]) (fun (i : Nat) => fun _ => True) (fun (i : Nat) => []) (fun (i : Nat) => []) (fun (i : Nat) => [SlOld plEnc 3 151 w.heap.size none A n l, BlkOld w.heap.size none gp 151 [.int .i64 pf, .string pv, .string pp]]) (fun (i : Nat) => n - i) 0 ⟨Nat.zero_le _, rfl⟩ ⟨rfl, rfl, rfl, rfl, trivial⟩ (fun _ hm => hm.pick [] [] [0, 1] rfl rfl) ?_
 intro i hinv
 replace hinv : i ≤ n ∧ ixP (plTwin ⟨pf, pv, pp⟩) l 0 = ixP (plTwin ⟨pf, pv, pp⟩) (l.drop i) i := hinv
 refine sr_ (wl_ov (ov_lss rfl rfl) rfl (nn_ (gw_seq ?_)))
 refine gw_cond rfl (fun hh => ?_) (fun hh => ?_)
 ·have hi : ((i : Nat) : Int) < ((n : Nat) : Int) := by simpa using hh
  clear hh
  refine gw_skip (nx_then (gw_seq (gw_block (sr_ ?_))))
  obtain ⟨b, off, hA, _, _⟩ := hl.get (by omega)
  subst hA
  obtain ⟨x, hx⟩ : ∃ x, l[i]? = some x := ⟨_, List.getElem?_eq_getElem (by omega)⟩
  obtain ⟨of, ov, op⟩ := x
  have hat := ixP_at (p := plTwin ⟨pf, pv, pp⟩) hx
  refine mv_ rfl (sg_ rfl (nn_ (sr_ (mv_ rfl (mv_ rfl (mv_ rfl ?_))))))
  refine wl_ov (ov_index (j := i) es29 rfl rfl (by omega)) rfl ?_
  refine wl_ov (ov_elem (vs := [.int .i64 of, .string ov, .string op]) rz151 rfl (fun _ hm => (hm.fact 0 rfl).1) hx rfl rfl) rfl ?_
  refine wl_callv rfl cb133 rfl rfl (fun wx hm => (twin_any pf pv pp of ov op gp wx (hm.fact 1 rfl).2)) ?_
  refine nn_ ?_
  refine gw_cond rfl (fun hh => ?_) (fun hh => ?_)
  ·have hq : (plTwin ⟨pf, pv, pp⟩ ⟨of, ov, op⟩) = true := by simpa using hh
   clear hh
   refine sr_ (mv_ rfl (sg_ rfl (nn_ ?_)))
   refine gw_ret ?_
   refine nx_blk_ret (nx_then_ret (nx_then_ret (nx_blk_ret (nx_then_ret ?_))))
   refine nx_ret1 rfl rfl fun wx hm => ?_
   exact ⟨ret_int (by rw [hinv.2, hat, if_pos hq]), hm.g⟩
  have hq : (plTwin ⟨pf, pv, pp⟩ ⟨of, ov, op⟩) = false := by simpa using hh
  clear hh
  refine gw_skip (nx_blk_nrm (nx_then (gw_region (ad_ rfl rfl (mv_ rfl (wl_nil ?_))))))
  exact nx_round (i + 1) ⟨by omega, by rw [hinv.2, hat, if_neg (by rw [hq]; decide)]⟩ (by omega) ⟨rfl, rfl, rfl, (some_int (by omega)), trivial⟩ (fun _ hm => hm.pick [] [] [0, 1] rfl rfl)
 have hi : ¬ (((i : Nat) : Int) < ((n : Nat) : Int)) := by simpa using hh
 clear hh
 refine gw_exit ?_
 refine nx_then_exit (nx_then_exit ?_)
 refine nx_blk_here ?_
 refine nx_then (sr_ (sg_ rfl ?_))
 refine wl_set 4 (v' := .int .i64 (-1)) rfl rfl ?_
 refine nn_ ?_
 refine gw_ret ?_
 refine nx_ret1 rfl rfl fun wx hm => ?_
 exact ⟨ret_int (by rw [hinv.2, List.drop_eq_nil_of_le (by omega)]; rfl), hm.g⟩
theorem twinHas_any (l : List Pl) (A : Option Addr) (n c0 : Nat) (pf : Int) (pv pp : ByteArray) (gp : Nat) (w : World) (hl : SlT plEnc 3 151 w A n l) (hn : n ≤ 1000000) (hk : Blk w gp 151 [.int .i64 pf, .string pv, .string pp]) :
  Calls Tryz.prog 132 #[.slice A n c0, .func (.func 133) #[] #[.pointer (some ⟨gp, 0, none⟩)]] w (fun e w' => e = .returned (.bool (l.any (plTwin ⟨pf, pv, pp⟩))) ∧ w.grownBy w' none) := by
 refine gw_enter ⟨9, w, none, []⟩ Tryz.func132 rfl Tryz.ntmps132 rfl (mem0 (X := [SlOld plEnc 3 151 w.heap.size none A n l, BlkOld w.heap.size none gp 151 [.int .i64 pf, .string pv, .string pp]]) (allF_cons hl.old (allF_cons hk.old allF_nil)) (allL_cons SlOld.lasts (allL_cons BlkOld.lasts allL_nil))) ?_
 refine sr_ (sg_ rfl (nn_ (sr_ (mv_ rfl (mv_ rfl ?_)))))
 refine wl_callv rfl cb204 rfl rfl (fun wx hm => (twinIx_any l A n c0 pf pv pp gp wx (hm.fact 0 rfl).1 hn (hm.fact 1 rfl).2)) ?_
 refine wl_ov (ov_geq rfl rfl) rfl ?_
 refine sg_ rfl (nn_ ?_)
 refine gw_ret ?_
 refine nx_ret1 rfl rfl fun wx hm => ?_
 exact ⟨by rw [← ix_dec], hm.g⟩
theorem fleetFault_any (sl : List St) (cl : List Cs) (vl : List Vh) (pl : List Pl) (sA cA vA pA : Option Addr) (sn sc cn cc vn vc pn pc : Nat) (w : World) (hs : SlT stEnc 15 105 w sA sn sl) (hc : SlT csEnc 2 90 w cA cn cl) (hv : SlT vhEnc 2 57 w vA vn vl) (hp : SlT plEnc 3 151 w pA pn pl) (hsok : ∀ x ∈ sl, StOk x) (hcok : ∀ x ∈ cl, CsOk x) (hvok : ∀ x ∈ vl, VhOk x) (hpok : ∀ x ∈ pl, PlOk x) (hsn : sn ≤ 1000000) (hcn : cn ≤ 1000000) (hvn : vn ≤ 1000000) (hpn : pn ≤ 1000000) (hpc : pn ≤ pc) :
  Calls Tryz.prog 62 #[.agg #[.slice sA sn sc, .slice cA cn cc, .slice vA vn vc, .slice pA pn pc]] w (GotE w (fleetE sl cl vl pl)) := by
 refine gw_enter ⟨104, w, none, []⟩ Tryz.func62 rfl Tryz.ntmps62 rfl (mem0 (X := [SlOld stEnc 15 105 w.heap.size none sA sn sl, SlOld csEnc 2 90 w.heap.size none cA cn cl, SlOld vhEnc 2 57 w.heap.size none vA vn vl, SlOld plEnc 3 151 w.heap.size none pA pn pl]) (allF_cons hs.old (allF_cons hc.old (allF_cons hv.old (allF_cons hp.old allF_nil)))) (allL_cons SlOld.lasts (allL_cons SlOld.lasts (allL_cons SlOld.lasts (allL_cons SlOld.lasts allL_nil))))) ?_
 refine sr_ ?_
 have hlen := hv.len
 have hlenp := hp.len
 obtain ⟨SE, hSE⟩ : ∃ z, z = stationsE sl := ⟨_, rfl⟩
 obtain ⟨CE, hCE⟩ : ∃ z, z = classesE cl := ⟨_, rfl⟩
 obtain ⟨TE, hTE⟩ : ∃ z, z = fleetE sl cl vl pl := ⟨_, rfl⟩
 rw [← hTE]
 have hT0 : TE = firstE [SE, CE, vehsE cl vl, platesE vl pl] := by rw [hTE, hSE, hCE]; rfl
 refine wl_box rfl rfl rfl fun g1 => ?_
 refine sg_ rfl (nn_ (gw_seq (sr_ (fd_ fo31_0 rfl rfl (lk_ sc26 0 rfl rfl rfl ?_)))))
 refine wl_callv (v := .int .i64 SE) rfl cb126 rfl rfl (fun wx hm => (by rw [hSE]; exact stationsFault_any sl sA sn sc wx (hm.fact 0 rfl).1 hsok (by omega))) ?_
 refine sg_ rfl (nn_ (sr_ (mv_ rfl (wl_ov (ov_neq rfl rfl) rfl (nn_ ?_)))))
 refine gw_cond rfl (fun hh => ?_) (fun hh => ?_)
 ·have h1 : ¬ (SE = 0) := by simpa using hh
  clear hh
  refine sr_ ?_
  have h2 : SE ≠ 0 := by simpa using h1
  have h3 : TE = SE := by rw [hT0]; simp [firstE, h2]
  refine mv_ rfl (sg_ rfl (nn_ ?_))
  refine gw_ret ?_
  refine nx_then_ret ?_
  refine nx_ret1 rfl rfl fun wx hm => ?_
  exact ⟨ret_int (by rw [h3]), hm.g⟩
 have h1 : SE = 0 := by simpa using hh
 clear hh
 refine gw_skip (nx_then (gw_seq (sr_ ?_)))
 have hS0 : SE = 0 := by simpa using h1
 refine fd_ fo31_1 rfl rfl (lk_ sc27 0 rfl rfl rfl ?_)
 refine wl_callv (v := .int .i64 CE) rfl cb127 rfl rfl (fun wx hm => (by rw [hCE]; exact classesFault_any cl cA cn cc wx (hm.fact 1 rfl).1 hcok (by omega))) ?_
 refine sg_ rfl (nn_ (sr_ (mv_ rfl (wl_ov (ov_neq rfl rfl) rfl (nn_ ?_)))))
 refine gw_cond rfl (fun hh => ?_) (fun hh => ?_)
 ·have h2 : ¬ (CE = 0) := by simpa using hh
  clear hh
  refine sr_ ?_
  have h3 : CE ≠ 0 := by simpa using h2
  have h4 : TE = CE := by rw [hT0]; simp [firstE, hS0, h3]
  refine mv_ rfl (sg_ rfl (nn_ ?_))
  refine gw_ret ?_
  refine nx_then_ret ?_
  refine nx_ret1 rfl rfl fun wx hm => ?_
  exact ⟨ret_int (by rw [h4]), hm.g⟩
 have h2 : CE = 0 := by simpa using hh
 clear hh
 refine gw_skip (nx_then (gw_seq (sr_ ?_)))
 have hC0 : CE = 0 := by simpa using h2
 have hT1 : TE = firstE [vehsE cl vl, platesE vl pl] := by rw [hT0, hS0, hC0]; rfl
 refine fd_ fo31_2 rfl rfl (lk_ sc28 0 rfl rfl rfl (wl_ov (ov_len es28 rfl) rfl ?_))
 refine wl_ov (ov_gtr rfl rfl) rfl ?_
 refine nn_ ?_
 refine gw_cond rfl (fun hh => ?_) (fun hh => ?_)
 ·have h3 : 500 < ((vn : Nat) : Int) := by simpa using hh
  clear hh
  refine sr_ ?_
  have h4 : TE = 2 := by rw [hT1, show vehsE cl vl = 2 by unfold vehsE; rw [if_pos (by omega)]]; rfl
  refine sg_ rfl (nn_ ?_)
  refine gw_ret ?_
  refine nx_then_ret ?_
  refine nx_ret1 rfl rfl fun wx hm => ?_
  exact ⟨ret_int (by rw [h4]), hm.g⟩
 have h3 : ¬ (500 < ((vn : Nat) : Int)) := by simpa using hh
 clear hh
 refine gw_skip (nx_then (sr_ ?_))
 have hT2 : TE = firstE [scanE (vhE cl) none vl, platesE vl pl] := by rw [hT1]; unfold vehsE; rw [if_neg (by omega)]
 refine sg_ rfl (nn_ (gw_seq (sr_ (fd_ fo31_2 rfl rfl (lk_ sc28 0 rfl rfl rfl (wl_ov (ov_len es28 rfl) rfl (mv_ rfl (nn_ (gw_block ?_)))))))))
 refine gw_loop (γ := Nat) (fun (i : Nat) => i ≤ vn ∧ scanE (vhE cl) none vl = scanE (vhE cl) (prevOf vl i) (vl.drop i)) (fun (i : Nat) => [(1, .pointer (some ⟨g1, 0, none⟩)), (5, .string (prevVh vl i)), (28, .slice vA vn vc), (29, .int .i64 ((vn : Nat) : Int)), (30, .int .i64 ((i : Nat) : Int))]) (fun (i : Nat) => fun _ => True) (fun (i : Nat) => [(g1, 31, [.slice sA sn sc, .slice cA cn cc, .slice vA vn vc, .slice pA pn pc])]) (fun (i : Nat) => []) (fun (i : Nat) => [SlOld stEnc 15 105 w.heap.size none sA sn sl, SlOld csEnc 2 90 w.heap.size none cA cn cl, SlOld vhEnc 2 57 w.heap.size none vA vn vl, SlOld plEnc 3 151 w.heap.size none pA pn pl]) (fun (i : Nat) => vn - i) 0 ⟨Nat.zero_le _, rfl⟩ ⟨rfl, rfl, rfl, rfl, rfl, trivial⟩ (fun _ hm => hm.pick [0] [] [0, 1, 2, 3] rfl rfl) ?_
 intro i hinv
 replace hinv : i ≤ vn ∧ scanE (vhE cl) none vl = scanE (vhE cl) (prevOf vl i) (vl.drop i) := hinv
 refine sr_ ?_
 obtain ⟨hi0, hsc⟩ := hinv
 refine wl_ov (ov_lss rfl rfl) rfl (nn_ (gw_seq ?_))
 refine gw_cond rfl (fun hh => ?_) (fun hh => ?_)
 ·have hi : ((i : Nat) : Int) < ((vn : Nat) : Int) := by simpa using hh
  clear hh
  refine gw_skip (nx_then (gw_seq (gw_block (sr_ ?_))))
  obtain ⟨bv, ov, hA, _, _⟩ := hv.get (by omega)
  subst hA
  obtain ⟨x, hx⟩ : ∃ x, vl[i]? = some x := ⟨_, List.getElem?_eq_getElem (by omega)⟩
  obtain ⟨vk, vc2⟩ := x
  have hat := scanE_at (vhE cl) vl i _ hx
  obtain ⟨hvk, hvc2⟩ := hvok _ (List.mem_of_getElem? hx)
  have hvk : vk.size ≤ 1000000 := hvk
  refine wl_ov (ov_index (j := i) es28 rfl rfl (by omega)) rfl ?_
  refine wl_ov (ov_elem (vs := [.string vk, .string vc2]) rz57 rfl (fun _ hm => (hm.fact 2 rfl).1) hx rfl rfl) rfl ?_
  refine wl_alloc zc57 rfl fun g2 => ?_
  refine wl_stores (cs' := [.string vk, .string vc2]) 0 rz57 rfl rfl rfl rfl rfl rfl rfl rfl ?_
  refine nn_ (gw_seq (gw_block (sr_ (fd_ fo57_0 rfl rfl (lk_ sc9 0 rfl rfl rfl ?_)))))
  refine wl_callv rfl cb128 rfl rfl (fun wx hm => (key_any _ wx (by omega))) ?_
  refine wl_ov (ov_un_not rfl) rfl (sg_ rfl (nn_ ?_))
  refine gw_cond rfl (fun hh => ?_) (fun hh => ?_)
  ·have h4 : (keyB vk) = false := by simpa using hh
   clear hh
   refine sr_ (sg_ rfl (nn_ ?_))
   refine gw_ret ?_
   refine nx_blk_ret (nx_then_ret (nx_blk_ret (nx_then_ret (nx_then_ret (nx_blk_ret (nx_then_ret ?_))))))
   have hE : vhE cl (prevOf vl i) ⟨vk, vc2⟩ = 5 := vhE_one (by simpa using h4)
   have hF : scanE (vhE cl) none vl = 5 := by rw [hsc, hat, if_neg (by rw [hE]; decide), hE]
   refine nx_ret1 rfl rfl fun wx hm => ?_
   exact ⟨ret_int (by rw [hT2, hF, fe_left (by decide)]), hm.g⟩
  have h4 : (keyB vk) = true := by simpa using hh
  clear hh
  refine sr_ (fd_ fo57_0 rfl rfl (lk_ sc9 0 rfl rfl rfl (mv_ rfl ?_)))
  refine wl_ov (ov_sleq rfl rfl) rfl ?_
  refine sg_ rfl (nn_ ?_)
  refine gw_cond rfl (fun hh => ?_) (fun hh => ?_)
  ·have h5 : (Op.bytesLess vk.toList (prevVh vl i).toList || vk.toList == (prevVh vl i).toList) = true := by simpa using hh
   clear hh
   refine sr_ ?_
   have hle : leVh (prevOf vl i) ⟨vk, vc2⟩ = true := (prevVh_le (b := ⟨vk, vc2⟩) (by simpa using h4)).symm.trans h5
   refine sg_ rfl (nn_ ?_)
   refine gw_ret ?_
   refine nx_blk_ret (nx_then_ret (nx_blk_ret (nx_then_ret (nx_then_ret (nx_blk_ret (nx_then_ret ?_))))))
   have hE : vhE cl (prevOf vl i) ⟨vk, vc2⟩ = 7 := vhE_two (by simpa using h4) hle
   have hF : scanE (vhE cl) none vl = 7 := by rw [hsc, hat, if_neg (by rw [hE]; decide), hE]
   refine nx_ret1 rfl rfl fun wx hm => ?_
   exact ⟨ret_int (by rw [hT2, hF, fe_left (by decide)]), hm.g⟩
  have h5 : (Op.bytesLess vk.toList (prevVh vl i).toList || vk.toList == (prevVh vl i).toList) = false := by simpa using hh
  clear hh
  refine sr_ ?_
  have hle : leVh (prevOf vl i) ⟨vk, vc2⟩ = false := (prevVh_le (b := ⟨vk, vc2⟩) (by simpa using h4)).symm.trans h5
  have h8 := vhE_three (cl := cl) (b := ⟨vk, vc2⟩) (by simpa using h4) hle
  refine fd_ fo31_1 rfl rfl (lk_ sc27 1 rfl rfl rfl (fd_ fo57_1 rfl rfl (lk_ sc9 0 rfl rfl rfl ?_)))
  refine wl_callv rfl cb129 rfl rfl (fun wx hm => (rClassAt_any cl cA cn cc vc2 wx (hm.fact 1 rfl).1 (by omega))) ?_
  refine wl_ov (ov_lss rfl rfl) rfl (sg_ rfl (nn_ ?_))
  refine gw_cond rfl (fun hh => ?_) (fun hh => ?_)
  ·have h6 : ixP (csP vc2) cl 0 < 0 := by simpa using hh
   clear hh
   refine sr_ (sg_ rfl (nn_ ?_))
   refine gw_ret ?_
   refine nx_blk_ret (nx_then_ret (nx_blk_ret (nx_then_ret (nx_then_ret (nx_blk_ret (nx_then_ret ?_))))))
   have hE : vhE cl (prevOf vl i) ⟨vk, vc2⟩ = 8 := by rw [h8, if_pos h6]
   have hF : scanE (vhE cl) none vl = 8 := by rw [hsc, hat, if_neg (by rw [hE]; decide), hE]
   refine nx_ret1 rfl rfl fun wx hm => ?_
   exact ⟨ret_int (by rw [hT2, hF, fe_left (by decide)]), hm.g⟩
  have h6 : ¬ (ixP (csP vc2) cl 0 < 0) := by simpa using hh
  clear hh
  refine gw_skip (nx_blk_nrm (nx_then (gw_region ?_)))
  have hE : vhE cl (prevOf vl i) ⟨vk, vc2⟩ = 0 := by rw [h8, if_neg h6]
  refine fd_ fo57_0 rfl rfl (lk_ sc9 0 rfl rfl rfl (sg_ rfl (wl_nil (nx_blk_nrm (nx_then (gw_region (ad_ rfl rfl (mv_ rfl (wl_nil ?_)))))))))
  exact nx_round (i + 1) ⟨by omega, by rw [hsc, hat, if_pos hE]⟩ (by omega) ⟨rfl, (congrArg (fun z => some (Value.string z)) (prevVh_succ hx).symm), rfl, rfl, (some_int (by omega)), trivial⟩ (fun _ hm => hm.pick [1] [] [0, 1, 2, 3] rfl rfl)
 have hi : ¬ (((i : Nat) : Int) < ((vn : Nat) : Int)) := by simpa using hh
 clear hh
 refine gw_exit ?_
 refine nx_then_exit (nx_then_exit ?_)
 refine nx_blk_here ?_
 refine nx_then (gw_seq (sr_ ?_))
 have hz : scanE (vhE cl) none vl = 0 := by rw [hsc, List.drop_eq_nil_of_le (by omega)]; rfl
 have hT3 : TE = platesE vl pl := by rw [hT2, hz, fe_right]
 clear hsc hi0 hi
 refine fd_ fo31_3 rfl rfl (lk_ sc29 0 rfl rfl rfl (wl_ov (ov_len es29 rfl) rfl ?_))
 refine wl_ov (ov_gtr rfl rfl) rfl ?_
 refine nn_ ?_
 refine gw_cond rfl (fun hh => ?_) (fun hh => ?_)
 ·have h7 : 1000 < ((pn : Nat) : Int) := by simpa using hh
  clear hh
  refine sr_ (sg_ rfl (nn_ ?_))
  refine gw_ret ?_
  refine nx_then_ret ?_
  refine nx_ret1 rfl rfl fun wx hm => ?_
  exact ⟨ret_int (by rw [hT3]; unfold platesE; rw [if_pos (by omega)]), hm.g⟩
 have h7 : ¬ (1000 < ((pn : Nat) : Int)) := by simpa using hh
 clear hh
 refine gw_skip (nx_then (gw_seq (sr_ (fd_ fo31_3 rfl rfl (lk_ sc29 0 rfl rfl rfl (wl_ov (ov_len es29 rfl) rfl (mv_ rfl (nn_ (gw_block ?_)))))))))
 refine gw_loop (γ := Nat) (fun (i : Nat) => i ≤ pn ∧ platesE vl pl = plG vl (pl.take i) (pl.drop i)) (fun (i : Nat) => [(1, .pointer (some ⟨g1, 0, none⟩)), (59, .slice pA pn pc), (60, .int .i64 ((pn : Nat) : Int)), (61, .int .i64 ((i : Nat) : Int))]) (fun (i : Nat) => fun _ => True) (fun (i : Nat) => [(g1, 31, [.slice sA sn sc, .slice cA cn cc, .slice vA vn vc, .slice pA pn pc])]) (fun (i : Nat) => []) (fun (i : Nat) => [SlOld stEnc 15 105 w.heap.size none sA sn sl, SlOld csEnc 2 90 w.heap.size none cA cn cl, SlOld vhEnc 2 57 w.heap.size none vA vn vl, SlOld plEnc 3 151 w.heap.size none pA pn pl]) (fun (i : Nat) => pn - i) 0 ⟨Nat.zero_le _, by unfold platesE; rw [if_neg (by omega)]; rfl⟩ ⟨rfl, rfl, rfl, rfl, trivial⟩ (fun _ hm => hm.pick [0] [] [0, 1, 2, 3] rfl rfl) ?_
 intro i hinv
 replace hinv : i ≤ pn ∧ platesE vl pl = plG vl (pl.take i) (pl.drop i) := hinv
 refine sr_ ?_
 obtain ⟨hi0, hpe⟩ := hinv
 refine wl_ov (ov_lss rfl rfl) rfl (nn_ (gw_seq ?_))
 refine gw_cond rfl (fun hh => ?_) (fun hh => ?_)
 ·have hi : ((i : Nat) : Int) < ((pn : Nat) : Int) := by simpa using hh
  clear hh
  refine gw_skip (nx_then (gw_seq (gw_block (sr_ ?_))))
  obtain ⟨bp, op, hA, _, _⟩ := hp.get (by omega)
  subst hA
  obtain ⟨x, hx⟩ : ∃ x, pl[i]? = some x := ⟨_, List.getElem?_eq_getElem (by omega)⟩
  obtain ⟨pf, pv, pp⟩ := x
  have hat := plG_at (vs := vl) hx
  obtain ⟨hpf, hpv, hpp⟩ := hpok _ (List.mem_of_getElem? hx)
  have hpv : pv.size ≤ 1000000 := hpv
  have hpp : pp.size ≤ 1000000 := hpp
  have hpf : -4000000000000000000 ≤ pf ∧ pf ≤ 4000000000000000000 := hpf
  have hil : i < pl.length := by omega
  have hic : i ≤ pc := by omega
  refine mv_ rfl ?_
  refine wl_ov (ov_index (j := i) es29 rfl rfl (by omega)) rfl ?_
  refine wl_ov (ov_elem (vs := [.int .i64 pf, .string pv, .string pp]) rz151 rfl (fun _ hm => (hm.fact 3 rfl).1) hx rfl rfl) rfl ?_
  refine wl_alloc zc151 rfl fun g3 => ?_
  refine sg_ rfl ?_
  refine wl_stores (cs' := [.int .i64 pf, .string pv, .string pp]) 0 rz151 rfl rfl rfl rfl rfl rfl rfl rfl ?_
  refine nn_ (sr_ (fd_ fo31_3 rfl rfl (lk_ sc29 1 rfl rfl rfl (mv_ rfl ?_))))
  refine wl_ov (ov_sliceHi (hi := i) es29 rfl rfl rfl (by omega)) rfl ?_
  refine sg_ rfl (nn_ (gw_block (sr_ (fd_ fo151_0 rfl rfl (lk_ sc3 0 rfl rfl rfl ?_)))))
  refine wl_callw rfl cb67 rfl rfl (fun wx hm => (rmoment_any _ wx)) ?_
  refine wl_ov (ov_un_not rfl) rfl (sg_ rfl (nn_ ?_))
  refine gw_cond rfl (fun hh => ?_) (fun hh => ?_)
  ·have h8 : (inB pf 0 5761439) = false := by simpa using hh
   clear hh
   refine sr_ (sg_ rfl (nn_ ?_))
   refine gw_ret ?_
   refine nx_blk_ret (nx_blk_ret (nx_then_ret (nx_then_ret (nx_blk_ret (nx_then_ret ?_)))))
   have hE : plE vl (pl.take i) ⟨pf, pv, pp⟩ = 1 := plE_one (by simpa using h8)
   refine nx_ret1 rfl rfl fun wx hm => ?_
   exact ⟨ret_int (by rw [hT3, hpe, hat, if_neg (by rw [hE]; decide), hE]), hm.g⟩
  have h8 : (inB pf 0 5761439) = true := by simpa using hh
  clear hh
  refine sr_ ?_
  refine wl_ov (ov_loads rz31 rfl (fun _ hm => hm.blkI 1 rfl) rfl rfl) rfl ?_
  refine fd_ fo151_1 rfl rfl (lk_ sc9 0 rfl rfl rfl ?_)
  refine wl_callv rfl cb68 rfl rfl (fun wx hm => (rVehicleAt_any vl sA cA vA (some ⟨bp, op, none⟩) sn sc cn cc vn vc pn pc pv wx (hm.fact 2 rfl).1 (by omega))) ?_
  refine wl_ov (ov_lss rfl rfl) rfl (sg_ rfl (nn_ ?_))
  refine gw_cond rfl (fun hh => ?_) (fun hh => ?_)
  ·have h9 : ixP (vhP pv) vl 0 < 0 := by simpa using hh
   clear hh
   refine sr_ (sg_ rfl (nn_ ?_))
   refine gw_ret ?_
   refine nx_blk_ret (nx_blk_ret (nx_then_ret (nx_then_ret (nx_blk_ret (nx_then_ret ?_)))))
   have hE : plE vl (pl.take i) ⟨pf, pv, pp⟩ = 8 := plE_two (by simpa using h8) h9
   refine nx_ret1 rfl rfl fun wx hm => ?_
   exact ⟨ret_int (by rw [hT3, hpe, hat, if_neg (by rw [hE]; decide), hE]), hm.g⟩
  have h9 : ¬ (ixP (vhP pv) vl 0 < 0) := by simpa using hh
  clear hh
  refine sr_ (fd_ fo151_2 rfl rfl (lk_ sc9 0 rfl rfl rfl ?_))
  refine wl_callv rfl cb130 rfl rfl (fun wx hm => (plateForm_any pp wx hpp)) ?_
  refine wl_ov (ov_un_not rfl) rfl (sg_ rfl (nn_ ?_))
  refine gw_cond rfl (fun hh => ?_) (fun hh => ?_)
  ·have h10 : (plateB pp) = false := by simpa using hh
   clear hh
   refine sr_ (sg_ rfl (nn_ ?_))
   refine gw_ret ?_
   refine nx_blk_ret (nx_blk_ret (nx_then_ret (nx_then_ret (nx_blk_ret (nx_then_ret ?_)))))
   have hE : plE vl (pl.take i) ⟨pf, pv, pp⟩ = 3 := plE_three (by simpa using h8) h9 (by simpa using h10)
   refine nx_ret1 rfl rfl fun wx hm => ?_
   exact ⟨ret_int (by rw [hT3, hpe, hat, if_neg (by rw [hE]; decide), hE]), hm.g⟩
  have h10 : (plateB pp) = true := by simpa using hh
  clear hh
  refine gw_seq ?_
  have hfour := plE_four (vs := vl) (pre := pl.take i) (p := ⟨pf, pv, pp⟩) (by simpa using h8) h9 (by simpa using h10)
  by_cases h0 : i = 0
  ·have hO : plO (pl.take i) ⟨pf, pv, pp⟩ = false := by rw [h0]; exact plO_zero
   refine gd (fun wz => Blk wz g3 151 [.int .i64 pf, .string pv, .string pp] ∧ Blk wz g1 31 [.slice sA sn sc, .slice cA cn cc, .slice vA vn vc, .slice (some ⟨bp, op, none⟩) pn pc] ∧ (SlOld stEnc 15 105 w.heap.size none sA sn sl) wz ∧ (SlOld csEnc 2 90 w.heap.size none cA cn cl) wz ∧ (SlOld vhEnc 2 57 w.heap.size none vA vn vl) wz ∧ (SlOld plEnc 3 151 w.heap.size none (some ⟨bp, op, none⟩) pn pl) wz ∧ True) mixed (fun _ hm => ⟨hm.bl 0, hm.bl 1, hm.fa 0, hm.fa 1, hm.fa 2, hm.fa 3, trivial⟩) fun z => ?_
   refine wt 0 13 1 rfl z (ov_move rfl) ?_
   refine wt 1 13 3 rfl z (ov_gtr rfl rfl) ?_
   refine wa_set 88 (v' := .bool false) rfl (congrArg Value.bool (decide_eq_false (by omega))) ?_
   refine wt 2 13 7 rfl z (ov_move rfl) ?_
   refine wtf 3 13 15 rfl rfl rfl z ?_
   refine wtf 4 13 31 rfl rfl rfl z ?_
   refine wtf 5 13 63 rfl rfl rfl z ?_
   refine wtf 6 13 127 rfl rfl rfl z ?_
   refine wtf 7 13 255 rfl rfl rfl z ?_
   refine wtf 8 13 511 rfl rfl rfl z ?_
   refine wtf 9 13 1023 rfl rfl rfl z ?_
   refine wtf 10 13 2047 rfl rfl rfl z ?_
   refine wt 11 13 4095 rfl z (ov_pick_f rfl rfl) ?_
   refine wt 12 13 8191 rfl z (ov_assign rfl) ?_
   refine wa_done (by kernel_rfl) ?_
   refine nx_then (cf_ rfl (sr_ (mv_ rfl (wl_ov (ov_makeFunc rfl rfl) rfl ?_))))
   refine wl_callv rfl cb132 rfl rfl (fun wx hm => (twinHas_any (pl.take i) _ i pc pf pv pp _ wx (SlT.takeT (hm.fact 3 rfl).1 (by omega)) (by omega) (hm.blkI 0 rfl))) ?_
   refine sg_ rfl (nn_ ?_)
   refine gw_cond rfl (fun hh => ?_) (fun hh => ?_)
   ·have h12 : ((pl.take i).any (plTwin ⟨pf, pv, pp⟩)) = true := by simpa using hh
    clear hh
    refine sr_ (sg_ rfl (nn_ ?_))
    refine gw_ret ?_
    refine nx_blk_ret (nx_blk_ret (nx_then_ret (nx_then_ret (nx_blk_ret (nx_then_ret ?_)))))
    have hE : plE vl (pl.take i) ⟨pf, pv, pp⟩ = 6 := by rw [hfour, if_neg (by rw [hO]; decide), if_pos h12]
    refine nx_ret1 rfl rfl fun wx hm => ?_
    exact ⟨ret_int (by rw [hT3, hpe, hat, if_neg (by rw [hE]; decide), hE]), hm.g⟩
   have h12 : ((pl.take i).any (plTwin ⟨pf, pv, pp⟩)) = false := by simpa using hh
   clear hh
   refine gw_skip (nx_blk_nrm (nx_blk_nrm (nx_then (gw_region ?_))))
   have hE : plE vl (pl.take i) ⟨pf, pv, pp⟩ = 0 := by rw [hfour, if_neg (by rw [hO]; decide), if_neg (by rw [h12]; decide)]
   refine ad_ rfl rfl (mv_ rfl (wl_nil ?_))
   exact nx_round (i + 1) ⟨by omega, by rw [hpe, hat, if_pos hE]⟩ (by omega) ⟨rfl, rfl, rfl, (some_int (by omega)), trivial⟩ (fun _ hm => hm.pick [1] [] [0, 1, 2, 3] rfl rfl)
  obtain ⟨q, hq⟩ : ∃ x, pl[i - 1]? = some x := ⟨_, List.getElem?_eq_getElem (by omega)⟩
  obtain ⟨qf, qv, qp⟩ := q
  obtain ⟨hqf, _, _⟩ := hpok _ (List.mem_of_getElem? hq)
  have hqf : -4000000000000000000 ≤ qf ∧ qf ≤ 4000000000000000000 := hqf
  have hOq := plO_pos (p := ⟨pf, pv, pp⟩) hil h0 hq
  refine gd (fun wz => Blk wz g3 151 [.int .i64 pf, .string pv, .string pp] ∧ Blk wz g1 31 [.slice sA sn sc, .slice cA cn cc, .slice vA vn vc, .slice (some ⟨bp, op, none⟩) pn pc] ∧ (SlOld stEnc 15 105 w.heap.size none sA sn sl) wz ∧ (SlOld csEnc 2 90 w.heap.size none cA cn cl) wz ∧ (SlOld vhEnc 2 57 w.heap.size none vA vn vl) wz ∧ (SlOld plEnc 3 151 w.heap.size none (some ⟨bp, op, none⟩) pn pl) wz ∧ True) mixed (fun _ hm => ⟨hm.bl 0, hm.bl 1, hm.fa 0, hm.fa 1, hm.fa 2, hm.fa 3, trivial⟩) fun z => ?_
  refine wt 0 13 1 rfl z (ov_move rfl) ?_
  refine wt 1 13 3 rfl z (ov_gtr rfl rfl) ?_
  refine wa_set 88 (v' := .bool true) rfl (congrArg Value.bool (decide_eq_true (by omega))) ?_
  refine wt 2 13 7 rfl z (ov_move rfl) ?_
  refine wto 3 13 15 rfl rfl rfl z (ov_move rfl) ?_
  refine wto 4 13 31 rfl rfl rfl z (ov_move rfl) ?_
  refine wto 5 13 63 rfl rfl rfl z (ov_sub rfl rfl (by omega) (by omega)) ?_
  refine wa_set 92 (v' := .int .i64 (((i - 1) : Nat) : Int)) rfl (congrArg (Value.int .i64) (by omega)) ?_
  refine wto 6 13 127 rfl rfl rfl z (ov_index (j := (i - 1)) es29 rfl rfl (by omega)) ?_
  refine wto 7 13 255 rfl rfl rfl z (ov_elem (vs := [.int .i64 qf, .string qv, .string qp]) rz151 rfl (fun _ hm => (hm.2.2.2.2.2.1).1) hq rfl rfl) ?_
  refine wto 8 13 511 rfl rfl rfl z (ov_loads rz151 rfl (fun _ hm => hm.1) rfl rfl) ?_
  refine wa1 9 rfl ?_
  refine wl_guard_on rfl rfl rfl ?_
  refine wl_callv rfl cb131 rfl rfl (fun wx hm => (plateOrder_any qf qv qp pf pv pp wx hqf hpf)) ?_
  refine wl_nil ?_
  refine nw 13 1023 (fun _ hm => ⟨hm.bl 0, hm.bl 1, hm.fa 0, hm.fa 1, hm.fa 2, hm.fa 3, trivial⟩) fun z => ?_
  refine wto 10 13 2047 rfl rfl rfl z (ov_geq rfl rfl) ?_
  refine wt 11 13 4095 rfl z (ov_pick_t rfl rfl) ?_
  refine wt 12 13 8191 rfl z (ov_assign rfl) ?_
  refine wa_done (by kernel_rfl) ?_
  refine nx_then ?_
  refine gw_cond rfl (fun hh => ?_) (fun hh => ?_)
  ·have h11 : 0 ≤ plOrd ⟨qf, qv, qp⟩ ⟨pf, pv, pp⟩ := by simpa using hh
   clear hh
   refine sr_ ?_
   have hO : plO (pl.take i) ⟨pf, pv, pp⟩ = true := by rw [hOq]; exact decide_eq_true h11
   refine sg_ rfl (nn_ ?_)
   refine gw_ret ?_
   refine nx_blk_ret (nx_blk_ret (nx_then_ret (nx_then_ret (nx_blk_ret (nx_then_ret ?_)))))
   have hE : plE vl (pl.take i) ⟨pf, pv, pp⟩ = 7 := by rw [hfour, if_pos hO]
   refine nx_ret1 rfl rfl fun wx hm => ?_
   exact ⟨ret_int (by rw [hT3, hpe, hat, if_neg (by rw [hE]; decide), hE]), hm.g⟩
  have h11 : ¬ (0 ≤ plOrd ⟨qf, qv, qp⟩ ⟨pf, pv, pp⟩) := by simpa using hh
  clear hh
  refine sr_ ?_
  have hO : plO (pl.take i) ⟨pf, pv, pp⟩ = false := by rw [hOq]; exact decide_eq_false h11
  refine mv_ rfl (wl_ov (ov_makeFunc rfl rfl) rfl ?_)
  refine wl_callv rfl cb132 rfl rfl (fun wx hm => (twinHas_any (pl.take i) _ i pc pf pv pp _ wx (SlT.takeT (hm.fact 3 rfl).1 (by omega)) (by omega) (hm.blkI 0 rfl))) ?_
  refine sg_ rfl (nn_ ?_)
  refine gw_cond rfl (fun hh => ?_) (fun hh => ?_)
  ·have h12 : ((pl.take i).any (plTwin ⟨pf, pv, pp⟩)) = true := by simpa using hh
   clear hh
   refine sr_ (sg_ rfl (nn_ ?_))
   refine gw_ret ?_
   refine nx_blk_ret (nx_blk_ret (nx_then_ret (nx_then_ret (nx_blk_ret (nx_then_ret ?_)))))
   have hE : plE vl (pl.take i) ⟨pf, pv, pp⟩ = 6 := by rw [hfour, if_neg (by rw [hO]; decide), if_pos h12]
   refine nx_ret1 rfl rfl fun wx hm => ?_
   exact ⟨ret_int (by rw [hT3, hpe, hat, if_neg (by rw [hE]; decide), hE]), hm.g⟩
  have h12 : ((pl.take i).any (plTwin ⟨pf, pv, pp⟩)) = false := by simpa using hh
  clear hh
  refine gw_skip (nx_blk_nrm (nx_blk_nrm (nx_then (gw_region ?_))))
  have hE : plE vl (pl.take i) ⟨pf, pv, pp⟩ = 0 := by rw [hfour, if_neg (by rw [hO]; decide), if_neg (by rw [h12]; decide)]
  refine ad_ rfl rfl (mv_ rfl (wl_nil ?_))
  exact nx_round (i + 1) ⟨by omega, by rw [hpe, hat, if_pos hE]⟩ (by omega) ⟨rfl, rfl, rfl, (some_int (by omega)), trivial⟩ (fun _ hm => hm.pick [1] [] [0, 1, 2, 3] rfl rfl)
 have hi : ¬ (((i : Nat) : Int) < ((pn : Nat) : Int)) := by simpa using hh
 clear hh
 refine gw_exit ?_
 refine nx_then_exit (nx_then_exit ?_)
 refine nx_blk_here ?_
 refine nx_then (sr_ (sg_ rfl (nn_ ?_)))
 refine gw_ret ?_
 refine nx_ret1 rfl rfl fun wx hm => ?_
 exact ⟨ret_int (by rw [hT3, plates_end (by omega) hpe]), hm.g⟩
end Go.Proofs.YtiendebcdicjnaaGreatDoor
namespace Go.Proofs.YtiendebcdicjnaaGreatDoor
open Go.RowKit
section
variable {P : Program} {c : Cx} {ops : Array Oper} {Q : Exit → Act → World → Prop} {rest : List Oper} {S : List (Nat × Value)} {K : World → Prop} {L : List (Nat × TypeId × List Value)} {O : List Own} {X : List (World → Prop)}
variable {d : Nat} {ty : TypeId} {pos : String} {aft : Array Edge}
theorem wl_callr {f : FuncId} {x : Operand} {ags : List Operand} {ats : Array TypeId} {vs fs cs : List Value} {v : Value} {r : Own} {xs' : List Value} (i : Nat) (hO : O[i]? = some r) (hT : c.Tt.contains r.e = false) (hx : rd S x = some (.func (.func f) fs.toArray cs.toArray)) (hf : callableB P f = true) (ha : evArgs S ags = some vs) (hd : Nat.ble (d + 1) c.n = true)
    (hC : ∀ w, Mem c K L O X w → Calls P f (fs ++ vs ++ cs).toArray w (fun e w' => e = .returned v ∧ w'.ownsRow c.w0.heap.size r.e r.sz r.v r.n xs' ∧ w.grownBy w' r.v.ownBlock)) (h : WL P c ops Q rest ((d, v) :: S) K L (setOwn ⟨r.v, r.e, r.sz, r.n, xs'⟩ O i) X) :
    WL P c ops Q (⟨some d, .call ⟨.value x, ags.toArray, ats⟩, ty, pos, aft, none⟩ :: rest) S K L O X :=
  wl_callG (γ := Unit) (val := fun _ => v) (φ := fun _ => True) (K' := fun _ => K) (L' := fun _ => L) (O' := fun _ => setOwn ⟨r.v, r.e, r.sz, r.n, xs'⟩ O i) (X' := fun _ => X) hx hf ha hd (fun w hm => (hC w hm).mono fun _ _ ⟨he, ho, hg⟩ => ⟨(), he, trivial, hm.append hO hT ho hg (.inl rfl)⟩) (fun _ _ => h)
end
end Go.Proofs.YtiendebcdicjnaaGreatDoor
namespace Go.Proofs.YtiendebcdicjnaaGreatDoor
open Go.RowKit
section
variable {P : Program} {c : Cx} {ops : Array Oper} {Q : Exit → Act → World → Prop} {rest : List Oper} {S : List (Nat × Value)} {K : World → Prop} {L : List (Nat × TypeId × List Value)} {O : List Own} {X : List (World → Prop)}
variable {d : Nat} {ty : TypeId} {pos : String} {aft : Array Edge}
theorem wl_callrn {γ : Type} {f : FuncId} {x : Operand} {ags : List Operand} {ats : Array TypeId} {vs fs cs : List Value} {val : γ → Value} {φ : γ → Prop} {n' : γ → Nat} {xs' : γ → List Value} {r : Own} (i : Nat) (hO : O[i]? = some r) (hT : c.Tt.contains r.e = false) (hx : rd S x = some (.func (.func f) fs.toArray cs.toArray)) (hf : callableB P f = true) (ha : evArgs S ags = some vs) (hd : Nat.ble (d + 1) c.n = true) (hb : ∀ g, (val g).ownBlock = r.v.ownBlock)
    (hC : ∀ w, Mem c K L O X w → Calls P f (fs ++ vs ++ cs).toArray w (fun e w' => ∃ g, e = .returned (val g) ∧ φ g ∧ w'.ownsRow c.w0.heap.size r.e r.sz (val g) (n' g) (xs' g) ∧ w.grownBy w' r.v.ownBlock)) (h : ∀ g, φ g → WL P c ops Q rest ((d, val g) :: S) K L (setOwn ⟨val g, r.e, r.sz, n' g, xs' g⟩ O i) X) :
    WL P c ops Q (⟨some d, .call ⟨.value x, ags.toArray, ats⟩, ty, pos, aft, none⟩ :: rest) S K L O X :=
  wl_callG (γ := γ) (val := val) (φ := φ) (K' := fun _ => K) (L' := fun _ => L) (O' := fun g => setOwn ⟨val g, r.e, r.sz, n' g, xs' g⟩ O i) (X' := fun _ => X) hx hf ha hd (fun w hm => (hC w hm).mono fun _ _ ⟨g, he, hp, ho, hg⟩ => ⟨g, he, hp, hm.append hO hT ho hg (.inl (hb g))⟩) h
end
end Go.Proofs.YtiendebcdicjnaaGreatDoor
namespace Go.Proofs.YtiendebcdicjnaaGreatDoor
open Go.RowKit
section
variable {P : Program} {nn : Nat} {S : List (Nat × Value)} {Z : World → Prop} {d : Nat} {ty : TypeId} {pos : String} {aft : Array Edge}
/-- Two strings, one behind the other. -/
theorem ov_sadd {t t' : TypeId} {x y : Operand} {m n : ByteArray} (hx : rd S x = some (.string m)) (hy : rd S y = some (.string n)) (h : m.size + n.size ≤ 9223372036854775807) : OV P nn S Z ⟨some d, .binOp .add t x y t', ty, pos, aft, none⟩ (.string (m ++ n)) :=
  ov_bin hx hy (fun w => by
    have e := run_string_add_sum (P := P) w m n h
    simp [binOp_string_add, e, go_sem])
end
section
variable {c : Cx} {Q : Exit → Act → World → Prop} {S : List (Nat × Value)} {K : World → Prop} {L : List (Nat × TypeId × List Value)} {O : List Own} {X : List (World → Prop)}
theorem nx_toOwn {e : Exit} (i : Nat) (ls : List Nat) {g : Nat} {T : TypeId} {cs : List Value} {n sz : Nat} (hi : L[i]? = some (g, T, cs)) (hls : allNe (i :: ls) = true) (hcs : cs.length = n * sz) (hn : n ≤ maxLen) (h : Nx c Q e S K (pickI L ls) (⟨.slice (some ⟨g, 0, none⟩) n n, T, sz, n, cs⟩ :: O) X) : Nx c Q e S K L O X := fun a w ha hm => h a w ha (hm.toOwn i ls hi hls hcs hn)
end
end Go.Proofs.YtiendebcdicjnaaGreatDoor
namespace Go.Proofs.YtiendebcdicjnaaGreatDoor
open Go.RowKit
theorem ix_neg {α : Type} {p : α → Bool} {l : List α} : decide (ixP p l 0 < 0) = !l.any p := by
  rw [← ix_any]
  by_cases h : 0 ≤ ixP p l 0
  · rw [decide_eq_true h, decide_eq_false (by omega)]; rfl
  · rw [decide_eq_false h, decide_eq_true (by omega)]; rfl
def evC (c1 c2 c3 c4 c5 c6 c7 : Bool) : Int := if c1 = true then 1 else if c2 = true then 8 else if c3 = true then 4 else if c4 = true then 3 else if c5 = true then 8 else if c6 = true then 14 else if c7 = true then 7 else 0
theorem evE_eq {ss : List St} {vs : List Vh} {p : Option Ev} {e0 : Int} {e1 e2 : ByteArray} {e3 : Int} {e4 : ByteArray} : evE ss vs p ⟨e0, e1, e2, e3, e4⟩ = evC (!inB e0 0 5761439) (decide (ixP (vhP e1) vs 0 < 0) || !ss.any (stP e2)) (!inB e3 1 8) (!decide (e3 = 6) && !(e4.toList == (⟨#[]⟩ : ByteArray).toList)) (decide (e3 = 6) && !ss.any (stP e4)) (e4.toList == e2.toList) (evO p ⟨e0, e1, e2, e3, e4⟩) := by
  unfold evE evC
  cases inB e0 0 5761439 <;> cases inB e3 1 8 <;> rfl
theorem stAt_pred (key : ByteArray) (h0 h1 h2 h3 h4 h5 h6 h7 h8 h9 h10 h11 h12 h13 : Int) (gk : Nat) (k : ByteArray) (w : World) (hk : Blk w gk 9 [.string k]) :
  Calls Tryz.prog 139 #[.agg #[.string key, .int .i64 h0, .int .i64 h1, .int .i64 h2, .int .i64 h3, .int .i64 h4, .int .i64 h5, .int .i64 h6, .int .i64 h7, .int .i64 h8, .int .i64 h9, .int .i64 h10, .int .i64 h11, .int .i64 h12, .int .i64 h13], .pointer (some ⟨gk, 0, none⟩)] w (fun e w' => e = .returned (.bool (stP k ⟨key, [h0, h1, h2, h3, h4, h5, h6, h7, h8, h9, h10, h11, h12, h13]⟩)) ∧ w.grownBy w' none) := by
 refine gw_enter ⟨8, w, none, []⟩ Tryz.func139 rfl Tryz.ntmps139 rfl (mem0 (X := [BlkOld w.heap.size none gk 9 [.string k]]) (allF_cons hk.old allF_nil) (allL_cons BlkOld.lasts allL_nil)) ?_
 refine sr_ ?_
 refine wl_box rfl rfl rfl fun g1 => ?_
 refine sg_ rfl (nn_ (sr_ (fd_ fo105_0 rfl rfl (lk_ sc9 0 rfl rfl rfl ?_))))
 refine wl_ov (ov_load (v := .string k) sc9 rfl (fun _ hm => (hm.fact 0 rfl).2) rfl) rfl ?_
 refine wl_ov (ov_seql rfl rfl) rfl (sg_ rfl (nn_ ?_))
 refine gw_ret ?_
 refine nx_ret1 rfl rfl fun wx hm => ?_
 exact ⟨rfl, hm.g⟩
theorem stAt_ix (l : List St) (A : Option Addr) (n c0 : Nat) (gk : Nat) (k : ByteArray) (w : World) (hl : SlT stEnc 15 105 w A n l) (hok : ∀ x ∈ l, StOk x) (hn : n ≤ 1000000) (hk : Blk w gk 9 [.string k]) :
  Calls Tryz.prog 138 #[.slice A n c0, .func (.func 139) #[] #[.pointer (some ⟨gk, 0, none⟩)]] w (GotE w (ixP (stP k) l 0)) := by
 refine gw_enter ⟨19, w, none, []⟩ Tryz.func138 rfl Tryz.ntmps138 rfl (mem0 (X := [SlOld stEnc 15 105 w.heap.size none A n l, BlkOld w.heap.size none gk 9 [.string k]]) (allF_cons hl.old (allF_cons hk.old allF_nil)) (allL_cons SlOld.lasts (allL_cons BlkOld.lasts allL_nil))) ?_
 refine sr_ ?_
 have hlen := hl.len
 refine sg_ rfl (nn_ (gw_seq (sr_ (mv_ rfl (wl_ov (ov_len es26 rfl) rfl (mv_ rfl (nn_ (gw_block ?_))))))))
 refine gw_loop (γ := Nat) (fun (i : Nat) => i ≤ n ∧ ixP (stP k) l 0 = ixP (stP k) (l.drop i) i) (fun (i : Nat) => [(0, .slice A n c0), (1, .func (.func 139) #[] #[.pointer (some ⟨gk, 0, none⟩)]), (7, .int .i64 ((n : Nat) : Int)), (8, .int .i64 ((i : Nat) : Int))]) (fun (i : Nat) => fun _ => True) (fun (i : Nat) => []) (fun (i : Nat) => []) (fun (i : Nat) => [SlOld stEnc 15 105 w.heap.size none A n l, BlkOld w.heap.size none gk 9 [.string k]]) (fun (i : Nat) => n - i) 0 ⟨Nat.zero_le _, rfl⟩ ⟨rfl, rfl, rfl, rfl, trivial⟩ (fun _ hm => hm.pick [] [] [0, 1] rfl rfl) ?_
 intro i hinv
 replace hinv : i ≤ n ∧ ixP (stP k) l 0 = ixP (stP k) (l.drop i) i := hinv
 refine sr_ (wl_ov (ov_lss rfl rfl) rfl (nn_ (gw_seq ?_)))
 refine gw_cond rfl (fun hh => ?_) (fun hh => ?_)
 ·have hi : ((i : Nat) : Int) < ((n : Nat) : Int) := by simpa using hh
  clear hh
  refine gw_skip (nx_then (gw_seq (gw_block (sr_ ?_))))
  obtain ⟨b, off, hA, _, _⟩ := hl.get (by omega)
  subst hA
  obtain ⟨x, hx⟩ : ∃ x, l[i]? = some x := ⟨_, List.getElem?_eq_getElem (by omega)⟩
  have hat := ixP_at (p := stP k) hx
  have hso := hok _ (List.mem_of_getElem? hx)
  obtain ⟨key, hs⟩ := x
  obtain ⟨h0, h1, h2, h3, h4, h5, h6, h7, h8, h9, h10, h11, h12, h13, rfl⟩ := list14 hs hso.1
  refine mv_ rfl (sg_ rfl (nn_ (sr_ (mv_ rfl (mv_ rfl (mv_ rfl ?_))))))
  refine wl_ov (ov_index (j := i) es26 rfl rfl (by omega)) rfl ?_
  refine wl_ov (ov_elem (vs := [.string key, .int .i64 h0, .int .i64 h1, .int .i64 h2, .int .i64 h3, .int .i64 h4, .int .i64 h5, .int .i64 h6, .int .i64 h7, .int .i64 h8, .int .i64 h9, .int .i64 h10, .int .i64 h11, .int .i64 h12, .int .i64 h13]) rz105 rfl (fun _ hm => (hm.fact 0 rfl).1) hx rfl rfl) rfl ?_
  refine wl_callv rfl cb139 rfl rfl (fun wx hm => (stAt_pred key h0 h1 h2 h3 h4 h5 h6 h7 h8 h9 h10 h11 h12 h13 gk k wx (hm.fact 1 rfl).2)) ?_
  refine nn_ ?_
  refine gw_cond rfl (fun hh => ?_) (fun hh => ?_)
  ·have hq : (stP k ⟨key, [h0, h1, h2, h3, h4, h5, h6, h7, h8, h9, h10, h11, h12, h13]⟩) = true := by simpa using hh
   clear hh
   refine sr_ (mv_ rfl (sg_ rfl (nn_ ?_)))
   refine gw_ret ?_
   refine nx_blk_ret (nx_then_ret (nx_then_ret (nx_blk_ret (nx_then_ret ?_))))
   refine nx_ret1 rfl rfl fun wx hm => ?_
   exact ⟨ret_int (by rw [hinv.2, hat, if_pos hq]), hm.g⟩
  have hq : (stP k ⟨key, [h0, h1, h2, h3, h4, h5, h6, h7, h8, h9, h10, h11, h12, h13]⟩) = false := by simpa using hh
  clear hh
  refine gw_skip (nx_blk_nrm (nx_then (gw_region (ad_ rfl rfl (mv_ rfl (wl_nil ?_))))))
  exact nx_round (i + 1) ⟨by omega, by rw [hinv.2, hat, if_neg (by rw [hq]; decide)]⟩ (by omega) ⟨rfl, rfl, rfl, (some_int (by omega)), trivial⟩ (fun _ hm => hm.pick [] [] [0, 1] rfl rfl)
 have hi : ¬ (((i : Nat) : Int) < ((n : Nat) : Int)) := by simpa using hh
 clear hh
 refine gw_exit ?_
 refine nx_then_exit (nx_then_exit ?_)
 refine nx_blk_here ?_
 refine nx_then (sr_ (sg_ rfl ?_))
 refine wl_set 4 (v' := .int .i64 (-1)) rfl rfl ?_
 refine nn_ ?_
 refine gw_ret ?_
 refine nx_ret1 rfl rfl fun wx hm => ?_
 exact ⟨ret_int (by rw [hinv.2, List.drop_eq_nil_of_le (by omega)]; rfl), hm.g⟩
theorem stHas_pred (key : ByteArray) (h0 h1 h2 h3 h4 h5 h6 h7 h8 h9 h10 h11 h12 h13 : Int) (gk : Nat) (k : ByteArray) (w : World) (hk : Blk w gk 9 [.string k]) :
  Calls Tryz.prog 211 #[.agg #[.string key, .int .i64 h0, .int .i64 h1, .int .i64 h2, .int .i64 h3, .int .i64 h4, .int .i64 h5, .int .i64 h6, .int .i64 h7, .int .i64 h8, .int .i64 h9, .int .i64 h10, .int .i64 h11, .int .i64 h12, .int .i64 h13], .pointer (some ⟨gk, 0, none⟩)] w (fun e w' => e = .returned (.bool (stP k ⟨key, [h0, h1, h2, h3, h4, h5, h6, h7, h8, h9, h10, h11, h12, h13]⟩)) ∧ w.grownBy w' none) := by
 refine gw_enter ⟨8, w, none, []⟩ Tryz.func211 rfl Tryz.ntmps211 rfl (mem0 (X := [BlkOld w.heap.size none gk 9 [.string k]]) (allF_cons hk.old allF_nil) (allL_cons BlkOld.lasts allL_nil)) ?_
 refine sr_ ?_
 refine wl_box rfl rfl rfl fun g1 => ?_
 refine sg_ rfl (nn_ (sr_ (fd_ fo105_0 rfl rfl (lk_ sc9 0 rfl rfl rfl ?_))))
 refine wl_ov (ov_load (v := .string k) sc9 rfl (fun _ hm => (hm.fact 0 rfl).2) rfl) rfl ?_
 refine wl_ov (ov_seql rfl rfl) rfl (sg_ rfl (nn_ ?_))
 refine gw_ret ?_
 refine nx_ret1 rfl rfl fun wx hm => ?_
 exact ⟨rfl, hm.g⟩
theorem stHas_ix (l : List St) (A : Option Addr) (n c0 : Nat) (gk : Nat) (k : ByteArray) (w : World) (hl : SlT stEnc 15 105 w A n l) (hok : ∀ x ∈ l, StOk x) (hn : n ≤ 1000000) (hk : Blk w gk 9 [.string k]) :
  Calls Tryz.prog 138 #[.slice A n c0, .func (.func 211) #[] #[.pointer (some ⟨gk, 0, none⟩)]] w (GotE w (ixP (stP k) l 0)) := by
 refine gw_enter ⟨19, w, none, []⟩ Tryz.func138 rfl Tryz.ntmps138 rfl (mem0 (X := [SlOld stEnc 15 105 w.heap.size none A n l, BlkOld w.heap.size none gk 9 [.string k]]) (allF_cons hl.old (allF_cons hk.old allF_nil)) (allL_cons SlOld.lasts (allL_cons BlkOld.lasts allL_nil))) ?_
 refine sr_ ?_
 have hlen := hl.len
 refine sg_ rfl (nn_ (gw_seq (sr_ (mv_ rfl (wl_ov (ov_len es26 rfl) rfl (mv_ rfl (nn_ (gw_block ?_))))))))
 refine gw_loop (γ := Nat) (fun (i : Nat) => i ≤ n ∧ ixP (stP k) l 0 = ixP (stP k) (l.drop i) i) (fun (i : Nat) => [(0, .slice A n c0), (1, .func (.func 211) #[] #[.pointer (some ⟨gk, 0, none⟩)]), (7, .int .i64 ((n : Nat) : Int)), (8, .int .i64 ((i : Nat) : Int))]) (fun (i : Nat) => fun _ => True) (fun (i : Nat) => []) (fun (i : Nat) => []) (fun (i : Nat) => [SlOld stEnc 15 105 w.heap.size none A n l, BlkOld w.heap.size none gk 9 [.string k]]) (fun (i : Nat) => n - i) 0 ⟨Nat.zero_le _, rfl⟩ ⟨rfl, rfl, rfl, rfl, trivial⟩ (fun _ hm => hm.pick [] [] [0, 1] rfl rfl) ?_
 intro i hinv
 replace hinv : i ≤ n ∧ ixP (stP k) l 0 = ixP (stP k) (l.drop i) i := hinv
 refine sr_ (wl_ov (ov_lss rfl rfl) rfl (nn_ (gw_seq ?_)))
 refine gw_cond rfl (fun hh => ?_) (fun hh => ?_)
 ·have hi : ((i : Nat) : Int) < ((n : Nat) : Int) := by simpa using hh
  clear hh
  refine gw_skip (nx_then (gw_seq (gw_block (sr_ ?_))))
  obtain ⟨b, off, hA, _, _⟩ := hl.get (by omega)
  subst hA
  obtain ⟨x, hx⟩ : ∃ x, l[i]? = some x := ⟨_, List.getElem?_eq_getElem (by omega)⟩
  have hat := ixP_at (p := stP k) hx
  have hso := hok _ (List.mem_of_getElem? hx)
  obtain ⟨key, hs⟩ := x
  obtain ⟨h0, h1, h2, h3, h4, h5, h6, h7, h8, h9, h10, h11, h12, h13, rfl⟩ := list14 hs hso.1
  refine mv_ rfl (sg_ rfl (nn_ (sr_ (mv_ rfl (mv_ rfl (mv_ rfl ?_))))))
  refine wl_ov (ov_index (j := i) es26 rfl rfl (by omega)) rfl ?_
  refine wl_ov (ov_elem (vs := [.string key, .int .i64 h0, .int .i64 h1, .int .i64 h2, .int .i64 h3, .int .i64 h4, .int .i64 h5, .int .i64 h6, .int .i64 h7, .int .i64 h8, .int .i64 h9, .int .i64 h10, .int .i64 h11, .int .i64 h12, .int .i64 h13]) rz105 rfl (fun _ hm => (hm.fact 0 rfl).1) hx rfl rfl) rfl ?_
  refine wl_callv rfl cb211 rfl rfl (fun wx hm => (stHas_pred key h0 h1 h2 h3 h4 h5 h6 h7 h8 h9 h10 h11 h12 h13 gk k wx (hm.fact 1 rfl).2)) ?_
  refine nn_ ?_
  refine gw_cond rfl (fun hh => ?_) (fun hh => ?_)
  ·have hq : (stP k ⟨key, [h0, h1, h2, h3, h4, h5, h6, h7, h8, h9, h10, h11, h12, h13]⟩) = true := by simpa using hh
   clear hh
   refine sr_ (mv_ rfl (sg_ rfl (nn_ ?_)))
   refine gw_ret ?_
   refine nx_blk_ret (nx_then_ret (nx_then_ret (nx_blk_ret (nx_then_ret ?_))))
   refine nx_ret1 rfl rfl fun wx hm => ?_
   exact ⟨ret_int (by rw [hinv.2, hat, if_pos hq]), hm.g⟩
  have hq : (stP k ⟨key, [h0, h1, h2, h3, h4, h5, h6, h7, h8, h9, h10, h11, h12, h13]⟩) = false := by simpa using hh
  clear hh
  refine gw_skip (nx_blk_nrm (nx_then (gw_region (ad_ rfl rfl (mv_ rfl (wl_nil ?_))))))
  exact nx_round (i + 1) ⟨by omega, by rw [hinv.2, hat, if_neg (by rw [hq]; decide)]⟩ (by omega) ⟨rfl, rfl, rfl, (some_int (by omega)), trivial⟩ (fun _ hm => hm.pick [] [] [0, 1] rfl rfl)
 have hi : ¬ (((i : Nat) : Int) < ((n : Nat) : Int)) := by simpa using hh
 clear hh
 refine gw_exit ?_
 refine nx_then_exit (nx_then_exit ?_)
 refine nx_blk_here ?_
 refine nx_then (sr_ (sg_ rfl ?_))
 refine wl_set 4 (v' := .int .i64 (-1)) rfl rfl ?_
 refine nn_ ?_
 refine gw_ret ?_
 refine nx_ret1 rfl rfl fun wx hm => ?_
 exact ⟨ret_int (by rw [hinv.2, List.drop_eq_nil_of_le (by omega)]; rfl), hm.g⟩
theorem stHas_cf (l : List St) (A : Option Addr) (n c0 : Nat) (gk : Nat) (k : ByteArray) (w : World) (hl : SlT stEnc 15 105 w A n l) (hok : ∀ x ∈ l, StOk x) (hn : n ≤ 1000000) (hk : Blk w gk 9 [.string k]) :
  Calls Tryz.prog 210 #[.slice A n c0, .func (.func 211) #[] #[.pointer (some ⟨gk, 0, none⟩)]] w (fun e w' => e = .returned (.bool (l.any (stP k))) ∧ w.grownBy w' none) := by
 refine gw_enter ⟨9, w, none, []⟩ Tryz.func210 rfl Tryz.ntmps210 rfl (mem0 (X := [SlOld stEnc 15 105 w.heap.size none A n l, BlkOld w.heap.size none gk 9 [.string k]]) (allF_cons hl.old (allF_cons hk.old allF_nil)) (allL_cons SlOld.lasts (allL_cons BlkOld.lasts allL_nil))) ?_
 refine sr_ (sg_ rfl (nn_ (sr_ (mv_ rfl (mv_ rfl ?_)))))
 refine wl_callv rfl cb138 rfl rfl (fun wx hm => (stHas_ix l A n c0 gk k wx (hm.fact 0 rfl).1 hok hn (hm.fact 1 rfl).2)) ?_
 refine wl_ov (ov_geq rfl rfl) rfl ?_
 refine sg_ rfl (nn_ ?_)
 refine gw_ret ?_
 refine nx_ret1 rfl rfl fun wx hm => ?_
 exact ⟨by rw [← ix_any], hm.g⟩
theorem rStationAt_any (sl : List St) (sA cA vA pA : Option Addr) (sn sc cn cc vn vc pn pc : Nat) (k : ByteArray) (w : World) (hs : SlT stEnc 15 105 w sA sn sl) (hsok : ∀ x ∈ sl, StOk x) (hsn : sn ≤ 1000000) :
  Calls Tryz.prog 69 #[.agg #[.slice sA sn sc, .slice cA cn cc, .slice vA vn vc, .slice pA pn pc], .string k] w (fun e w' => e = .returned (.int .i64 (ixP (stP k) sl 0)) ∧ w.grownBy w' none) := by
 refine gw_enter ⟨9, w, none, []⟩ Tryz.func69 rfl Tryz.ntmps69 rfl (mem0 (X := [SlOld stEnc 15 105 w.heap.size none sA sn sl]) (allF_cons hs.old allF_nil) (allL_cons SlOld.lasts allL_nil)) ?_
 refine sr_ ?_
 refine wl_box rfl rfl rfl fun g1 => ?_
 refine wl_box rfl rfl rfl fun g2 => ?_
 refine sg_ rfl (nn_ (sr_ (fd_ fo31_0 rfl rfl (lk_ sc26 1 rfl rfl rfl (wl_ov (ov_makeFunc rfl rfl) rfl ?_)))))
 refine wl_callv rfl cb138 rfl rfl (fun wx hm => (stAt_ix sl sA sn sc _ k wx (hm.fact 0 rfl).1 hsok hsn (hm.blkI 0 rfl))) ?_
 refine sg_ rfl (nn_ ?_)
 refine gw_ret ?_
 refine nx_ret1 rfl rfl fun wx hm => ?_
 exact ⟨rfl, hm.g⟩
theorem hasStation_any (sl : List St) (sA cA vA pA : Option Addr) (sn sc cn cc vn vc pn pc : Nat) (k : ByteArray) (w : World) (hs : SlT stEnc 15 105 w sA sn sl) (hsok : ∀ x ∈ sl, StOk x) (hsn : sn ≤ 1000000) :
  Calls Tryz.prog 146 #[.agg #[.slice sA sn sc, .slice cA cn cc, .slice vA vn vc, .slice pA pn pc], .string k] w (fun e w' => e = .returned (.bool (sl.any (stP k))) ∧ w.grownBy w' none) := by
 refine gw_enter ⟨9, w, none, []⟩ Tryz.func146 rfl Tryz.ntmps146 rfl (mem0 (X := [SlOld stEnc 15 105 w.heap.size none sA sn sl]) (allF_cons hs.old allF_nil) (allL_cons SlOld.lasts allL_nil)) ?_
 refine sr_ ?_
 refine wl_box rfl rfl rfl fun g1 => ?_
 refine wl_box rfl rfl rfl fun g2 => ?_
 refine sg_ rfl (nn_ (sr_ (fd_ fo31_0 rfl rfl (lk_ sc26 1 rfl rfl rfl (wl_ov (ov_makeFunc rfl rfl) rfl ?_)))))
 refine wl_callv rfl cb210 rfl rfl (fun wx hm => (stHas_cf sl sA sn sc _ k wx (hm.fact 0 rfl).1 hsok hsn (hm.blkI 0 rfl))) ?_
 refine sg_ rfl (nn_ ?_)
 refine gw_ret ?_
 refine nx_ret1 rfl rfl fun wx hm => ?_
 exact ⟨rfl, hm.g⟩
theorem byTime_any (p0 : Int) (p1 p2 : ByteArray) (p3 : Int) (p4 : ByteArray) (e0 : Int) (e1 e2 : ByteArray) (e3 : Int) (e4 : ByteArray) (w : World) : Calls Tryz.prog 79 #[.agg #[.int .i64 p0, .string p1, .string p2, .int .i64 p3, .string p4], .agg #[.int .i64 e0, .string e1, .string e2, .int .i64 e3, .string e4]] w (GotE w (evOrd (⟨p0, p1, p2, p3, p4⟩ : Ev) (⟨e0, e1, e2, e3, e4⟩ : Ev))) := by
 refine gw_enter ⟨17, w, none, []⟩ Tryz.func79 rfl Tryz.ntmps79 rfl (mem0 (X := []) allF_nil allL_nil) ?_
 refine sr_ ?_
 refine wl_box rfl rfl rfl fun g1 => ?_
 refine wl_box rfl rfl rfl fun g2 => ?_
 refine sg_ rfl (nn_ (gw_seq ?_))
 refine gd (fun wz => Blk wz g2 74 [.int .i64 e0, .string e1, .string e2, .int .i64 e3, .string e4] ∧ Blk wz g1 74 [.int .i64 p0, .string p1, .string p2, .int .i64 p3, .string p4] ∧ True) mixed (fun _ hm => ⟨hm.bl 0, hm.bl 1, trivial⟩) fun z => ?_
 refine wt 0 13 1 rfl z (ov_field fo74_0 rfl rfl) ?_
 refine wt 1 13 3 rfl z (ov_load sc3 rfl (fun _ hm => hm.2.1) rfl) ?_
 refine wt 2 13 7 rfl z (ov_field fo74_0 rfl rfl) ?_
 refine wt 3 13 15 rfl z (ov_load sc3 rfl (fun _ hm => hm.1) rfl) ?_
 refine wt 5 13 47 rfl z (ov_field fo74_1 rfl rfl) ?_
 refine wt 6 13 111 rfl z (ov_load sc9 rfl (fun _ hm => hm.2.1) rfl) ?_
 refine wt 7 13 239 rfl z (ov_field fo74_1 rfl rfl) ?_
 refine wt 8 13 495 rfl z (ov_load sc9 rfl (fun _ hm => hm.1) rfl) ?_
 refine wa1 4 rfl ?_
 refine wl_callv rfl cb51 rfl rfl (fun wx hm => (cmp_int _ _ wx)) ?_
 refine wl_nil ?_
 refine nw 13 511 (fun _ hm => ⟨hm.bl 0, hm.bl 1, trivial⟩) fun z => ?_
 refine wa1 9 rfl ?_
 refine wl_callv rfl cb52 rfl rfl (fun wx hm => (cmp_string _ _ wx)) ?_
 refine wl_nil ?_
 refine nw 13 1023 (fun _ hm => ⟨hm.bl 0, hm.bl 1, trivial⟩) fun z => ?_
 refine wa1 10 rfl ?_
 refine wl_buildSlice (e := 3) (cs := [.int .i64 (cmpI p0 e0), .int .i64 (cmpS p1 e1)]) rfl (by kernel_rfl) rfl fun g3 => ?_
 refine wl_nil ?_
 refine nw 13 2047 (fun _ hm => ⟨hm.bl 1, hm.bl 2, trivial⟩) fun z => ?_
 refine wa1 11 rfl ?_
 refine wl_callv rfl cb50 rfl rfl (fun wx hm => (or_two _ _ _ _ _ wx (hm.blkI 0 rfl))) ?_
 refine wl_nil ?_
 refine nw 13 4095 (fun _ hm => ⟨hm.bl 1, hm.bl 2, trivial⟩) fun z => ?_
 refine wt 12 13 8191 rfl z (ov_assign rfl) ?_
 refine wa_done (by kernel_rfl) ?_
 refine nx_then ?_
 refine gw_ret ?_
 refine nx_ret1 rfl rfl fun wx hm => ?_
 exact ⟨ret_int (by unfold evOrd; rfl), hm.g⟩
theorem ordE_ne {p0 e0 : Int} {p1 p2 e1 e2 p4 e4 : ByteArray} {p3 e3 : Int} (h : ¬ p0 = e0) : sgV3 (p0 - e0) = evOrd ⟨p0, p1, p2, p3, p4⟩ ⟨e0, e1, e2, e3, e4⟩ := by
  have h2 : cmpI p0 e0 ≠ 0 := fun e => h (cmpI_zero.1 e)
  have h3 : evOrd ⟨p0, p1, p2, p3, p4⟩ ⟨e0, e1, e2, e3, e4⟩ = cmpI p0 e0 := by simp [evOrd, firstE, h2]
  rw [h3]
  unfold sgV3 cmpI
  split <;> split <;> (try split) <;> (try split) <;> omega
theorem ordE_eq {p0 e0 : Int} {p1 p2 e1 e2 p4 e4 : ByteArray} {p3 e3 : Int} (h : p0 = e0) : cmpS p1 e1 = evOrd ⟨p0, p1, p2, p3, p4⟩ ⟨e0, e1, e2, e3, e4⟩ := by
  have h2 : cmpI p0 e0 = 0 := cmpI_zero.2 h
  by_cases h3 : cmpS p1 e1 = 0
  · simp [evOrd, firstE, h2, h3]
  · simp only [evOrd, firstE, h2, if_true, if_neg h3]
theorem eventOrder_any (p0 : Int) (p1 p2 : ByteArray) (p3 : Int) (p4 : ByteArray) (e0 : Int) (e1 e2 : ByteArray) (e3 : Int) (e4 : ByteArray) (w : World) (hp : -4000000000000000000 ≤ p0 ∧ p0 ≤ 4000000000000000000) (he : -4000000000000000000 ≤ e0 ∧ e0 ≤ 4000000000000000000) : Calls Tryz.prog 71 #[.agg #[.int .i64 p0, .string p1, .string p2, .int .i64 p3, .string p4], .agg #[.int .i64 e0, .string e1, .string e2, .int .i64 e3, .string e4]] w (GotE w (evOrd (⟨p0, p1, p2, p3, p4⟩ : Ev) (⟨e0, e1, e2, e3, e4⟩ : Ev))) := by
 refine gw_enter ⟨21, w, none, []⟩ Tryz.func71 rfl Tryz.ntmps71 rfl (mem0 (X := []) allF_nil allL_nil) ?_
 refine sr_ ?_
 refine wl_box rfl rfl rfl fun g1 => ?_
 refine wl_box rfl rfl rfl fun g2 => ?_
 refine sg_ rfl (nn_ (gw_seq (sr_ (fd_ fo74_0 rfl rfl (lk_ sc3 1 rfl rfl rfl (fd_ fo74_0 rfl rfl (lk_ sc3 0 rfl rfl rfl (wl_ov (ov_neq rfl rfl) rfl (nn_ ?_)))))))))
 refine gw_cond rfl (fun hh => ?_) (fun hh => ?_)
 ·have hne : ¬ (p0 = e0) := by simpa using hh
  clear hh
  refine sr_ (fd_ fo74_0 rfl rfl (lk_ sc3 1 rfl rfl rfl (fd_ fo74_0 rfl rfl (lk_ sc3 0 rfl rfl rfl ?_))))
  refine wl_ov (ov_sub rfl rfl (by omega) (by omega)) rfl ?_
  refine wl_callv rfl cb140 rfl rfl (fun wx hm => (sign3_any _ wx)) ?_
  refine sg_ rfl (nn_ ?_)
  refine gw_ret ?_
  refine nx_then_ret ?_
  refine nx_ret1 rfl rfl fun wx hm => ?_
  exact ⟨ret_int (ordE_ne hne), hm.g⟩
 have hne : p0 = e0 := by simpa using hh
 clear hh
 refine gw_skip (nx_then (sr_ (fd_ fo74_1 rfl rfl (lk_ sc9 1 rfl rfl rfl (fd_ fo74_1 rfl rfl (lk_ sc9 0 rfl rfl rfl ?_))))))
 refine wl_callv rfl cb61 rfl rfl (fun wx hm => (strCompare_any _ _ wx)) ?_
 refine sg_ rfl (nn_ ?_)
 refine gw_ret ?_
 refine nx_ret1 rfl rfl fun wx hm => ?_
 exact ⟨ret_int (ordE_eq hne), hm.g⟩
theorem logFault_any (sl : List St) (vl : List Vh) (sA cA vA pA : Option Addr) (sn sc cn cc vn vc pn pc : Nat) (el : List Ev) (eA : Option Addr) (en ec : Nat) (w : World) (hs : SlT stEnc 15 105 w sA sn sl) (hv : SlT vhEnc 2 57 w vA vn vl) (hsok : ∀ x ∈ sl, StOk x) (hsn : sn ≤ 1000000) (hvn : vn ≤ 1000000) (hl : SlT evEnc 5 74 w eA en el) (heok : ∀ x ∈ el, EvOk x) (hen : en ≤ 1000000) :
  Calls Tryz.prog 20 #[.agg #[.slice sA sn sc, .slice cA cn cc, .slice vA vn vc, .slice pA pn pc], .slice eA en ec] w (GotE w (logE sl vl el)) := by
 refine gw_enter ⟨80, w, none, []⟩ Tryz.func20 rfl Tryz.ntmps20 rfl (mem0 (X := [SlOld stEnc 15 105 w.heap.size none sA sn sl, SlOld vhEnc 2 57 w.heap.size none vA vn vl, SlOld evEnc 5 74 w.heap.size none eA en el]) (allF_cons hs.old (allF_cons hv.old (allF_cons hl.old allF_nil))) (allL_cons SlOld.lasts (allL_cons SlOld.lasts (allL_cons SlOld.lasts allL_nil)))) ?_
 refine sr_ ?_
 have hlen := hl.len
 refine wl_box rfl rfl rfl fun g1 => ?_
 refine sg_ rfl (nn_ (gw_seq (sr_ (mv_ rfl (wl_ov (ov_len es47 rfl) rfl ?_)))))
 refine wl_ov (ov_gtr rfl rfl) rfl ?_
 refine nn_ ?_
 refine gw_cond rfl (fun hh => ?_) (fun hh => ?_)
 ·have h1 : 3000 < ((en : Nat) : Int) := by simpa using hh
  clear hh
  refine sr_ (sg_ rfl (nn_ ?_))
  refine gw_ret ?_
  refine nx_then_ret ?_
  refine nx_ret1 rfl rfl fun wx hm => ?_
  exact ⟨ret_int (by unfold logE; rw [if_pos (by omega)]), hm.g⟩
 have h1 : ¬ (3000 < ((en : Nat) : Int)) := by simpa using hh
 clear hh
 refine gw_skip (nx_then (gw_seq (sr_ (mv_ rfl (wl_ov (ov_len es47 rfl) rfl (mv_ rfl (nn_ (gw_block ?_))))))))
 refine gw_loop (γ := Nat) (fun (i : Nat) => i ≤ en ∧ logE sl vl el = scanE (evE sl vl) (prevOf el i) (el.drop i)) (fun (i : Nat) => [(1, .slice eA en ec), (2, .pointer (some ⟨g1, 0, none⟩)), (10, .slice eA en ec), (11, .int .i64 ((en : Nat) : Int)), (12, .int .i64 ((i : Nat) : Int))]) (fun (i : Nat) => fun _ => True) (fun (i : Nat) => [(g1, 31, [.slice sA sn sc, .slice cA cn cc, .slice vA vn vc, .slice pA pn pc])]) (fun (i : Nat) => []) (fun (i : Nat) => [SlOld stEnc 15 105 w.heap.size none sA sn sl, SlOld vhEnc 2 57 w.heap.size none vA vn vl, SlOld evEnc 5 74 w.heap.size none eA en el]) (fun (i : Nat) => en - i) 0 ⟨Nat.zero_le _, by unfold logE; rw [if_neg (by omega)]; rfl⟩ ⟨rfl, rfl, rfl, rfl, rfl, trivial⟩ (fun _ hm => hm.pick [0] [] [0, 1, 2] rfl rfl) ?_
 intro i hinv
 replace hinv : i ≤ en ∧ logE sl vl el = scanE (evE sl vl) (prevOf el i) (el.drop i) := hinv
 refine sr_ ?_
 obtain ⟨hi0, hsc⟩ := hinv
 refine wl_ov (ov_lss rfl rfl) rfl (nn_ (gw_seq ?_))
 refine gw_cond rfl (fun hh => ?_) (fun hh => ?_)
 ·have hi : ((i : Nat) : Int) < ((en : Nat) : Int) := by simpa using hh
  clear hh
  refine gw_skip (nx_then (gw_seq (gw_block (sr_ ?_))))
  obtain ⟨b, off, hA, _, _⟩ := hl.get (by omega)
  subst hA
  obtain ⟨x, hx⟩ : ∃ x, el[i]? = some x := ⟨_, List.getElem?_eq_getElem (by omega)⟩
  obtain ⟨e0, e1, e2, e3, e4⟩ := x
  have hat := scanE_at (evE sl vl) el i _ hx
  obtain ⟨he0, he3, hz1, hz2, hz4⟩ := heok _ (List.mem_of_getElem? hx)
  have he0 : -4000000000000000000 ≤ e0 ∧ e0 ≤ 4000000000000000000 := he0
  have hz1 : e1.size ≤ 1000000 := hz1
  refine mv_ rfl ?_
  refine wl_ov (ov_index (j := i) es47 rfl rfl (by omega)) rfl ?_
  refine wl_ov (ov_elem (vs := [.int .i64 e0, .string e1, .string e2, .int .i64 e3, .string e4]) rz74 rfl (fun _ hm => (hm.fact 2 rfl).1) hx rfl rfl) rfl ?_
  refine wl_alloc zc74 rfl fun g2 => ?_
  refine sg_ rfl ?_
  refine wl_stores (cs' := [.int .i64 e0, .string e1, .string e2, .int .i64 e3, .string e4]) 0 rz74 rfl rfl rfl rfl rfl rfl rfl rfl ?_
  refine nn_ (gw_block (sr_ (fd_ fo74_0 rfl rfl (lk_ sc3 0 rfl rfl rfl ?_))))
  refine wl_callw rfl cb67 rfl rfl (fun wx hm => (rmoment_any _ wx)) ?_
  refine wl_ov (ov_un_not rfl) rfl (sg_ rfl (nn_ ?_))
  rcases Bool.eq_false_or_eq_true (!(inB e0 0 5761439)) with h2 | h2
  ·refine gw_set 17 rfl (congrArg Value.bool h2) ?_
   have h2' : (inB e0 0 5761439) = false := by simpa only [Bool.not_eq_true', Bool.not_eq_false'] using h2
   refine ct_ rfl (sr_ (sg_ rfl (nn_ ?_)))
   refine gw_ret ?_
   refine nx_blk_ret (nx_blk_ret (nx_then_ret (nx_then_ret (nx_blk_ret (nx_then_ret ?_)))))
   have hE : evE sl vl (prevOf el i) (⟨e0, e1, e2, e3, e4⟩ : Ev) = 1 := by rw [evE_eq, h2']; rfl
   have hF : logE sl vl el = 1 := by rw [hsc, hat, if_neg (by rw [hE]; decide), hE]
   refine nx_ret1 rfl rfl fun wx hm => ?_
   exact ⟨ret_int (by rw [hF]), hm.g⟩
  refine gw_set 17 rfl (congrArg Value.bool h2) ?_
  have h2' : (inB e0 0 5761439) = true := by simpa only [Bool.not_eq_true', Bool.not_eq_false'] using h2
  refine cf_ rfl (sr_ ?_)
  refine wl_ov (ov_loads rz31 rfl (fun _ hm => hm.blkI 1 rfl) rfl rfl) rfl ?_
  refine fd_ fo74_1 rfl rfl (lk_ sc9 0 rfl rfl rfl ?_)
  refine wl_callv rfl cb68 rfl rfl (fun wx hm => (rVehicleAt_any vl sA cA vA pA sn sc cn cc vn vc pn pc e1 wx (hm.fact 1 rfl).1 (by omega))) ?_
  refine wl_ov (ov_lss rfl rfl) rfl (mv_ rfl ?_)
  rcases Bool.eq_false_or_eq_true (decide (ixP (vhP e1) vl 0 < 0)) with h3 | h3
  ·refine wl_set 28 rfl (congrArg Value.bool h3) ?_
   refine goff rfl rfl rfl (goff rfl rfl rfl (goff rfl rfl rfl (goff rfl rfl rfl (goff rfl rfl rfl (pt_ rfl rfl (sg_ rfl (nn_ (ct_ rfl (sr_ (sg_ rfl (wl_nil ?_)))))))))))
   refine nx_then ?_
   refine gw_ret ?_
   refine nx_blk_ret (nx_blk_ret (nx_then_ret (nx_then_ret (nx_blk_ret (nx_then_ret ?_)))))
   have hE : evE sl vl (prevOf el i) (⟨e0, e1, e2, e3, e4⟩ : Ev) = 8 := by rw [evE_eq, h2', h3]; rfl
   have hF : logE sl vl el = 8 := by rw [hsc, hat, if_neg (by rw [hE]; decide), hE]
   refine nx_ret1 rfl rfl fun wx hm => ?_
   exact ⟨ret_int (by rw [hF]), hm.g⟩
  refine wl_set 28 rfl (congrArg Value.bool h3) ?_
  refine wl_guard_on rfl rfl rfl ?_
  refine wl_ov (ov_loads rz31 rfl (fun _ hm => hm.blkI 1 rfl) rfl rfl) rfl ?_
  refine wl_guard_on rfl rfl rfl (fd_ fo74_2 rfl rfl (wl_guard_on rfl rfl rfl (lk_ sc9 0 rfl rfl rfl (wl_guard_on rfl rfl rfl ?_))))
  refine wl_callv rfl cb69 rfl rfl (fun wx hm => (rStationAt_any sl sA cA vA pA sn sc cn cc vn vc pn pc e2 wx (hm.fact 0 rfl).1 hsok (by omega))) ?_
  refine wl_guard_on rfl rfl rfl (wl_ov (ov_lss rfl rfl) rfl ?_)
  refine wl_set 33 (v' := .bool (!sl.any (stP e2))) rfl (congrArg Value.bool ix_neg) ?_
  refine pf_ rfl rfl (sg_ rfl (nn_ ?_))
  rcases Bool.eq_false_or_eq_true (!sl.any (stP e2)) with h4 | h4
  ·refine gw_set 22 rfl (congrArg Value.bool h4) ?_
   have h4' : (sl.any (stP e2)) = false := by simpa only [Bool.not_eq_true', Bool.not_eq_false'] using h4
   refine ct_ rfl (sr_ (sg_ rfl (nn_ ?_)))
   refine gw_ret ?_
   refine nx_blk_ret (nx_blk_ret (nx_then_ret (nx_then_ret (nx_blk_ret (nx_then_ret ?_)))))
   have hE : evE sl vl (prevOf el i) (⟨e0, e1, e2, e3, e4⟩ : Ev) = 8 := by rw [evE_eq, h2', h3, h4']; rfl
   have hF : logE sl vl el = 8 := by rw [hsc, hat, if_neg (by rw [hE]; decide), hE]
   refine nx_ret1 rfl rfl fun wx hm => ?_
   exact ⟨ret_int (by rw [hF]), hm.g⟩
  refine gw_set 22 rfl (congrArg Value.bool h4) ?_
  have h4' : (sl.any (stP e2)) = true := by simpa only [Bool.not_eq_true', Bool.not_eq_false'] using h4
  refine cf_ rfl (sr_ (fd_ fo74_3 rfl rfl (lk_ sc3 0 rfl rfl rfl ?_)))
  refine wl_callw rfl cb70 rfl rfl (fun wx hm => (rin_any _ _ _ wx)) ?_
  refine wl_ov (ov_un_not rfl) rfl (sg_ rfl (nn_ ?_))
  rcases Bool.eq_false_or_eq_true (!(inB e3 1 8)) with h5 | h5
  ·refine gw_set 35 rfl (congrArg Value.bool h5) ?_
   have h5' : (inB e3 1 8) = false := by simpa only [Bool.not_eq_true', Bool.not_eq_false'] using h5
   refine ct_ rfl (sr_ (sg_ rfl (nn_ ?_)))
   refine gw_ret ?_
   refine nx_blk_ret (nx_blk_ret (nx_then_ret (nx_then_ret (nx_blk_ret (nx_then_ret ?_)))))
   have hE : evE sl vl (prevOf el i) (⟨e0, e1, e2, e3, e4⟩ : Ev) = 4 := by rw [evE_eq, h2', h3, h4', h5']; rfl
   have hF : logE sl vl el = 4 := by rw [hsc, hat, if_neg (by rw [hE]; decide), hE]
   refine nx_ret1 rfl rfl fun wx hm => ?_
   exact ⟨ret_int (by rw [hF]), hm.g⟩
  refine gw_set 35 rfl (congrArg Value.bool h5) ?_
  have h5' : (inB e3 1 8) = true := by simpa only [Bool.not_eq_true', Bool.not_eq_false'] using h5
  refine cf_ rfl (sr_ (fd_ fo74_3 rfl rfl (lk_ sc3 0 rfl rfl rfl (wl_ov (ov_neq rfl rfl) rfl (mv_ rfl ?_)))))
  rcases Bool.eq_false_or_eq_true (!decide (e3 = 6)) with h6 | h6
  ·refine wl_set 44 rfl (congrArg Value.bool h6) ?_
   have h6' : (decide (e3 = 6)) = false := by simpa only [Bool.not_eq_true', Bool.not_eq_false'] using h6
   refine wl_guard_on rfl rfl rfl (fd_ fo74_4 rfl rfl (wl_guard_on rfl rfl rfl (lk_ sc9 0 rfl rfl rfl (wl_guard_on rfl rfl rfl (wl_ov (ov_sneq rfl rfl) rfl (pt_ rfl rfl (sg_ rfl (nn_ ?_))))))))
   rcases Bool.eq_false_or_eq_true (!(e4.toList == (⟨#[]⟩ : ByteArray).toList)) with h7 | h7
   ·refine gw_set 40 rfl (congrArg Value.bool h7) ?_
    have h7' : (e4.toList == (⟨#[]⟩ : ByteArray).toList) = false := by simpa only [Bool.not_eq_true', Bool.not_eq_false'] using h7
    refine ct_ rfl (sr_ (sg_ rfl (nn_ ?_)))
    refine gw_ret ?_
    refine nx_blk_ret (nx_blk_ret (nx_then_ret (nx_then_ret (nx_blk_ret (nx_then_ret ?_)))))
    have hE : evE sl vl (prevOf el i) (⟨e0, e1, e2, e3, e4⟩ : Ev) = 3 := by rw [evE_eq, h2', h3, h4', h5', h6', h7']; rfl
    have hF : logE sl vl el = 3 := by rw [hsc, hat, if_neg (by rw [hE]; decide), hE]
    refine nx_ret1 rfl rfl fun wx hm => ?_
    exact ⟨ret_int (by rw [hF]), hm.g⟩
   refine gw_set 40 rfl (congrArg Value.bool h7) ?_
   have h7' : (e4.toList == (⟨#[]⟩ : ByteArray).toList) = true := by simpa only [Bool.not_eq_true', Bool.not_eq_false'] using h7
   refine cf_ rfl (sr_ (fd_ fo74_3 rfl rfl (lk_ sc3 0 rfl rfl rfl (wl_ov (ov_eql rfl rfl) rfl (mv_ rfl ?_)))))
   refine wl_set 53 rfl (congrArg Value.bool (show (decide (e3 = 6)) = false from h6')) ?_
   refine goff rfl rfl rfl (goff rfl rfl rfl (goff rfl rfl rfl (goff rfl rfl rfl (goff rfl rfl rfl (pf_ rfl rfl (sg_ rfl (nn_ (cf_ rfl (sr_ (fd_ fo74_4 rfl rfl (lk_ sc9 0 rfl rfl rfl ?_)))))))))))
   refine fd_ fo74_2 rfl rfl (lk_ sc9 0 rfl rfl rfl (wl_ov (ov_seql rfl rfl) rfl (sg_ rfl (nn_ ?_))))
   rcases Bool.eq_false_or_eq_true (e4.toList == e2.toList) with h8 | h8
   ·refine gw_set 60 rfl (congrArg Value.bool h8) ?_
    refine ct_ rfl (sr_ (sg_ rfl (nn_ ?_)))
    refine gw_ret ?_
    refine nx_blk_ret (nx_blk_ret (nx_then_ret (nx_then_ret (nx_blk_ret (nx_then_ret ?_)))))
    have hE : evE sl vl (prevOf el i) (⟨e0, e1, e2, e3, e4⟩ : Ev) = 14 := by rw [evE_eq, h2', h3, h4', h5', h6', h7', h8]; rfl
    have hF : logE sl vl el = 14 := by rw [hsc, hat, if_neg (by rw [hE]; decide), hE]
    refine nx_ret1 rfl rfl fun wx hm => ?_
    exact ⟨ret_int (by rw [hF]), hm.g⟩
   refine gw_set 60 rfl (congrArg Value.bool h8) ?_
   refine cf_ rfl (gw_seq ?_)
   refine gd (fun wz => Blk wz g2 74 [.int .i64 e0, .string e1, .string e2, .int .i64 e3, .string e4] ∧ Blk wz g1 31 [.slice sA sn sc, .slice cA cn cc, .slice vA vn vc, .slice pA pn pc] ∧ (SlOld stEnc 15 105 w.heap.size none sA sn sl) wz ∧ (SlOld vhEnc 2 57 w.heap.size none vA vn vl) wz ∧ (SlOld evEnc 5 74 w.heap.size none (some ⟨b, off, none⟩) en el) wz ∧ True) mixed (fun _ hm => ⟨hm.bl 0, hm.bl 1, hm.fa 0, hm.fa 1, hm.fa 2, trivial⟩) fun z => ?_
   refine wt 0 13 1 rfl z (ov_move rfl) ?_
   refine wt 1 13 3 rfl z (ov_gtr rfl rfl) ?_
   refine wt 2 13 7 rfl z (ov_move rfl) ?_
   by_cases h0 : i = 0
   ·refine wa_set 69 rfl (congrArg Value.bool (decide_eq_false (by omega))) ?_
    refine wa_set 68 rfl (congrArg Value.bool (decide_eq_false (by omega))) ?_
    have hO : evO (prevOf el i) (⟨e0, e1, e2, e3, e4⟩ : Ev) = false := by rw [prevOf_zero h0]; rfl
    refine wtf 3 13 15 rfl rfl rfl z ?_
    refine wtf 4 13 31 rfl rfl rfl z ?_
    refine wtf 5 13 63 rfl rfl rfl z ?_
    refine wtf 6 13 127 rfl rfl rfl z ?_
    refine wtf 7 13 255 rfl rfl rfl z ?_
    refine wtf 8 13 511 rfl rfl rfl z ?_
    refine wtf 9 13 1023 rfl rfl rfl z ?_
    refine wtf 10 13 2047 rfl rfl rfl z ?_
    refine wt 11 13 4095 rfl z (ov_pick_f rfl rfl) ?_
    refine wt 12 13 8191 rfl z (ov_assign rfl) ?_
    refine wa_done (by kernel_rfl) ?_
    refine nx_then (cf_ rfl (gw_skip (nx_blk_nrm (nx_blk_nrm (nx_then (gw_region (ad_ rfl rfl (mv_ rfl (wl_nil ?_)))))))))
    have hE : evE sl vl (prevOf el i) (⟨e0, e1, e2, e3, e4⟩ : Ev) = 0 := by rw [evE_eq, h2', h3, h4', h5', h6', h7', h8, hO]; rfl
    exact nx_round (i + 1) ⟨by omega, by rw [hsc, hat, if_pos hE]⟩ (by omega) ⟨rfl, rfl, rfl, rfl, (some_int (by omega)), trivial⟩ (fun _ hm => hm.pick [1] [] [0, 1, 2] rfl rfl)
   refine wa_set 69 rfl (congrArg Value.bool (decide_eq_true (by omega))) ?_
   refine wa_set 68 rfl (congrArg Value.bool (decide_eq_true (by omega))) ?_
   obtain ⟨yy, hy⟩ : ∃ x, el[i - 1]? = some x := ⟨_, List.getElem?_eq_getElem (by omega)⟩
   obtain ⟨p0, p1, p2, p3, p4⟩ := yy
   obtain ⟨hp0, _, _, _, _⟩ := heok _ (List.mem_of_getElem? hy)
   have hp0 : -4000000000000000000 ≤ p0 ∧ p0 ≤ 4000000000000000000 := hp0
   have hpo := prevOf_pos h0 hy
   refine wto 3 13 15 rfl rfl rfl z (ov_move rfl) ?_
   refine wto 4 13 31 rfl rfl rfl z (ov_move rfl) ?_
   refine wto 5 13 63 rfl rfl rfl z (ov_sub rfl rfl (by omega) (by omega)) ?_
   refine wa_set 72 (v' := .int .i64 (((i - 1) : Nat) : Int)) rfl (congrArg (Value.int .i64) (by omega)) ?_
   refine wto 6 13 127 rfl rfl rfl z (ov_index (j := (i - 1)) es47 rfl rfl (by omega)) ?_
   refine wto 7 13 255 rfl rfl rfl z (ov_elem (vs := [.int .i64 p0, .string p1, .string p2, .int .i64 p3, .string p4]) rz74 rfl (fun _ hm => (hm.2.2.2.2.1).1) hy rfl rfl) ?_
   refine wto 8 13 511 rfl rfl rfl z (ov_loads rz74 rfl (fun _ hm => hm.1) rfl rfl) ?_
   refine wa1 9 rfl ?_
   refine wl_guard_on rfl rfl rfl ?_
   refine wl_callv rfl cb71 rfl rfl (fun wx hm => (eventOrder_any p0 p1 p2 p3 p4 e0 e1 e2 e3 e4 wx hp0 he0)) ?_
   refine wl_nil ?_
   refine nw 13 1023 (fun _ hm => ⟨hm.bl 0, hm.bl 1, hm.fa 0, hm.fa 1, hm.fa 2, trivial⟩) fun z => ?_
   refine wto 10 13 2047 rfl rfl rfl z (ov_geq rfl rfl) ?_
   refine wt 11 13 4095 rfl z (ov_pick_t rfl rfl) ?_
   refine wt 12 13 8191 rfl z (ov_assign rfl) ?_
   refine wa_done (by kernel_rfl) ?_
   refine nx_then ?_
   rcases Bool.eq_false_or_eq_true (decide (0 ≤ evOrd (⟨p0, p1, p2, p3, p4⟩ : Ev) (⟨e0, e1, e2, e3, e4⟩ : Ev))) with h9 | h9
   ·refine gw_set 66 rfl (congrArg Value.bool h9) ?_
    have hO : evO (prevOf el i) (⟨e0, e1, e2, e3, e4⟩ : Ev) = true := by rw [hpo]; exact h9
    refine ct_ rfl (sr_ (sg_ rfl (nn_ ?_)))
    refine gw_ret ?_
    refine nx_blk_ret (nx_blk_ret (nx_then_ret (nx_then_ret (nx_blk_ret (nx_then_ret ?_)))))
    have hE : evE sl vl (prevOf el i) (⟨e0, e1, e2, e3, e4⟩ : Ev) = 7 := by rw [evE_eq, h2', h3, h4', h5', h6', h7', h8, hO]; rfl
    have hF : logE sl vl el = 7 := by rw [hsc, hat, if_neg (by rw [hE]; decide), hE]
    refine nx_ret1 rfl rfl fun wx hm => ?_
    exact ⟨ret_int (by rw [hF]), hm.g⟩
   refine gw_set 66 rfl (congrArg Value.bool h9) ?_
   have hO : evO (prevOf el i) (⟨e0, e1, e2, e3, e4⟩ : Ev) = false := by rw [hpo]; exact h9
   refine cf_ rfl (gw_skip (nx_blk_nrm (nx_blk_nrm (nx_then (gw_region (ad_ rfl rfl (mv_ rfl (wl_nil ?_))))))))
   have hE : evE sl vl (prevOf el i) (⟨e0, e1, e2, e3, e4⟩ : Ev) = 0 := by rw [evE_eq, h2', h3, h4', h5', h6', h7', h8, hO]; rfl
   exact nx_round (i + 1) ⟨by omega, by rw [hsc, hat, if_pos hE]⟩ (by omega) ⟨rfl, rfl, rfl, rfl, (some_int (by omega)), trivial⟩ (fun _ hm => hm.pick [1] [] [0, 1, 2] rfl rfl)
  refine wl_set 44 rfl (congrArg Value.bool h6) ?_
  have h6' : (decide (e3 = 6)) = true := by simpa only [Bool.not_eq_true', Bool.not_eq_false'] using h6
  refine goff rfl rfl rfl (goff rfl rfl rfl (goff rfl rfl rfl (pf_ rfl rfl (sg_ rfl (nn_ (cf_ rfl (sr_ (fd_ fo74_3 rfl rfl (lk_ sc3 0 rfl rfl rfl (wl_ov (ov_eql rfl rfl) rfl (mv_ rfl ?_)))))))))))
  refine wl_set 53 rfl (congrArg Value.bool (show (decide (e3 = 6)) = true from h6')) ?_
  refine wl_guard_on rfl rfl rfl ?_
  refine wl_ov (ov_loads rz31 rfl (fun _ hm => hm.blkI 1 rfl) rfl rfl) rfl ?_
  refine wl_guard_on rfl rfl rfl (fd_ fo74_4 rfl rfl (wl_guard_on rfl rfl rfl (lk_ sc9 0 rfl rfl rfl (wl_guard_on rfl rfl rfl ?_))))
  refine wl_callv rfl cb69 rfl rfl (fun wx hm => (rStationAt_any sl sA cA vA pA sn sc cn cc vn vc pn pc e4 wx (hm.fact 0 rfl).1 hsok (by omega))) ?_
  refine wl_guard_on rfl rfl rfl (wl_ov (ov_lss rfl rfl) rfl ?_)
  refine wl_set 58 (v' := .bool (!sl.any (stP e4))) rfl (congrArg Value.bool ix_neg) ?_
  refine pt_ rfl rfl (sg_ rfl (nn_ ?_))
  rcases Bool.eq_false_or_eq_true (!sl.any (stP e4)) with h7 | h7
  ·refine gw_set 49 rfl (congrArg Value.bool h7) ?_
   have h7' : (sl.any (stP e4)) = false := by simpa only [Bool.not_eq_true', Bool.not_eq_false'] using h7
   refine ct_ rfl (sr_ (sg_ rfl (nn_ ?_)))
   refine gw_ret ?_
   refine nx_blk_ret (nx_blk_ret (nx_then_ret (nx_then_ret (nx_blk_ret (nx_then_ret ?_)))))
   have hE : evE sl vl (prevOf el i) (⟨e0, e1, e2, e3, e4⟩ : Ev) = 8 := by rw [evE_eq, h2', h3, h4', h5', h6', h7']; rfl
   have hF : logE sl vl el = 8 := by rw [hsc, hat, if_neg (by rw [hE]; decide), hE]
   refine nx_ret1 rfl rfl fun wx hm => ?_
   exact ⟨ret_int (by rw [hF]), hm.g⟩
  refine gw_set 49 rfl (congrArg Value.bool h7) ?_
  have h7' : (sl.any (stP e4)) = true := by simpa only [Bool.not_eq_true', Bool.not_eq_false'] using h7
  refine cf_ rfl (sr_ (fd_ fo74_4 rfl rfl (lk_ sc9 0 rfl rfl rfl (fd_ fo74_2 rfl rfl (lk_ sc9 0 rfl rfl rfl (wl_ov (ov_seql rfl rfl) rfl (sg_ rfl (nn_ ?_))))))))
  rcases Bool.eq_false_or_eq_true (e4.toList == e2.toList) with h8 | h8
  ·refine gw_set 60 rfl (congrArg Value.bool h8) ?_
   refine ct_ rfl (sr_ (sg_ rfl (nn_ ?_)))
   refine gw_ret ?_
   refine nx_blk_ret (nx_blk_ret (nx_then_ret (nx_then_ret (nx_blk_ret (nx_then_ret ?_)))))
   have hE : evE sl vl (prevOf el i) (⟨e0, e1, e2, e3, e4⟩ : Ev) = 14 := by rw [evE_eq, h2', h3, h4', h5', h6', h7', h8]; rfl
   have hF : logE sl vl el = 14 := by rw [hsc, hat, if_neg (by rw [hE]; decide), hE]
   refine nx_ret1 rfl rfl fun wx hm => ?_
   exact ⟨ret_int (by rw [hF]), hm.g⟩
  refine gw_set 60 rfl (congrArg Value.bool h8) ?_
  refine cf_ rfl (gw_seq ?_)
  refine gd (fun wz => Blk wz g2 74 [.int .i64 e0, .string e1, .string e2, .int .i64 e3, .string e4] ∧ Blk wz g1 31 [.slice sA sn sc, .slice cA cn cc, .slice vA vn vc, .slice pA pn pc] ∧ (SlOld stEnc 15 105 w.heap.size none sA sn sl) wz ∧ (SlOld vhEnc 2 57 w.heap.size none vA vn vl) wz ∧ (SlOld evEnc 5 74 w.heap.size none (some ⟨b, off, none⟩) en el) wz ∧ True) mixed (fun _ hm => ⟨hm.bl 0, hm.bl 1, hm.fa 0, hm.fa 1, hm.fa 2, trivial⟩) fun z => ?_
  refine wt 0 13 1 rfl z (ov_move rfl) ?_
  refine wt 1 13 3 rfl z (ov_gtr rfl rfl) ?_
  refine wt 2 13 7 rfl z (ov_move rfl) ?_
  by_cases h0 : i = 0
  ·refine wa_set 69 rfl (congrArg Value.bool (decide_eq_false (by omega))) ?_
   refine wa_set 68 rfl (congrArg Value.bool (decide_eq_false (by omega))) ?_
   have hO : evO (prevOf el i) (⟨e0, e1, e2, e3, e4⟩ : Ev) = false := by rw [prevOf_zero h0]; rfl
   refine wtf 3 13 15 rfl rfl rfl z ?_
   refine wtf 4 13 31 rfl rfl rfl z ?_
   refine wtf 5 13 63 rfl rfl rfl z ?_
   refine wtf 6 13 127 rfl rfl rfl z ?_
   refine wtf 7 13 255 rfl rfl rfl z ?_
   refine wtf 8 13 511 rfl rfl rfl z ?_
   refine wtf 9 13 1023 rfl rfl rfl z ?_
   refine wtf 10 13 2047 rfl rfl rfl z ?_
   refine wt 11 13 4095 rfl z (ov_pick_f rfl rfl) ?_
   refine wt 12 13 8191 rfl z (ov_assign rfl) ?_
   refine wa_done (by kernel_rfl) ?_
   refine nx_then (cf_ rfl (gw_skip (nx_blk_nrm (nx_blk_nrm (nx_then (gw_region (ad_ rfl rfl (mv_ rfl (wl_nil ?_)))))))))
   have hE : evE sl vl (prevOf el i) (⟨e0, e1, e2, e3, e4⟩ : Ev) = 0 := by rw [evE_eq, h2', h3, h4', h5', h6', h7', h8, hO]; rfl
   exact nx_round (i + 1) ⟨by omega, by rw [hsc, hat, if_pos hE]⟩ (by omega) ⟨rfl, rfl, rfl, rfl, (some_int (by omega)), trivial⟩ (fun _ hm => hm.pick [1] [] [0, 1, 2] rfl rfl)
  refine wa_set 69 rfl (congrArg Value.bool (decide_eq_true (by omega))) ?_
  refine wa_set 68 rfl (congrArg Value.bool (decide_eq_true (by omega))) ?_
  obtain ⟨yy, hy⟩ : ∃ x, el[i - 1]? = some x := ⟨_, List.getElem?_eq_getElem (by omega)⟩
  obtain ⟨p0, p1, p2, p3, p4⟩ := yy
  obtain ⟨hp0, _, _, _, _⟩ := heok _ (List.mem_of_getElem? hy)
  have hp0 : -4000000000000000000 ≤ p0 ∧ p0 ≤ 4000000000000000000 := hp0
  have hpo := prevOf_pos h0 hy
  refine wto 3 13 15 rfl rfl rfl z (ov_move rfl) ?_
  refine wto 4 13 31 rfl rfl rfl z (ov_move rfl) ?_
  refine wto 5 13 63 rfl rfl rfl z (ov_sub rfl rfl (by omega) (by omega)) ?_
  refine wa_set 72 (v' := .int .i64 (((i - 1) : Nat) : Int)) rfl (congrArg (Value.int .i64) (by omega)) ?_
  refine wto 6 13 127 rfl rfl rfl z (ov_index (j := (i - 1)) es47 rfl rfl (by omega)) ?_
  refine wto 7 13 255 rfl rfl rfl z (ov_elem (vs := [.int .i64 p0, .string p1, .string p2, .int .i64 p3, .string p4]) rz74 rfl (fun _ hm => (hm.2.2.2.2.1).1) hy rfl rfl) ?_
  refine wto 8 13 511 rfl rfl rfl z (ov_loads rz74 rfl (fun _ hm => hm.1) rfl rfl) ?_
  refine wa1 9 rfl ?_
  refine wl_guard_on rfl rfl rfl ?_
  refine wl_callv rfl cb71 rfl rfl (fun wx hm => (eventOrder_any p0 p1 p2 p3 p4 e0 e1 e2 e3 e4 wx hp0 he0)) ?_
  refine wl_nil ?_
  refine nw 13 1023 (fun _ hm => ⟨hm.bl 0, hm.bl 1, hm.fa 0, hm.fa 1, hm.fa 2, trivial⟩) fun z => ?_
  refine wto 10 13 2047 rfl rfl rfl z (ov_geq rfl rfl) ?_
  refine wt 11 13 4095 rfl z (ov_pick_t rfl rfl) ?_
  refine wt 12 13 8191 rfl z (ov_assign rfl) ?_
  refine wa_done (by kernel_rfl) ?_
  refine nx_then ?_
  rcases Bool.eq_false_or_eq_true (decide (0 ≤ evOrd (⟨p0, p1, p2, p3, p4⟩ : Ev) (⟨e0, e1, e2, e3, e4⟩ : Ev))) with h9 | h9
  ·refine gw_set 66 rfl (congrArg Value.bool h9) ?_
   have hO : evO (prevOf el i) (⟨e0, e1, e2, e3, e4⟩ : Ev) = true := by rw [hpo]; exact h9
   refine ct_ rfl (sr_ (sg_ rfl (nn_ ?_)))
   refine gw_ret ?_
   refine nx_blk_ret (nx_blk_ret (nx_then_ret (nx_then_ret (nx_blk_ret (nx_then_ret ?_)))))
   have hE : evE sl vl (prevOf el i) (⟨e0, e1, e2, e3, e4⟩ : Ev) = 7 := by rw [evE_eq, h2', h3, h4', h5', h6', h7', h8, hO]; rfl
   have hF : logE sl vl el = 7 := by rw [hsc, hat, if_neg (by rw [hE]; decide), hE]
   refine nx_ret1 rfl rfl fun wx hm => ?_
   exact ⟨ret_int (by rw [hF]), hm.g⟩
  refine gw_set 66 rfl (congrArg Value.bool h9) ?_
  have hO : evO (prevOf el i) (⟨e0, e1, e2, e3, e4⟩ : Ev) = false := by rw [hpo]; exact h9
  refine cf_ rfl (gw_skip (nx_blk_nrm (nx_blk_nrm (nx_then (gw_region (ad_ rfl rfl (mv_ rfl (wl_nil ?_))))))))
  have hE : evE sl vl (prevOf el i) (⟨e0, e1, e2, e3, e4⟩ : Ev) = 0 := by rw [evE_eq, h2', h3, h4', h5', h6', h7', h8, hO]; rfl
  exact nx_round (i + 1) ⟨by omega, by rw [hsc, hat, if_pos hE]⟩ (by omega) ⟨rfl, rfl, rfl, rfl, (some_int (by omega)), trivial⟩ (fun _ hm => hm.pick [1] [] [0, 1, 2] rfl rfl)
 have hi : ¬ (((i : Nat) : Int) < ((en : Nat) : Int)) := by simpa using hh
 clear hh
 refine gw_exit ?_
 refine nx_then_exit (nx_then_exit ?_)
 refine nx_blk_here ?_
 refine nx_then (sr_ (sg_ rfl (nn_ ?_)))
 refine gw_ret ?_
 refine nx_ret1 rfl rfl fun wx hm => ?_
 exact ⟨ret_int (by rw [hsc, scanE_end _ _ _ _ (by omega)]), hm.g⟩
theorem check_any (sl : List St) (vl : List Vh) (sA cA vA pA : Option Addr) (sn sc cn cc vn vc pn pc : Nat) (el : List Ev) (eA : Option Addr) (en ec : Nat) (w : World) (hs : SlT stEnc 15 105 w sA sn sl) (hv : SlT vhEnc 2 57 w vA vn vl) (hsok : ∀ x ∈ sl, StOk x) (hsn : sn ≤ 1000000) (hvn : vn ≤ 1000000) (hl : SlT evEnc 5 74 w eA en el) (heok : ∀ x ∈ el, EvOk x) (hen : en ≤ 1000000) (hrise : Rise vl) :
  Calls Tryz.prog 73 #[.agg #[.slice sA sn sc, .slice cA cn cc, .slice vA vn vc, .slice pA pn pc], .slice eA en ec] w (GotE w (logE sl vl el)) := by
 refine gw_enter ⟨81, w, none, []⟩ Tryz.func73 rfl Tryz.ntmps73 rfl (mem0 (X := [SlOld stEnc 15 105 w.heap.size none sA sn sl, SlOld vhEnc 2 57 w.heap.size none vA vn vl, SlOld evEnc 5 74 w.heap.size none eA en el]) (allF_cons hs.old (allF_cons hv.old (allF_cons hl.old allF_nil))) (allL_cons SlOld.lasts (allL_cons SlOld.lasts (allL_cons SlOld.lasts allL_nil)))) ?_
 refine sr_ ?_
 have hlen := hl.len
 refine wl_box rfl rfl rfl fun g1 => ?_
 refine sg_ rfl (nn_ (gw_seq (sr_ (mv_ rfl (wl_ov (ov_len es47 rfl) rfl ?_)))))
 refine wl_ov (ov_gtr rfl rfl) rfl ?_
 refine nn_ ?_
 refine gw_cond rfl (fun hh => ?_) (fun hh => ?_)
 ·have h1 : 3000 < ((en : Nat) : Int) := by simpa using hh
  clear hh
  refine sr_ (sg_ rfl (nn_ ?_))
  refine gw_ret ?_
  refine nx_then_ret ?_
  refine nx_ret1 rfl rfl fun wx hm => ?_
  exact ⟨ret_int (by unfold logE; rw [if_pos (by omega)]), hm.g⟩
 have h1 : ¬ (3000 < ((en : Nat) : Int)) := by simpa using hh
 clear hh
 refine gw_skip (nx_then (gw_seq (sr_ (mv_ rfl (wl_ov (ov_len es47 rfl) rfl (mv_ rfl (nn_ (gw_block ?_))))))))
 refine gw_loop (γ := Nat) (fun (i : Nat) => i ≤ en ∧ logE sl vl el = scanE (evE sl vl) (prevOf el i) (el.drop i)) (fun (i : Nat) => [(1, .slice eA en ec), (2, .pointer (some ⟨g1, 0, none⟩)), (11, .slice eA en ec), (12, .int .i64 ((en : Nat) : Int)), (13, .int .i64 ((i : Nat) : Int))]) (fun (i : Nat) => fun _ => True) (fun (i : Nat) => [(g1, 31, [.slice sA sn sc, .slice cA cn cc, .slice vA vn vc, .slice pA pn pc])]) (fun (i : Nat) => []) (fun (i : Nat) => [SlOld stEnc 15 105 w.heap.size none sA sn sl, SlOld vhEnc 2 57 w.heap.size none vA vn vl, SlOld evEnc 5 74 w.heap.size none eA en el]) (fun (i : Nat) => en - i) 0 ⟨Nat.zero_le _, by unfold logE; rw [if_neg (by omega)]; rfl⟩ ⟨rfl, rfl, rfl, rfl, rfl, trivial⟩ (fun _ hm => hm.pick [0] [] [0, 1, 2] rfl rfl) ?_
 intro i hinv
 replace hinv : i ≤ en ∧ logE sl vl el = scanE (evE sl vl) (prevOf el i) (el.drop i) := hinv
 refine sr_ ?_
 obtain ⟨hi0, hsc⟩ := hinv
 refine wl_ov (ov_lss rfl rfl) rfl (nn_ (gw_seq ?_))
 refine gw_cond rfl (fun hh => ?_) (fun hh => ?_)
 ·have hi : ((i : Nat) : Int) < ((en : Nat) : Int) := by simpa using hh
  clear hh
  refine gw_skip (nx_then (gw_seq (gw_block (sr_ ?_))))
  obtain ⟨b, off, hA, _, _⟩ := hl.get (by omega)
  subst hA
  obtain ⟨x, hx⟩ : ∃ x, el[i]? = some x := ⟨_, List.getElem?_eq_getElem (by omega)⟩
  obtain ⟨e0, e1, e2, e3, e4⟩ := x
  have hat := scanE_at (evE sl vl) el i _ hx
  obtain ⟨he0, he3, hz1, hz2, hz4⟩ := heok _ (List.mem_of_getElem? hx)
  have he0 : -4000000000000000000 ≤ e0 ∧ e0 ≤ 4000000000000000000 := he0
  have hz1 : e1.size ≤ 1000000 := hz1
  refine mv_ rfl ?_
  refine wl_ov (ov_index (j := i) es47 rfl rfl (by omega)) rfl ?_
  refine wl_ov (ov_elem (vs := [.int .i64 e0, .string e1, .string e2, .int .i64 e3, .string e4]) rz74 rfl (fun _ hm => (hm.fact 2 rfl).1) hx rfl rfl) rfl ?_
  refine wl_alloc zc74 rfl fun g2 => ?_
  refine sg_ rfl ?_
  refine wl_stores (cs' := [.int .i64 e0, .string e1, .string e2, .int .i64 e3, .string e4]) 0 rz74 rfl rfl rfl rfl rfl rfl rfl rfl ?_
  refine nn_ (sr_ (fd_ fo74_3 rfl rfl (lk_ sc3 0 rfl rfl rfl (wl_ov (ov_eql rfl rfl) rfl (sg_ rfl (nn_ (gw_block (sr_ (fd_ fo74_0 rfl rfl ?_)))))))))
  refine lk_ sc3 0 rfl rfl rfl ?_
  refine wl_callv rfl cb145 rfl rfl (fun wx hm => ((isMoment_any _ wx).mono fun _ _ ⟨he, hw⟩ => ⟨he, hw ▸ World.grownBy.refl _ _⟩)) ?_
  refine wl_ov (ov_un_not rfl) rfl (sg_ rfl (nn_ ?_))
  rcases Bool.eq_false_or_eq_true (!(inB e0 0 5761439)) with h2 | h2
  ·refine gw_set 21 rfl (congrArg Value.bool h2) ?_
   have h2' : (inB e0 0 5761439) = false := by simpa only [Bool.not_eq_true', Bool.not_eq_false'] using h2
   refine ct_ rfl (sr_ (sg_ rfl (nn_ ?_)))
   refine gw_ret ?_
   refine nx_blk_ret (nx_blk_ret (nx_then_ret (nx_then_ret (nx_blk_ret (nx_then_ret ?_)))))
   have hE : evE sl vl (prevOf el i) (⟨e0, e1, e2, e3, e4⟩ : Ev) = 1 := by rw [evE_eq, h2']; rfl
   have hF : logE sl vl el = 1 := by rw [hsc, hat, if_neg (by rw [hE]; decide), hE]
   refine nx_ret1 rfl rfl fun wx hm => ?_
   exact ⟨ret_int (by rw [hF]), hm.g⟩
  refine gw_set 21 rfl (congrArg Value.bool h2) ?_
  have h2' : (inB e0 0 5761439) = true := by simpa only [Bool.not_eq_true', Bool.not_eq_false'] using h2
  refine cf_ rfl (sr_ ?_)
  refine wl_ov (ov_loads rz31 rfl (fun _ hm => hm.blkI 1 rfl) rfl rfl) rfl ?_
  refine fd_ fo74_1 rfl rfl (lk_ sc9 0 rfl rfl rfl ?_)
  refine wl_callv rfl cb43 rfl rfl (fun wx hm => (vehicleAt_any vl sA cA vA pA sn sc cn cc vn vc pn pc e1 wx (hm.fact 1 rfl).1 (by omega) hrise)) ?_
  refine wl_ov (ov_lss rfl rfl) rfl (mv_ rfl ?_)
  rcases Bool.eq_false_or_eq_true (decide (ixP (vhP e1) vl 0 < 0)) with h3 | h3
  ·refine wl_set 32 rfl (congrArg Value.bool h3) ?_
   refine goff rfl rfl rfl (goff rfl rfl rfl (goff rfl rfl rfl (goff rfl rfl rfl (goff rfl rfl rfl (pt_ rfl rfl (sg_ rfl (nn_ (ct_ rfl (sr_ (sg_ rfl (wl_nil ?_)))))))))))
   refine nx_then ?_
   refine gw_ret ?_
   refine nx_blk_ret (nx_blk_ret (nx_then_ret (nx_then_ret (nx_blk_ret (nx_then_ret ?_)))))
   have hE : evE sl vl (prevOf el i) (⟨e0, e1, e2, e3, e4⟩ : Ev) = 8 := by rw [evE_eq, h2', h3]; rfl
   have hF : logE sl vl el = 8 := by rw [hsc, hat, if_neg (by rw [hE]; decide), hE]
   refine nx_ret1 rfl rfl fun wx hm => ?_
   exact ⟨ret_int (by rw [hF]), hm.g⟩
  refine wl_set 32 rfl (congrArg Value.bool h3) ?_
  refine wl_guard_on rfl rfl rfl ?_
  refine wl_ov (ov_loads rz31 rfl (fun _ hm => hm.blkI 1 rfl) rfl rfl) rfl ?_
  refine wl_guard_on rfl rfl rfl (fd_ fo74_2 rfl rfl (wl_guard_on rfl rfl rfl (lk_ sc9 0 rfl rfl rfl (wl_guard_on rfl rfl rfl ?_))))
  refine wl_callv rfl cb146 rfl rfl (fun wx hm => (hasStation_any sl sA cA vA pA sn sc cn cc vn vc pn pc e2 wx (hm.fact 0 rfl).1 hsok (by omega))) ?_
  refine wl_guard_on rfl rfl rfl (wl_ov (ov_un_not rfl) rfl (pf_ rfl rfl (sg_ rfl (nn_ ?_))))
  rcases Bool.eq_false_or_eq_true (!(sl.any (stP e2))) with h4 | h4
  ·refine gw_set 26 rfl (congrArg Value.bool h4) ?_
   have h4' : (sl.any (stP e2)) = false := by simpa only [Bool.not_eq_true', Bool.not_eq_false'] using h4
   refine ct_ rfl (sr_ (sg_ rfl (nn_ ?_)))
   refine gw_ret ?_
   refine nx_blk_ret (nx_blk_ret (nx_then_ret (nx_then_ret (nx_blk_ret (nx_then_ret ?_)))))
   have hE : evE sl vl (prevOf el i) (⟨e0, e1, e2, e3, e4⟩ : Ev) = 8 := by rw [evE_eq, h2', h3, h4']; rfl
   have hF : logE sl vl el = 8 := by rw [hsc, hat, if_neg (by rw [hE]; decide), hE]
   refine nx_ret1 rfl rfl fun wx hm => ?_
   exact ⟨ret_int (by rw [hF]), hm.g⟩
  refine gw_set 26 rfl (congrArg Value.bool h4) ?_
  have h4' : (sl.any (stP e2)) = true := by simpa only [Bool.not_eq_true', Bool.not_eq_false'] using h4
  refine cf_ rfl (sr_ (fd_ fo74_3 rfl rfl (lk_ sc3 0 rfl rfl rfl ?_)))
  refine wl_callw rfl cb92 rfl rfl (fun wx hm => (in_any _ _ _ wx)) ?_
  refine wl_ov (ov_un_not rfl) rfl (sg_ rfl (nn_ ?_))
  rcases Bool.eq_false_or_eq_true (!(inB e3 1 8)) with h5 | h5
  ·refine gw_set 39 rfl (congrArg Value.bool h5) ?_
   have h5' : (inB e3 1 8) = false := by simpa only [Bool.not_eq_true', Bool.not_eq_false'] using h5
   refine ct_ rfl (sr_ (sg_ rfl (nn_ ?_)))
   refine gw_ret ?_
   refine nx_blk_ret (nx_blk_ret (nx_then_ret (nx_then_ret (nx_blk_ret (nx_then_ret ?_)))))
   have hE : evE sl vl (prevOf el i) (⟨e0, e1, e2, e3, e4⟩ : Ev) = 4 := by rw [evE_eq, h2', h3, h4', h5']; rfl
   have hF : logE sl vl el = 4 := by rw [hsc, hat, if_neg (by rw [hE]; decide), hE]
   refine nx_ret1 rfl rfl fun wx hm => ?_
   exact ⟨ret_int (by rw [hF]), hm.g⟩
  refine gw_set 39 rfl (congrArg Value.bool h5) ?_
  have h5' : (inB e3 1 8) = true := by simpa only [Bool.not_eq_true', Bool.not_eq_false'] using h5
  refine cf_ rfl (sr_ (fd_ fo74_4 rfl rfl (lk_ sc9 0 rfl rfl rfl (wl_ov (ov_sneq rfl rfl) rfl (mv_ rfl ?_)))))
  rcases Bool.eq_false_or_eq_true (!(e4.toList == (⟨#[]⟩ : ByteArray).toList)) with h6 | h6
  ·refine wl_set 48 rfl (congrArg Value.bool h6) ?_
   have h6' : (e4.toList == (⟨#[]⟩ : ByteArray).toList) = false := by simpa only [Bool.not_eq_true', Bool.not_eq_false'] using h6
   refine wl_guard_on rfl rfl rfl (mv_ rfl (wl_guard_on rfl rfl rfl (wl_ov (ov_un_not rfl) rfl (pt_ rfl rfl (sg_ rfl (nn_ ?_))))))
   rcases Bool.eq_false_or_eq_true (!(decide (e3 = 6))) with h7 | h7
   ·refine gw_set 44 rfl (congrArg Value.bool h7) ?_
    have h7' : (decide (e3 = 6)) = false := by simpa only [Bool.not_eq_true', Bool.not_eq_false'] using h7
    refine ct_ rfl (sr_ (sg_ rfl (nn_ ?_)))
    refine gw_ret ?_
    refine nx_blk_ret (nx_blk_ret (nx_then_ret (nx_then_ret (nx_blk_ret (nx_then_ret ?_)))))
    have hE : evE sl vl (prevOf el i) (⟨e0, e1, e2, e3, e4⟩ : Ev) = 3 := by rw [evE_eq, h2', h3, h4', h5', h6', h7']; rfl
    have hF : logE sl vl el = 3 := by rw [hsc, hat, if_neg (by rw [hE]; decide), hE]
    refine nx_ret1 rfl rfl fun wx hm => ?_
    exact ⟨ret_int (by rw [hF]), hm.g⟩
   refine gw_set 44 rfl (congrArg Value.bool h7) ?_
   have h7' : (decide (e3 = 6)) = true := by simpa only [Bool.not_eq_true', Bool.not_eq_false'] using h7
   refine cf_ rfl (sr_ (mv_ rfl (mv_ rfl ?_)))
   refine wl_set 54 rfl (congrArg Value.bool (show (decide (e3 = 6)) = true from h7')) ?_
   refine wl_guard_on rfl rfl rfl ?_
   refine wl_ov (ov_loads rz31 rfl (fun _ hm => hm.blkI 1 rfl) rfl rfl) rfl ?_
   refine wl_guard_on rfl rfl rfl (fd_ fo74_4 rfl rfl (wl_guard_on rfl rfl rfl (lk_ sc9 0 rfl rfl rfl (wl_guard_on rfl rfl rfl ?_))))
   refine wl_callv rfl cb146 rfl rfl (fun wx hm => (hasStation_any sl sA cA vA pA sn sc cn cc vn vc pn pc e4 wx (hm.fact 0 rfl).1 hsok (by omega))) ?_
   refine wl_guard_on rfl rfl rfl (wl_ov (ov_un_not rfl) rfl (pt_ rfl rfl (sg_ rfl (nn_ ?_))))
   rcases Bool.eq_false_or_eq_true (!(sl.any (stP e4))) with h8 | h8
   ·refine gw_set 52 rfl (congrArg Value.bool h8) ?_
    have h8' : (sl.any (stP e4)) = false := by simpa only [Bool.not_eq_true', Bool.not_eq_false'] using h8
    refine ct_ rfl (sr_ (sg_ rfl (nn_ ?_)))
    refine gw_ret ?_
    refine nx_blk_ret (nx_blk_ret (nx_then_ret (nx_then_ret (nx_blk_ret (nx_then_ret ?_)))))
    have hE : evE sl vl (prevOf el i) (⟨e0, e1, e2, e3, e4⟩ : Ev) = 8 := by rw [evE_eq, h2', h3, h4', h5', h6', h7', h8']; rfl
    have hF : logE sl vl el = 8 := by rw [hsc, hat, if_neg (by rw [hE]; decide), hE]
    refine nx_ret1 rfl rfl fun wx hm => ?_
    exact ⟨ret_int (by rw [hF]), hm.g⟩
   refine gw_set 52 rfl (congrArg Value.bool h8) ?_
   have h8' : (sl.any (stP e4)) = true := by simpa only [Bool.not_eq_true', Bool.not_eq_false'] using h8
   refine cf_ rfl (sr_ (fd_ fo74_4 rfl rfl (lk_ sc9 0 rfl rfl rfl (fd_ fo74_2 rfl rfl (lk_ sc9 0 rfl rfl rfl (wl_ov (ov_seql rfl rfl) rfl (sg_ rfl (nn_ ?_))))))))
   rcases Bool.eq_false_or_eq_true (e4.toList == e2.toList) with h9 | h9
   ·refine gw_set 61 rfl (congrArg Value.bool h9) ?_
    refine ct_ rfl (sr_ (sg_ rfl (nn_ ?_)))
    refine gw_ret ?_
    refine nx_blk_ret (nx_blk_ret (nx_then_ret (nx_then_ret (nx_blk_ret (nx_then_ret ?_)))))
    have hE : evE sl vl (prevOf el i) (⟨e0, e1, e2, e3, e4⟩ : Ev) = 14 := by rw [evE_eq, h2', h3, h4', h5', h6', h7', h8', h9]; rfl
    have hF : logE sl vl el = 14 := by rw [hsc, hat, if_neg (by rw [hE]; decide), hE]
    refine nx_ret1 rfl rfl fun wx hm => ?_
    exact ⟨ret_int (by rw [hF]), hm.g⟩
   refine gw_set 61 rfl (congrArg Value.bool h9) ?_
   refine cf_ rfl (gw_seq ?_)
   refine gd (fun wz => Blk wz g2 74 [.int .i64 e0, .string e1, .string e2, .int .i64 e3, .string e4] ∧ Blk wz g1 31 [.slice sA sn sc, .slice cA cn cc, .slice vA vn vc, .slice pA pn pc] ∧ (SlOld stEnc 15 105 w.heap.size none sA sn sl) wz ∧ (SlOld vhEnc 2 57 w.heap.size none vA vn vl) wz ∧ (SlOld evEnc 5 74 w.heap.size none (some ⟨b, off, none⟩) en el) wz ∧ True) mixed (fun _ hm => ⟨hm.bl 0, hm.bl 1, hm.fa 0, hm.fa 1, hm.fa 2, trivial⟩) fun z => ?_
   refine wt 0 13 1 rfl z (ov_move rfl) ?_
   refine wt 1 13 3 rfl z (ov_gtr rfl rfl) ?_
   refine wt 2 13 7 rfl z (ov_move rfl) ?_
   by_cases h0 : i = 0
   ·refine wa_set 70 rfl (congrArg Value.bool (decide_eq_false (by omega))) ?_
    refine wa_set 69 rfl (congrArg Value.bool (decide_eq_false (by omega))) ?_
    have hO : evO (prevOf el i) (⟨e0, e1, e2, e3, e4⟩ : Ev) = false := by rw [prevOf_zero h0]; rfl
    refine wtf 3 13 15 rfl rfl rfl z ?_
    refine wtf 4 13 31 rfl rfl rfl z ?_
    refine wtf 5 13 63 rfl rfl rfl z ?_
    refine wtf 6 13 127 rfl rfl rfl z ?_
    refine wtf 7 13 255 rfl rfl rfl z ?_
    refine wtf 8 13 511 rfl rfl rfl z ?_
    refine wtf 9 13 1023 rfl rfl rfl z ?_
    refine wtf 10 13 2047 rfl rfl rfl z ?_
    refine wt 11 13 4095 rfl z (ov_pick_f rfl rfl) ?_
    refine wt 12 13 8191 rfl z (ov_assign rfl) ?_
    refine wa_done (by kernel_rfl) ?_
    refine nx_then (cf_ rfl (gw_skip (nx_blk_nrm (nx_blk_nrm (nx_then (gw_region (ad_ rfl rfl (mv_ rfl (wl_nil ?_)))))))))
    have hE : evE sl vl (prevOf el i) (⟨e0, e1, e2, e3, e4⟩ : Ev) = 0 := by rw [evE_eq, h2', h3, h4', h5', h6', h7', h8', h9, hO]; rfl
    exact nx_round (i + 1) ⟨by omega, by rw [hsc, hat, if_pos hE]⟩ (by omega) ⟨rfl, rfl, rfl, rfl, (some_int (by omega)), trivial⟩ (fun _ hm => hm.pick [1] [] [0, 1, 2] rfl rfl)
   refine wa_set 70 rfl (congrArg Value.bool (decide_eq_true (by omega))) ?_
   refine wa_set 69 rfl (congrArg Value.bool (decide_eq_true (by omega))) ?_
   obtain ⟨yy, hy⟩ : ∃ x, el[i - 1]? = some x := ⟨_, List.getElem?_eq_getElem (by omega)⟩
   obtain ⟨p0, p1, p2, p3, p4⟩ := yy
   obtain ⟨hp0, _, _, _, _⟩ := heok _ (List.mem_of_getElem? hy)
   have hp0 : -4000000000000000000 ≤ p0 ∧ p0 ≤ 4000000000000000000 := hp0
   have hpo := prevOf_pos h0 hy
   refine wto 3 13 15 rfl rfl rfl z (ov_move rfl) ?_
   refine wto 4 13 31 rfl rfl rfl z (ov_move rfl) ?_
   refine wto 5 13 63 rfl rfl rfl z (ov_sub rfl rfl (by omega) (by omega)) ?_
   refine wa_set 73 (v' := .int .i64 (((i - 1) : Nat) : Int)) rfl (congrArg (Value.int .i64) (by omega)) ?_
   refine wto 6 13 127 rfl rfl rfl z (ov_index (j := (i - 1)) es47 rfl rfl (by omega)) ?_
   refine wto 7 13 255 rfl rfl rfl z (ov_elem (vs := [.int .i64 p0, .string p1, .string p2, .int .i64 p3, .string p4]) rz74 rfl (fun _ hm => (hm.2.2.2.2.1).1) hy rfl rfl) ?_
   refine wto 8 13 511 rfl rfl rfl z (ov_loads rz74 rfl (fun _ hm => hm.1) rfl rfl) ?_
   refine wa1 9 rfl ?_
   refine wl_guard_on rfl rfl rfl ?_
   refine wl_callv (v := .int .i64 (evOrd (⟨p0, p1, p2, p3, p4⟩ : Ev) (⟨e0, e1, e2, e3, e4⟩ : Ev))) rfl cb79 rfl rfl (fun wx hm => (byTime_any p0 p1 p2 p3 p4 e0 e1 e2 e3 e4 wx)) ?_
   refine wl_nil ?_
   refine nw 13 1023 (fun _ hm => ⟨hm.bl 0, hm.bl 1, hm.fa 0, hm.fa 1, hm.fa 2, trivial⟩) fun z => ?_
   refine wto 10 13 2047 rfl rfl rfl z (ov_geq rfl rfl) ?_
   refine wt 11 13 4095 rfl z (ov_pick_t rfl rfl) ?_
   refine wt 12 13 8191 rfl z (ov_assign rfl) ?_
   refine wa_done (by kernel_rfl) ?_
   refine nx_then ?_
   rcases Bool.eq_false_or_eq_true (decide (0 ≤ evOrd (⟨p0, p1, p2, p3, p4⟩ : Ev) (⟨e0, e1, e2, e3, e4⟩ : Ev))) with h10 | h10
   ·refine gw_set 67 rfl (congrArg Value.bool h10) ?_
    have hO : evO (prevOf el i) (⟨e0, e1, e2, e3, e4⟩ : Ev) = true := by rw [hpo]; exact h10
    refine ct_ rfl (sr_ (sg_ rfl (nn_ ?_)))
    refine gw_ret ?_
    refine nx_blk_ret (nx_blk_ret (nx_then_ret (nx_then_ret (nx_blk_ret (nx_then_ret ?_)))))
    have hE : evE sl vl (prevOf el i) (⟨e0, e1, e2, e3, e4⟩ : Ev) = 7 := by rw [evE_eq, h2', h3, h4', h5', h6', h7', h8', h9, hO]; rfl
    have hF : logE sl vl el = 7 := by rw [hsc, hat, if_neg (by rw [hE]; decide), hE]
    refine nx_ret1 rfl rfl fun wx hm => ?_
    exact ⟨ret_int (by rw [hF]), hm.g⟩
   refine gw_set 67 rfl (congrArg Value.bool h10) ?_
   have hO : evO (prevOf el i) (⟨e0, e1, e2, e3, e4⟩ : Ev) = false := by rw [hpo]; exact h10
   refine cf_ rfl (gw_skip (nx_blk_nrm (nx_blk_nrm (nx_then (gw_region (ad_ rfl rfl (mv_ rfl (wl_nil ?_))))))))
   have hE : evE sl vl (prevOf el i) (⟨e0, e1, e2, e3, e4⟩ : Ev) = 0 := by rw [evE_eq, h2', h3, h4', h5', h6', h7', h8', h9, hO]; rfl
   exact nx_round (i + 1) ⟨by omega, by rw [hsc, hat, if_pos hE]⟩ (by omega) ⟨rfl, rfl, rfl, rfl, (some_int (by omega)), trivial⟩ (fun _ hm => hm.pick [1] [] [0, 1, 2] rfl rfl)
  refine wl_set 48 rfl (congrArg Value.bool h6) ?_
  have h6' : (e4.toList == (⟨#[]⟩ : ByteArray).toList) = true := by simpa only [Bool.not_eq_true', Bool.not_eq_false'] using h6
  refine goff rfl rfl rfl (goff rfl rfl rfl (pf_ rfl rfl (sg_ rfl (nn_ (cf_ rfl (sr_ (mv_ rfl (mv_ rfl ?_))))))))
  rcases Bool.eq_false_or_eq_true (decide (e3 = 6)) with h7 | h7
  ·refine wl_set 54 rfl (congrArg Value.bool h7) ?_
   refine wl_guard_on rfl rfl rfl ?_
   refine wl_ov (ov_loads rz31 rfl (fun _ hm => hm.blkI 1 rfl) rfl rfl) rfl ?_
   refine wl_guard_on rfl rfl rfl (fd_ fo74_4 rfl rfl (wl_guard_on rfl rfl rfl (lk_ sc9 0 rfl rfl rfl (wl_guard_on rfl rfl rfl ?_))))
   refine wl_callv rfl cb146 rfl rfl (fun wx hm => (hasStation_any sl sA cA vA pA sn sc cn cc vn vc pn pc e4 wx (hm.fact 0 rfl).1 hsok (by omega))) ?_
   refine wl_guard_on rfl rfl rfl (wl_ov (ov_un_not rfl) rfl (pt_ rfl rfl (sg_ rfl (nn_ ?_))))
   rcases Bool.eq_false_or_eq_true (!(sl.any (stP e4))) with h8 | h8
   ·refine gw_set 52 rfl (congrArg Value.bool h8) ?_
    have h8' : (sl.any (stP e4)) = false := by simpa only [Bool.not_eq_true', Bool.not_eq_false'] using h8
    refine ct_ rfl (sr_ (sg_ rfl (nn_ ?_)))
    refine gw_ret ?_
    refine nx_blk_ret (nx_blk_ret (nx_then_ret (nx_then_ret (nx_blk_ret (nx_then_ret ?_)))))
    have hE : evE sl vl (prevOf el i) (⟨e0, e1, e2, e3, e4⟩ : Ev) = 8 := by rw [evE_eq, h2', h3, h4', h5', h6', h7, h8']; rfl
    have hF : logE sl vl el = 8 := by rw [hsc, hat, if_neg (by rw [hE]; decide), hE]
    refine nx_ret1 rfl rfl fun wx hm => ?_
    exact ⟨ret_int (by rw [hF]), hm.g⟩
   refine gw_set 52 rfl (congrArg Value.bool h8) ?_
   have h8' : (sl.any (stP e4)) = true := by simpa only [Bool.not_eq_true', Bool.not_eq_false'] using h8
   refine cf_ rfl (sr_ (fd_ fo74_4 rfl rfl (lk_ sc9 0 rfl rfl rfl (fd_ fo74_2 rfl rfl (lk_ sc9 0 rfl rfl rfl (wl_ov (ov_seql rfl rfl) rfl (sg_ rfl (nn_ ?_))))))))
   rcases Bool.eq_false_or_eq_true (e4.toList == e2.toList) with h9 | h9
   ·refine gw_set 61 rfl (congrArg Value.bool h9) ?_
    refine ct_ rfl (sr_ (sg_ rfl (nn_ ?_)))
    refine gw_ret ?_
    refine nx_blk_ret (nx_blk_ret (nx_then_ret (nx_then_ret (nx_blk_ret (nx_then_ret ?_)))))
    have hE : evE sl vl (prevOf el i) (⟨e0, e1, e2, e3, e4⟩ : Ev) = 14 := by rw [evE_eq, h2', h3, h4', h5', h6', h7, h8', h9]; rfl
    have hF : logE sl vl el = 14 := by rw [hsc, hat, if_neg (by rw [hE]; decide), hE]
    refine nx_ret1 rfl rfl fun wx hm => ?_
    exact ⟨ret_int (by rw [hF]), hm.g⟩
   refine gw_set 61 rfl (congrArg Value.bool h9) ?_
   refine cf_ rfl (gw_seq ?_)
   refine gd (fun wz => Blk wz g2 74 [.int .i64 e0, .string e1, .string e2, .int .i64 e3, .string e4] ∧ Blk wz g1 31 [.slice sA sn sc, .slice cA cn cc, .slice vA vn vc, .slice pA pn pc] ∧ (SlOld stEnc 15 105 w.heap.size none sA sn sl) wz ∧ (SlOld vhEnc 2 57 w.heap.size none vA vn vl) wz ∧ (SlOld evEnc 5 74 w.heap.size none (some ⟨b, off, none⟩) en el) wz ∧ True) mixed (fun _ hm => ⟨hm.bl 0, hm.bl 1, hm.fa 0, hm.fa 1, hm.fa 2, trivial⟩) fun z => ?_
   refine wt 0 13 1 rfl z (ov_move rfl) ?_
   refine wt 1 13 3 rfl z (ov_gtr rfl rfl) ?_
   refine wt 2 13 7 rfl z (ov_move rfl) ?_
   by_cases h0 : i = 0
   ·refine wa_set 70 rfl (congrArg Value.bool (decide_eq_false (by omega))) ?_
    refine wa_set 69 rfl (congrArg Value.bool (decide_eq_false (by omega))) ?_
    have hO : evO (prevOf el i) (⟨e0, e1, e2, e3, e4⟩ : Ev) = false := by rw [prevOf_zero h0]; rfl
    refine wtf 3 13 15 rfl rfl rfl z ?_
    refine wtf 4 13 31 rfl rfl rfl z ?_
    refine wtf 5 13 63 rfl rfl rfl z ?_
    refine wtf 6 13 127 rfl rfl rfl z ?_
    refine wtf 7 13 255 rfl rfl rfl z ?_
    refine wtf 8 13 511 rfl rfl rfl z ?_
    refine wtf 9 13 1023 rfl rfl rfl z ?_
    refine wtf 10 13 2047 rfl rfl rfl z ?_
    refine wt 11 13 4095 rfl z (ov_pick_f rfl rfl) ?_
    refine wt 12 13 8191 rfl z (ov_assign rfl) ?_
    refine wa_done (by kernel_rfl) ?_
    refine nx_then (cf_ rfl (gw_skip (nx_blk_nrm (nx_blk_nrm (nx_then (gw_region (ad_ rfl rfl (mv_ rfl (wl_nil ?_)))))))))
    have hE : evE sl vl (prevOf el i) (⟨e0, e1, e2, e3, e4⟩ : Ev) = 0 := by rw [evE_eq, h2', h3, h4', h5', h6', h7, h8', h9, hO]; rfl
    exact nx_round (i + 1) ⟨by omega, by rw [hsc, hat, if_pos hE]⟩ (by omega) ⟨rfl, rfl, rfl, rfl, (some_int (by omega)), trivial⟩ (fun _ hm => hm.pick [1] [] [0, 1, 2] rfl rfl)
   refine wa_set 70 rfl (congrArg Value.bool (decide_eq_true (by omega))) ?_
   refine wa_set 69 rfl (congrArg Value.bool (decide_eq_true (by omega))) ?_
   obtain ⟨yy, hy⟩ : ∃ x, el[i - 1]? = some x := ⟨_, List.getElem?_eq_getElem (by omega)⟩
   obtain ⟨p0, p1, p2, p3, p4⟩ := yy
   obtain ⟨hp0, _, _, _, _⟩ := heok _ (List.mem_of_getElem? hy)
   have hp0 : -4000000000000000000 ≤ p0 ∧ p0 ≤ 4000000000000000000 := hp0
   have hpo := prevOf_pos h0 hy
   refine wto 3 13 15 rfl rfl rfl z (ov_move rfl) ?_
   refine wto 4 13 31 rfl rfl rfl z (ov_move rfl) ?_
   refine wto 5 13 63 rfl rfl rfl z (ov_sub rfl rfl (by omega) (by omega)) ?_
   refine wa_set 73 (v' := .int .i64 (((i - 1) : Nat) : Int)) rfl (congrArg (Value.int .i64) (by omega)) ?_
   refine wto 6 13 127 rfl rfl rfl z (ov_index (j := (i - 1)) es47 rfl rfl (by omega)) ?_
   refine wto 7 13 255 rfl rfl rfl z (ov_elem (vs := [.int .i64 p0, .string p1, .string p2, .int .i64 p3, .string p4]) rz74 rfl (fun _ hm => (hm.2.2.2.2.1).1) hy rfl rfl) ?_
   refine wto 8 13 511 rfl rfl rfl z (ov_loads rz74 rfl (fun _ hm => hm.1) rfl rfl) ?_
   refine wa1 9 rfl ?_
   refine wl_guard_on rfl rfl rfl ?_
   refine wl_callv (v := .int .i64 (evOrd (⟨p0, p1, p2, p3, p4⟩ : Ev) (⟨e0, e1, e2, e3, e4⟩ : Ev))) rfl cb79 rfl rfl (fun wx hm => (byTime_any p0 p1 p2 p3 p4 e0 e1 e2 e3 e4 wx)) ?_
   refine wl_nil ?_
   refine nw 13 1023 (fun _ hm => ⟨hm.bl 0, hm.bl 1, hm.fa 0, hm.fa 1, hm.fa 2, trivial⟩) fun z => ?_
   refine wto 10 13 2047 rfl rfl rfl z (ov_geq rfl rfl) ?_
   refine wt 11 13 4095 rfl z (ov_pick_t rfl rfl) ?_
   refine wt 12 13 8191 rfl z (ov_assign rfl) ?_
   refine wa_done (by kernel_rfl) ?_
   refine nx_then ?_
   rcases Bool.eq_false_or_eq_true (decide (0 ≤ evOrd (⟨p0, p1, p2, p3, p4⟩ : Ev) (⟨e0, e1, e2, e3, e4⟩ : Ev))) with h10 | h10
   ·refine gw_set 67 rfl (congrArg Value.bool h10) ?_
    have hO : evO (prevOf el i) (⟨e0, e1, e2, e3, e4⟩ : Ev) = true := by rw [hpo]; exact h10
    refine ct_ rfl (sr_ (sg_ rfl (nn_ ?_)))
    refine gw_ret ?_
    refine nx_blk_ret (nx_blk_ret (nx_then_ret (nx_then_ret (nx_blk_ret (nx_then_ret ?_)))))
    have hE : evE sl vl (prevOf el i) (⟨e0, e1, e2, e3, e4⟩ : Ev) = 7 := by rw [evE_eq, h2', h3, h4', h5', h6', h7, h8', h9, hO]; rfl
    have hF : logE sl vl el = 7 := by rw [hsc, hat, if_neg (by rw [hE]; decide), hE]
    refine nx_ret1 rfl rfl fun wx hm => ?_
    exact ⟨ret_int (by rw [hF]), hm.g⟩
   refine gw_set 67 rfl (congrArg Value.bool h10) ?_
   have hO : evO (prevOf el i) (⟨e0, e1, e2, e3, e4⟩ : Ev) = false := by rw [hpo]; exact h10
   refine cf_ rfl (gw_skip (nx_blk_nrm (nx_blk_nrm (nx_then (gw_region (ad_ rfl rfl (mv_ rfl (wl_nil ?_))))))))
   have hE : evE sl vl (prevOf el i) (⟨e0, e1, e2, e3, e4⟩ : Ev) = 0 := by rw [evE_eq, h2', h3, h4', h5', h6', h7, h8', h9, hO]; rfl
   exact nx_round (i + 1) ⟨by omega, by rw [hsc, hat, if_pos hE]⟩ (by omega) ⟨rfl, rfl, rfl, rfl, (some_int (by omega)), trivial⟩ (fun _ hm => hm.pick [1] [] [0, 1, 2] rfl rfl)
  refine wl_set 54 rfl (congrArg Value.bool h7) ?_
  refine goff rfl rfl rfl (goff rfl rfl rfl (goff rfl rfl rfl (goff rfl rfl rfl (goff rfl rfl rfl (pf_ rfl rfl (sg_ rfl (nn_ (cf_ rfl (sr_ (fd_ fo74_4 rfl rfl (lk_ sc9 0 rfl rfl rfl ?_)))))))))))
  refine fd_ fo74_2 rfl rfl (lk_ sc9 0 rfl rfl rfl (wl_ov (ov_seql rfl rfl) rfl (sg_ rfl (nn_ ?_))))
  rcases Bool.eq_false_or_eq_true (e4.toList == e2.toList) with h8 | h8
  ·refine gw_set 61 rfl (congrArg Value.bool h8) ?_
   refine ct_ rfl (sr_ (sg_ rfl (nn_ ?_)))
   refine gw_ret ?_
   refine nx_blk_ret (nx_blk_ret (nx_then_ret (nx_then_ret (nx_blk_ret (nx_then_ret ?_)))))
   have hE : evE sl vl (prevOf el i) (⟨e0, e1, e2, e3, e4⟩ : Ev) = 14 := by rw [evE_eq, h2', h3, h4', h5', h6', h7, h8]; rfl
   have hF : logE sl vl el = 14 := by rw [hsc, hat, if_neg (by rw [hE]; decide), hE]
   refine nx_ret1 rfl rfl fun wx hm => ?_
   exact ⟨ret_int (by rw [hF]), hm.g⟩
  refine gw_set 61 rfl (congrArg Value.bool h8) ?_
  refine cf_ rfl (gw_seq ?_)
  refine gd (fun wz => Blk wz g2 74 [.int .i64 e0, .string e1, .string e2, .int .i64 e3, .string e4] ∧ Blk wz g1 31 [.slice sA sn sc, .slice cA cn cc, .slice vA vn vc, .slice pA pn pc] ∧ (SlOld stEnc 15 105 w.heap.size none sA sn sl) wz ∧ (SlOld vhEnc 2 57 w.heap.size none vA vn vl) wz ∧ (SlOld evEnc 5 74 w.heap.size none (some ⟨b, off, none⟩) en el) wz ∧ True) mixed (fun _ hm => ⟨hm.bl 0, hm.bl 1, hm.fa 0, hm.fa 1, hm.fa 2, trivial⟩) fun z => ?_
  refine wt 0 13 1 rfl z (ov_move rfl) ?_
  refine wt 1 13 3 rfl z (ov_gtr rfl rfl) ?_
  refine wt 2 13 7 rfl z (ov_move rfl) ?_
  by_cases h0 : i = 0
  ·refine wa_set 70 rfl (congrArg Value.bool (decide_eq_false (by omega))) ?_
   refine wa_set 69 rfl (congrArg Value.bool (decide_eq_false (by omega))) ?_
   have hO : evO (prevOf el i) (⟨e0, e1, e2, e3, e4⟩ : Ev) = false := by rw [prevOf_zero h0]; rfl
   refine wtf 3 13 15 rfl rfl rfl z ?_
   refine wtf 4 13 31 rfl rfl rfl z ?_
   refine wtf 5 13 63 rfl rfl rfl z ?_
   refine wtf 6 13 127 rfl rfl rfl z ?_
   refine wtf 7 13 255 rfl rfl rfl z ?_
   refine wtf 8 13 511 rfl rfl rfl z ?_
   refine wtf 9 13 1023 rfl rfl rfl z ?_
   refine wtf 10 13 2047 rfl rfl rfl z ?_
   refine wt 11 13 4095 rfl z (ov_pick_f rfl rfl) ?_
   refine wt 12 13 8191 rfl z (ov_assign rfl) ?_
   refine wa_done (by kernel_rfl) ?_
   refine nx_then (cf_ rfl (gw_skip (nx_blk_nrm (nx_blk_nrm (nx_then (gw_region (ad_ rfl rfl (mv_ rfl (wl_nil ?_)))))))))
   have hE : evE sl vl (prevOf el i) (⟨e0, e1, e2, e3, e4⟩ : Ev) = 0 := by rw [evE_eq, h2', h3, h4', h5', h6', h7, h8, hO]; rfl
   exact nx_round (i + 1) ⟨by omega, by rw [hsc, hat, if_pos hE]⟩ (by omega) ⟨rfl, rfl, rfl, rfl, (some_int (by omega)), trivial⟩ (fun _ hm => hm.pick [1] [] [0, 1, 2] rfl rfl)
  refine wa_set 70 rfl (congrArg Value.bool (decide_eq_true (by omega))) ?_
  refine wa_set 69 rfl (congrArg Value.bool (decide_eq_true (by omega))) ?_
  obtain ⟨yy, hy⟩ : ∃ x, el[i - 1]? = some x := ⟨_, List.getElem?_eq_getElem (by omega)⟩
  obtain ⟨p0, p1, p2, p3, p4⟩ := yy
  obtain ⟨hp0, _, _, _, _⟩ := heok _ (List.mem_of_getElem? hy)
  have hp0 : -4000000000000000000 ≤ p0 ∧ p0 ≤ 4000000000000000000 := hp0
  have hpo := prevOf_pos h0 hy
  refine wto 3 13 15 rfl rfl rfl z (ov_move rfl) ?_
  refine wto 4 13 31 rfl rfl rfl z (ov_move rfl) ?_
  refine wto 5 13 63 rfl rfl rfl z (ov_sub rfl rfl (by omega) (by omega)) ?_
  refine wa_set 73 (v' := .int .i64 (((i - 1) : Nat) : Int)) rfl (congrArg (Value.int .i64) (by omega)) ?_
  refine wto 6 13 127 rfl rfl rfl z (ov_index (j := (i - 1)) es47 rfl rfl (by omega)) ?_
  refine wto 7 13 255 rfl rfl rfl z (ov_elem (vs := [.int .i64 p0, .string p1, .string p2, .int .i64 p3, .string p4]) rz74 rfl (fun _ hm => (hm.2.2.2.2.1).1) hy rfl rfl) ?_
  refine wto 8 13 511 rfl rfl rfl z (ov_loads rz74 rfl (fun _ hm => hm.1) rfl rfl) ?_
  refine wa1 9 rfl ?_
  refine wl_guard_on rfl rfl rfl ?_
  refine wl_callv (v := .int .i64 (evOrd (⟨p0, p1, p2, p3, p4⟩ : Ev) (⟨e0, e1, e2, e3, e4⟩ : Ev))) rfl cb79 rfl rfl (fun wx hm => (byTime_any p0 p1 p2 p3 p4 e0 e1 e2 e3 e4 wx)) ?_
  refine wl_nil ?_
  refine nw 13 1023 (fun _ hm => ⟨hm.bl 0, hm.bl 1, hm.fa 0, hm.fa 1, hm.fa 2, trivial⟩) fun z => ?_
  refine wto 10 13 2047 rfl rfl rfl z (ov_geq rfl rfl) ?_
  refine wt 11 13 4095 rfl z (ov_pick_t rfl rfl) ?_
  refine wt 12 13 8191 rfl z (ov_assign rfl) ?_
  refine wa_done (by kernel_rfl) ?_
  refine nx_then ?_
  rcases Bool.eq_false_or_eq_true (decide (0 ≤ evOrd (⟨p0, p1, p2, p3, p4⟩ : Ev) (⟨e0, e1, e2, e3, e4⟩ : Ev))) with h9 | h9
  ·refine gw_set 67 rfl (congrArg Value.bool h9) ?_
   have hO : evO (prevOf el i) (⟨e0, e1, e2, e3, e4⟩ : Ev) = true := by rw [hpo]; exact h9
   refine ct_ rfl (sr_ (sg_ rfl (nn_ ?_)))
   refine gw_ret ?_
   refine nx_blk_ret (nx_blk_ret (nx_then_ret (nx_then_ret (nx_blk_ret (nx_then_ret ?_)))))
   have hE : evE sl vl (prevOf el i) (⟨e0, e1, e2, e3, e4⟩ : Ev) = 7 := by rw [evE_eq, h2', h3, h4', h5', h6', h7, h8, hO]; rfl
   have hF : logE sl vl el = 7 := by rw [hsc, hat, if_neg (by rw [hE]; decide), hE]
   refine nx_ret1 rfl rfl fun wx hm => ?_
   exact ⟨ret_int (by rw [hF]), hm.g⟩
  refine gw_set 67 rfl (congrArg Value.bool h9) ?_
  have hO : evO (prevOf el i) (⟨e0, e1, e2, e3, e4⟩ : Ev) = false := by rw [hpo]; exact h9
  refine cf_ rfl (gw_skip (nx_blk_nrm (nx_blk_nrm (nx_then (gw_region (ad_ rfl rfl (mv_ rfl (wl_nil ?_))))))))
  have hE : evE sl vl (prevOf el i) (⟨e0, e1, e2, e3, e4⟩ : Ev) = 0 := by rw [evE_eq, h2', h3, h4', h5', h6', h7, h8, hO]; rfl
  exact nx_round (i + 1) ⟨by omega, by rw [hsc, hat, if_pos hE]⟩ (by omega) ⟨rfl, rfl, rfl, rfl, (some_int (by omega)), trivial⟩ (fun _ hm => hm.pick [1] [] [0, 1, 2] rfl rfl)
 have hi : ¬ (((i : Nat) : Int) < ((en : Nat) : Int)) := by simpa using hh
 clear hh
 refine gw_exit ?_
 refine nx_then_exit (nx_then_exit ?_)
 refine nx_blk_here ?_
 refine nx_then (sr_ (sg_ rfl (nn_ ?_)))
 refine gw_ret ?_
 refine nx_ret1 rfl rfl fun wx hm => ?_
 exact ⟨ret_int (by rw [hsc, scanE_end _ _ _ _ (by omega)]), hm.g⟩
end Go.Proofs.YtiendebcdicjnaaGreatDoor
namespace Go.Proofs.YtiendebcdicjnaaGreatDoor
open Go.RowKit
theorem rfollow_any (s0 : Int) (s1 : ByteArray) (s2 e0 : Int) (e1 e2 : ByteArray) (e3 : Int) (e4 : ByteArray) (w : World) : Calls Tryz.prog 205 #[.agg #[.int .i64 s0, .string s1, .int .i64 s2], .agg #[.int .i64 e0, .string e1, .string e2, .int .i64 e3, .string e4]] w (fun e w' => ∃ t : Sa, e = .returned (.tuple #[.agg (saEnc t).toArray, .bool (goodB (⟨s0, s1, s2⟩ : Sa) (⟨e0, e1, e2, e3, e4⟩ : Ev))]) ∧ (goodB (⟨s0, s1, s2⟩ : Sa) (⟨e0, e1, e2, e3, e4⟩ : Ev) = true → t = nextS (⟨e0, e1, e2, e3, e4⟩ : Ev)) ∧ w.grownBy w' none) := by
 refine gw_enter ⟨89, w, none, []⟩ Tryz.func205 rfl Tryz.ntmps205 rfl (mem0 (X := []) allF_nil allL_nil) ?_
 refine sr_ ?_
 refine wl_box rfl rfl rfl fun g1 => ?_
 refine wl_box rfl rfl rfl fun g2 => ?_
 refine wl_alloc zc142 rfl fun g3 => ?_
 refine sg_ rfl (nn_ (sr_ (fd_ fo142_0 rfl rfl (lk_ sc3 2 rfl rfl rfl (wl_ov (ov_eql rfl rfl) rfl (mv_ rfl ?_))))))
 rcases Bool.eq_false_or_eq_true (decide (s0 = 1)) with h0 | h0
 ·refine wl_set 11 rfl (congrArg Value.bool h0) ?_
  refine wl_guard_on rfl rfl rfl (fd_ fo142_1 rfl rfl (wl_guard_on rfl rfl rfl (lk_ sc9 2 rfl rfl rfl (wl_guard_on rfl rfl rfl (fd_ fo74_2 rfl rfl (wl_guard_on rfl rfl rfl (lk_ sc9 1 rfl rfl rfl (wl_guard_on rfl rfl rfl (wl_ov (ov_seql rfl rfl) rfl (pt_ rfl rfl (sg_ rfl (nn_ ?_))))))))))))
  refine sr_ (fd_ fo74_2 rfl rfl (lk_ sc9 1 rfl rfl rfl (fd_ fo74_0 rfl rfl (lk_ sc3 1 rfl rfl rfl ?_))))
  refine wl_ov (ov_build (cs := [.int .i64 1, .string e2, .int .i64 e0]) rfl (by kernel_rfl)) rfl ?_
  refine wl_alloc zc142 rfl fun g4 => ?_
  refine wl_stores (cs' := [.int .i64 1, .string e2, .int .i64 e0]) 0 rz142 rfl rfl rfl rfl rfl rfl rfl rfl ?_
  refine nn_ (gw_seq (sr_ (fd_ fo74_3 rfl rfl (lk_ sc3 2 rfl rfl rfl (nn_ (gw_block (sr_ (wl_ov (ov_eql rfl rfl) rfl (sg_ rfl ?_)))))))))
  refine nn_ ?_
  refine gw_cond rfl (fun hh => ?_) (fun hh => ?_)
  ·have h1 : e3 = 1 := by simpa using hh
   clear hh
   refine gw_seq ?_
   refine gd (fun wz => Blk wz g4 142 [.int .i64 1, .string e2, .int .i64 e0] ∧ Blk wz g2 74 [.int .i64 e0, .string e1, .string e2, .int .i64 e3, .string e4] ∧ Blk wz g1 142 [.int .i64 s0, .string s1, .int .i64 s2] ∧ True) mixed (fun _ hm => ⟨hm.bl 0, hm.bl 2, hm.bl 3, trivial⟩) fun z => ?_
   refine wt 0 6 1 rfl z (ov_loads rz142 rfl (fun _ hm => hm.1) rfl rfl) ?_
   refine wt 1 6 3 rfl z (ov_field fo142_0 rfl rfl) ?_
   refine wt 2 6 7 rfl z (ov_load sc3 rfl (fun _ hm => hm.2.2.1) rfl) ?_
   refine wt 3 6 15 rfl z (ov_eql rfl rfl) ?_
   refine wa1 4 rfl ?_
   refine wl_stores (cs' := [.int .i64 1, .string e2, .int .i64 e0]) 1 rz142 rfl rfl rfl rfl rfl rfl rfl rfl ?_
   refine wl_nil ?_
   refine nw 6 31 (fun _ hm => ⟨hm.bl 0, hm.bl 2, hm.bl 3, trivial⟩) fun z => ?_
   refine wt 5 6 63 rfl z (ov_assign rfl) ?_
   refine wa_done (by kernel_rfl) ?_
   refine nx_then ?_
   refine gw_ret ?_
   refine nx_blk_ret (nx_then_ret ?_)
   refine nx_retct 1 rfl rz142 rfl rfl rfl rfl fun wx hm => ?_
   have hg := hm.g
   clear hm
   exact ⟨⟨1, e2, e0⟩, by simp [goodB, saEnc, *], (fun h => by first | (simp [nextS, *]; done) | (exfalso; simp [goodB, *] at h; done) | fail), hg⟩
  have h1 : ¬ (e3 = 1) := by simpa using hh
  clear hh
  refine sr_ (wl_ov (ov_eql rfl rfl) rfl (sg_ rfl (nn_ ?_)))
  refine gw_cond rfl (fun hh => ?_) (fun hh => ?_)
  ·have h2 : e3 = 2 := by simpa using hh
   clear hh
   refine sr_ (fd_ fo74_0 rfl rfl (lk_ sc3 2 rfl rfl rfl ?_))
   refine wl_ov (ov_build (cs := [.int .i64 2, .string ⟨#[]⟩, .int .i64 e0]) rfl (by kernel_rfl)) rfl ?_
   refine mv_ rfl ?_
   refine wl_stores (cs' := [.int .i64 2, .string ⟨#[]⟩, .int .i64 e0]) 1 rz142 rfl rfl rfl rfl rfl rfl rfl rfl ?_
   refine sg_ rfl (nn_ ?_)
   refine gw_ret ?_
   refine nx_blk_ret (nx_then_ret ?_)
   refine nx_retct 1 rfl rz142 rfl rfl rfl rfl fun wx hm => ?_
   have hg := hm.g
   clear hm
   exact ⟨⟨2, ⟨#[]⟩, e0⟩, by simp [goodB, saEnc, *], (fun h => by first | (simp [nextS, *]; done) | (exfalso; simp [goodB, *] at h; done) | fail), hg⟩
  have h2 : ¬ (e3 = 2) := by simpa using hh
  clear hh
  refine sr_ (wl_ov (ov_eql rfl rfl) rfl (sg_ rfl (nn_ ?_)))
  refine gw_cond rfl (fun hh => ?_) (fun hh => ?_)
  ·have h3 : e3 = 3 := by simpa using hh
   clear hh
   refine gw_seq ?_
   refine gd (fun wz => Blk wz g4 142 [.int .i64 1, .string e2, .int .i64 e0] ∧ Blk wz g2 74 [.int .i64 e0, .string e1, .string e2, .int .i64 e3, .string e4] ∧ Blk wz g1 142 [.int .i64 s0, .string s1, .int .i64 s2] ∧ True) mixed (fun _ hm => ⟨hm.bl 0, hm.bl 2, hm.bl 3, trivial⟩) fun z => ?_
   refine wt 0 6 1 rfl z (ov_loads rz142 rfl (fun _ hm => hm.1) rfl rfl) ?_
   refine wt 1 6 3 rfl z (ov_field fo142_0 rfl rfl) ?_
   refine wt 2 6 7 rfl z (ov_load sc3 rfl (fun _ hm => hm.2.2.1) rfl) ?_
   refine wt 3 6 15 rfl z (ov_eql rfl rfl) ?_
   refine wa1 4 rfl ?_
   refine wl_stores (cs' := [.int .i64 1, .string e2, .int .i64 e0]) 1 rz142 rfl rfl rfl rfl rfl rfl rfl rfl ?_
   refine wl_nil ?_
   refine nw 6 31 (fun _ hm => ⟨hm.bl 0, hm.bl 2, hm.bl 3, trivial⟩) fun z => ?_
   refine wt 5 6 63 rfl z (ov_assign rfl) ?_
   refine wa_done (by kernel_rfl) ?_
   refine nx_then ?_
   refine gw_ret ?_
   refine nx_blk_ret (nx_then_ret ?_)
   refine nx_retct 1 rfl rz142 rfl rfl rfl rfl fun wx hm => ?_
   have hg := hm.g
   clear hm
   exact ⟨⟨1, e2, e0⟩, by simp [goodB, saEnc, *], (fun h => by first | (simp [nextS, *]; done) | (exfalso; simp [goodB, *] at h; done) | fail), hg⟩
  have h3 : ¬ (e3 = 3) := by simpa using hh
  clear hh
  refine sr_ (wl_ov (ov_eql rfl rfl) rfl (sg_ rfl (nn_ ?_)))
  refine gw_cond rfl (fun hh => ?_) (fun hh => ?_)
  ·have h4 : e3 = 4 := by simpa using hh
   clear hh
   refine sr_ (fd_ fo142_0 rfl rfl ?_)
   refine wl_store 0 sc3 rfl rfl rfl rfl rfl rfl ?_
   refine nn_ (sr_ ?_)
   refine wl_ov (ov_loads rz142 rfl (fun _ hm => hm.blkI 0 rfl) rfl rfl) rfl ?_
   refine mv_ rfl ?_
   refine wl_stores (cs' := [.int .i64 3, .string e2, .int .i64 e0]) 1 rz142 rfl rfl rfl rfl rfl rfl rfl rfl ?_
   refine sg_ rfl (nn_ ?_)
   refine gw_ret ?_
   refine nx_blk_ret (nx_then_ret ?_)
   refine nx_retct 1 rfl rz142 rfl rfl rfl rfl fun wx hm => ?_
   have hg := hm.g
   clear hm
   exact ⟨⟨3, e2, e0⟩, by simp [goodB, saEnc, *], (fun h => by first | (simp [nextS, *]; done) | (exfalso; simp [goodB, *] at h; done) | fail), hg⟩
  have h4 : ¬ (e3 = 4) := by simpa using hh
  clear hh
  refine sr_ (wl_ov (ov_eql rfl rfl) rfl (sg_ rfl (nn_ ?_)))
  refine gw_cond rfl (fun hh => ?_) (fun hh => ?_)
  ·have h5 : e3 = 5 := by simpa using hh
   clear hh
   refine gw_seq ?_
   refine gd (fun wz => Blk wz g4 142 [.int .i64 1, .string e2, .int .i64 e0] ∧ Blk wz g2 74 [.int .i64 e0, .string e1, .string e2, .int .i64 e3, .string e4] ∧ Blk wz g1 142 [.int .i64 s0, .string s1, .int .i64 s2] ∧ True) mixed (fun _ hm => ⟨hm.bl 0, hm.bl 2, hm.bl 3, trivial⟩) fun z => ?_
   refine wt 0 13 1 rfl z (ov_loads rz142 rfl (fun _ hm => hm.1) rfl rfl) ?_
   refine wt 1 13 3 rfl z (ov_field fo142_0 rfl rfl) ?_
   refine wt 2 13 7 rfl z (ov_load sc3 rfl (fun _ hm => hm.2.2.1) rfl) ?_
   refine wt 3 13 15 rfl z (ov_eql rfl rfl) ?_
   refine wt 4 13 31 rfl z (ov_move rfl) ?_
   rcases Bool.eq_false_or_eq_true (decide (s0 = 3)) with h6 | h6
   ·refine wa_set 54 rfl (congrArg Value.bool h6) ?_
    refine wto 5 13 63 rfl rfl rfl z (ov_field fo142_1 rfl rfl) ?_
    refine wto 6 13 127 rfl rfl rfl z (ov_load sc9 rfl (fun _ hm => hm.2.2.1) rfl) ?_
    refine wto 7 13 255 rfl rfl rfl z (ov_field fo74_2 rfl rfl) ?_
    refine wto 8 13 511 rfl rfl rfl z (ov_load sc9 rfl (fun _ hm => hm.2.1) rfl) ?_
    refine wto 9 13 1023 rfl rfl rfl z (ov_seql rfl rfl) ?_
    refine wt 10 13 2047 rfl z (ov_pick_t rfl rfl) ?_
    refine wa1 11 rfl ?_
    refine wl_stores (cs' := [.int .i64 1, .string e2, .int .i64 e0]) 1 rz142 rfl rfl rfl rfl rfl rfl rfl rfl ?_
    refine wl_nil ?_
    refine nw 13 4095 (fun _ hm => ⟨hm.bl 0, hm.bl 2, hm.bl 3, trivial⟩) fun z => ?_
    refine wt 12 13 8191 rfl z (ov_assign rfl) ?_
    refine wa_done (by kernel_rfl) ?_
    refine nx_then ?_
    refine gw_ret ?_
    refine nx_blk_ret (nx_then_ret ?_)
    refine nx_retct 1 rfl rz142 rfl rfl rfl rfl fun wx hm => ?_
    have hg := hm.g
    clear hm
    exact ⟨⟨1, e2, e0⟩, by simp [goodB, saEnc, *], (fun h => by first | (simp [nextS, *]; done) | (exfalso; simp [goodB, *] at h; done) | fail), hg⟩
   refine wa_set 54 rfl (congrArg Value.bool h6) ?_
   refine wtf 5 13 63 rfl rfl rfl z ?_
   refine wtf 6 13 127 rfl rfl rfl z ?_
   refine wtf 7 13 255 rfl rfl rfl z ?_
   refine wtf 8 13 511 rfl rfl rfl z ?_
   refine wtf 9 13 1023 rfl rfl rfl z ?_
   refine wt 10 13 2047 rfl z (ov_pick_f rfl rfl) ?_
   refine wa1 11 rfl ?_
   refine wl_stores (cs' := [.int .i64 1, .string e2, .int .i64 e0]) 1 rz142 rfl rfl rfl rfl rfl rfl rfl rfl ?_
   refine wl_nil ?_
   refine nw 13 4095 (fun _ hm => ⟨hm.bl 0, hm.bl 2, hm.bl 3, trivial⟩) fun z => ?_
   refine wt 12 13 8191 rfl z (ov_assign rfl) ?_
   refine wa_done (by kernel_rfl) ?_
   refine nx_then ?_
   refine gw_ret ?_
   refine nx_blk_ret (nx_then_ret ?_)
   refine nx_retct 1 rfl rz142 rfl rfl rfl rfl fun wx hm => ?_
   have hg := hm.g
   clear hm
   exact ⟨⟨1, e2, e0⟩, by simp [goodB, saEnc, *], (fun h => by first | (simp [nextS, *]; done) | (exfalso; simp [goodB, *] at h; done) | fail), hg⟩
  have h5 : ¬ (e3 = 5) := by simpa using hh
  clear hh
  refine sr_ (wl_ov (ov_eql rfl rfl) rfl (sg_ rfl (nn_ ?_)))
  refine gw_cond rfl (fun hh => ?_) (fun hh => ?_)
  ·have h6 : e3 = 6 := by simpa using hh
   clear hh
   refine sr_ (fd_ fo74_4 rfl rfl (lk_ sc9 2 rfl rfl rfl (fd_ fo74_0 rfl rfl (lk_ sc3 2 rfl rfl rfl ?_))))
   refine wl_ov (ov_build (cs := [.int .i64 4, .string e4, .int .i64 e0]) rfl (by kernel_rfl)) rfl ?_
   refine mv_ rfl ?_
   refine wl_stores (cs' := [.int .i64 4, .string e4, .int .i64 e0]) 1 rz142 rfl rfl rfl rfl rfl rfl rfl rfl ?_
   refine sg_ rfl (nn_ ?_)
   refine gw_ret ?_
   refine nx_blk_ret (nx_then_ret ?_)
   refine nx_retct 1 rfl rz142 rfl rfl rfl rfl fun wx hm => ?_
   have hg := hm.g
   clear hm
   exact ⟨⟨4, e4, e0⟩, by simp [goodB, saEnc, *], (fun h => by first | (simp [nextS, *]; done) | (exfalso; simp [goodB, *] at h; done) | fail), hg⟩
  have h6 : ¬ (e3 = 6) := by simpa using hh
  clear hh
  refine sr_ (wl_ov (ov_eql rfl rfl) rfl (sg_ rfl (nn_ ?_)))
  refine gw_cond rfl (fun hh => ?_) (fun hh => ?_)
  ·have h7 : e3 = 7 := by simpa using hh
   clear hh
   refine gw_seq ?_
   refine gd (fun wz => Blk wz g4 142 [.int .i64 1, .string e2, .int .i64 e0] ∧ Blk wz g2 74 [.int .i64 e0, .string e1, .string e2, .int .i64 e3, .string e4] ∧ Blk wz g1 142 [.int .i64 s0, .string s1, .int .i64 s2] ∧ True) mixed (fun _ hm => ⟨hm.bl 0, hm.bl 2, hm.bl 3, trivial⟩) fun z => ?_
   refine wt 0 13 1 rfl z (ov_loads rz142 rfl (fun _ hm => hm.1) rfl rfl) ?_
   refine wt 1 13 3 rfl z (ov_field fo142_0 rfl rfl) ?_
   refine wt 2 13 7 rfl z (ov_load sc3 rfl (fun _ hm => hm.2.2.1) rfl) ?_
   refine wt 3 13 15 rfl z (ov_eql rfl rfl) ?_
   refine wt 4 13 31 rfl z (ov_move rfl) ?_
   rcases Bool.eq_false_or_eq_true (decide (s0 = 4)) with h8 | h8
   ·refine wa_set 75 rfl (congrArg Value.bool h8) ?_
    refine wto 5 13 63 rfl rfl rfl z (ov_field fo142_1 rfl rfl) ?_
    refine wto 6 13 127 rfl rfl rfl z (ov_load sc9 rfl (fun _ hm => hm.2.2.1) rfl) ?_
    refine wto 7 13 255 rfl rfl rfl z (ov_field fo74_2 rfl rfl) ?_
    refine wto 8 13 511 rfl rfl rfl z (ov_load sc9 rfl (fun _ hm => hm.2.1) rfl) ?_
    refine wto 9 13 1023 rfl rfl rfl z (ov_seql rfl rfl) ?_
    refine wt 10 13 2047 rfl z (ov_pick_t rfl rfl) ?_
    refine wa1 11 rfl ?_
    refine wl_stores (cs' := [.int .i64 1, .string e2, .int .i64 e0]) 1 rz142 rfl rfl rfl rfl rfl rfl rfl rfl ?_
    refine wl_nil ?_
    refine nw 13 4095 (fun _ hm => ⟨hm.bl 0, hm.bl 2, hm.bl 3, trivial⟩) fun z => ?_
    refine wt 12 13 8191 rfl z (ov_assign rfl) ?_
    refine wa_done (by kernel_rfl) ?_
    refine nx_then ?_
    refine gw_ret ?_
    refine nx_blk_ret (nx_then_ret ?_)
    refine nx_retct 1 rfl rz142 rfl rfl rfl rfl fun wx hm => ?_
    have hg := hm.g
    clear hm
    exact ⟨⟨1, e2, e0⟩, by simp [goodB, saEnc, *], (fun h => by first | (simp [nextS, *]; done) | (exfalso; simp [goodB, *] at h; done) | fail), hg⟩
   refine wa_set 75 rfl (congrArg Value.bool h8) ?_
   refine wtf 5 13 63 rfl rfl rfl z ?_
   refine wtf 6 13 127 rfl rfl rfl z ?_
   refine wtf 7 13 255 rfl rfl rfl z ?_
   refine wtf 8 13 511 rfl rfl rfl z ?_
   refine wtf 9 13 1023 rfl rfl rfl z ?_
   refine wt 10 13 2047 rfl z (ov_pick_f rfl rfl) ?_
   refine wa1 11 rfl ?_
   refine wl_stores (cs' := [.int .i64 1, .string e2, .int .i64 e0]) 1 rz142 rfl rfl rfl rfl rfl rfl rfl rfl ?_
   refine wl_nil ?_
   refine nw 13 4095 (fun _ hm => ⟨hm.bl 0, hm.bl 2, hm.bl 3, trivial⟩) fun z => ?_
   refine wt 12 13 8191 rfl z (ov_assign rfl) ?_
   refine wa_done (by kernel_rfl) ?_
   refine nx_then ?_
   refine gw_ret ?_
   refine nx_blk_ret (nx_then_ret ?_)
   refine nx_retct 1 rfl rz142 rfl rfl rfl rfl fun wx hm => ?_
   have hg := hm.g
   clear hm
   exact ⟨⟨1, e2, e0⟩, by simp [goodB, saEnc, *], (fun h => by first | (simp [nextS, *]; done) | (exfalso; simp [goodB, *] at h; done) | fail), hg⟩
  have h7 : ¬ (e3 = 7) := by simpa using hh
  clear hh
  refine sr_ (wl_ov (ov_eql rfl rfl) rfl (sg_ rfl (nn_ ?_)))
  refine gw_cond rfl (fun hh => ?_) (fun hh => ?_)
  ·have h8 : e3 = 8 := by simpa using hh
   clear hh
   refine sr_ (fd_ fo74_0 rfl rfl (lk_ sc3 2 rfl rfl rfl ?_))
   refine wl_ov (ov_build (cs := [.int .i64 5, .string ⟨#[]⟩, .int .i64 e0]) rfl (by kernel_rfl)) rfl ?_
   refine mv_ rfl ?_
   refine wl_stores (cs' := [.int .i64 5, .string ⟨#[]⟩, .int .i64 e0]) 1 rz142 rfl rfl rfl rfl rfl rfl rfl rfl ?_
   refine sg_ rfl (nn_ ?_)
   refine gw_ret ?_
   refine nx_blk_ret (nx_then_ret ?_)
   refine nx_retct 1 rfl rz142 rfl rfl rfl rfl fun wx hm => ?_
   have hg := hm.g
   clear hm
   exact ⟨⟨5, ⟨#[]⟩, e0⟩, by simp [goodB, saEnc, *], (fun h => by first | (simp [nextS, *]; done) | (exfalso; simp [goodB, *] at h; done) | fail), hg⟩
  have h8 : ¬ (e3 = 8) := by simpa using hh
  clear hh
  refine gw_skip (nx_blk_nrm (nx_then (sr_ ?_)))
  refine wl_ov (ov_loads rz142 rfl (fun _ hm => hm.blkI 3 rfl) rfl rfl) rfl ?_
  refine wl_stores (cs' := [.int .i64 s0, .string s1, .int .i64 s2]) 1 rz142 rfl rfl rfl rfl rfl rfl rfl rfl ?_
  refine sg_ rfl (nn_ ?_)
  refine gw_ret ?_
  refine nx_retct 1 rfl rz142 rfl rfl rfl rfl fun wx hm => ?_
  have hg := hm.g
  clear hm
  exact ⟨⟨s0, s1, s2⟩, by simp [goodB, saEnc, *], (fun h => by first | (simp [nextS, *]; done) | (exfalso; simp [goodB, *] at h; done) | fail), hg⟩
 refine wl_set 11 rfl (congrArg Value.bool h0) ?_
 refine goff rfl rfl rfl (goff rfl rfl rfl (goff rfl rfl rfl (goff rfl rfl rfl (goff rfl rfl rfl (pf_ rfl rfl (sg_ rfl (nn_ (sr_ (fd_ fo74_2 rfl rfl (lk_ sc9 1 rfl rfl rfl (fd_ fo74_0 rfl rfl ?_)))))))))))
 refine lk_ sc3 1 rfl rfl rfl ?_
 refine wl_ov (ov_build (cs := [.int .i64 1, .string e2, .int .i64 e0]) rfl (by kernel_rfl)) rfl ?_
 refine wl_alloc zc142 rfl fun g5 => ?_
 refine wl_stores (cs' := [.int .i64 1, .string e2, .int .i64 e0]) 0 rz142 rfl rfl rfl rfl rfl rfl rfl rfl ?_
 refine nn_ (gw_seq (sr_ (fd_ fo74_3 rfl rfl (lk_ sc3 2 rfl rfl rfl (nn_ (gw_block (sr_ (wl_ov (ov_eql rfl rfl) rfl (sg_ rfl ?_)))))))))
 refine nn_ ?_
 refine gw_cond rfl (fun hh => ?_) (fun hh => ?_)
 ·have h1 : e3 = 1 := by simpa using hh
  clear hh
  refine gw_seq ?_
  refine gd (fun wz => Blk wz g5 142 [.int .i64 1, .string e2, .int .i64 e0] ∧ Blk wz g2 74 [.int .i64 e0, .string e1, .string e2, .int .i64 e3, .string e4] ∧ Blk wz g1 142 [.int .i64 s0, .string s1, .int .i64 s2] ∧ True) mixed (fun _ hm => ⟨hm.bl 0, hm.bl 2, hm.bl 3, trivial⟩) fun z => ?_
  refine wt 0 6 1 rfl z (ov_loads rz142 rfl (fun _ hm => hm.1) rfl rfl) ?_
  refine wt 1 6 3 rfl z (ov_field fo142_0 rfl rfl) ?_
  refine wt 2 6 7 rfl z (ov_load sc3 rfl (fun _ hm => hm.2.2.1) rfl) ?_
  refine wt 3 6 15 rfl z (ov_eql rfl rfl) ?_
  refine wa1 4 rfl ?_
  refine wl_stores (cs' := [.int .i64 1, .string e2, .int .i64 e0]) 1 rz142 rfl rfl rfl rfl rfl rfl rfl rfl ?_
  refine wl_nil ?_
  refine nw 6 31 (fun _ hm => ⟨hm.bl 0, hm.bl 2, hm.bl 3, trivial⟩) fun z => ?_
  refine wt 5 6 63 rfl z (ov_assign rfl) ?_
  refine wa_done (by kernel_rfl) ?_
  refine nx_then ?_
  refine gw_ret ?_
  refine nx_blk_ret (nx_then_ret ?_)
  refine nx_retct 1 rfl rz142 rfl rfl rfl rfl fun wx hm => ?_
  have hg := hm.g
  clear hm
  exact ⟨⟨1, e2, e0⟩, by simp [goodB, saEnc, *], (fun h => by first | (simp [nextS, *]; done) | (exfalso; simp [goodB, *] at h; done) | fail), hg⟩
 have h1 : ¬ (e3 = 1) := by simpa using hh
 clear hh
 refine sr_ (wl_ov (ov_eql rfl rfl) rfl (sg_ rfl (nn_ ?_)))
 refine gw_cond rfl (fun hh => ?_) (fun hh => ?_)
 ·have h2 : e3 = 2 := by simpa using hh
  clear hh
  refine sr_ (fd_ fo74_0 rfl rfl (lk_ sc3 2 rfl rfl rfl ?_))
  refine wl_ov (ov_build (cs := [.int .i64 2, .string ⟨#[]⟩, .int .i64 e0]) rfl (by kernel_rfl)) rfl ?_
  refine mv_ rfl ?_
  refine wl_stores (cs' := [.int .i64 2, .string ⟨#[]⟩, .int .i64 e0]) 1 rz142 rfl rfl rfl rfl rfl rfl rfl rfl ?_
  refine sg_ rfl (nn_ ?_)
  refine gw_ret ?_
  refine nx_blk_ret (nx_then_ret ?_)
  refine nx_retct 1 rfl rz142 rfl rfl rfl rfl fun wx hm => ?_
  have hg := hm.g
  clear hm
  exact ⟨⟨2, ⟨#[]⟩, e0⟩, by simp [goodB, saEnc, *], (fun h => by first | (simp [nextS, *]; done) | (exfalso; simp [goodB, *] at h; done) | fail), hg⟩
 have h2 : ¬ (e3 = 2) := by simpa using hh
 clear hh
 refine sr_ (wl_ov (ov_eql rfl rfl) rfl (sg_ rfl (nn_ ?_)))
 refine gw_cond rfl (fun hh => ?_) (fun hh => ?_)
 ·have h3 : e3 = 3 := by simpa using hh
  clear hh
  refine gw_seq ?_
  refine gd (fun wz => Blk wz g5 142 [.int .i64 1, .string e2, .int .i64 e0] ∧ Blk wz g2 74 [.int .i64 e0, .string e1, .string e2, .int .i64 e3, .string e4] ∧ Blk wz g1 142 [.int .i64 s0, .string s1, .int .i64 s2] ∧ True) mixed (fun _ hm => ⟨hm.bl 0, hm.bl 2, hm.bl 3, trivial⟩) fun z => ?_
  refine wt 0 6 1 rfl z (ov_loads rz142 rfl (fun _ hm => hm.1) rfl rfl) ?_
  refine wt 1 6 3 rfl z (ov_field fo142_0 rfl rfl) ?_
  refine wt 2 6 7 rfl z (ov_load sc3 rfl (fun _ hm => hm.2.2.1) rfl) ?_
  refine wt 3 6 15 rfl z (ov_eql rfl rfl) ?_
  refine wa1 4 rfl ?_
  refine wl_stores (cs' := [.int .i64 1, .string e2, .int .i64 e0]) 1 rz142 rfl rfl rfl rfl rfl rfl rfl rfl ?_
  refine wl_nil ?_
  refine nw 6 31 (fun _ hm => ⟨hm.bl 0, hm.bl 2, hm.bl 3, trivial⟩) fun z => ?_
  refine wt 5 6 63 rfl z (ov_assign rfl) ?_
  refine wa_done (by kernel_rfl) ?_
  refine nx_then ?_
  refine gw_ret ?_
  refine nx_blk_ret (nx_then_ret ?_)
  refine nx_retct 1 rfl rz142 rfl rfl rfl rfl fun wx hm => ?_
  have hg := hm.g
  clear hm
  exact ⟨⟨1, e2, e0⟩, by simp [goodB, saEnc, *], (fun h => by first | (simp [nextS, *]; done) | (exfalso; simp [goodB, *] at h; done) | fail), hg⟩
 have h3 : ¬ (e3 = 3) := by simpa using hh
 clear hh
 refine sr_ (wl_ov (ov_eql rfl rfl) rfl (sg_ rfl (nn_ ?_)))
 refine gw_cond rfl (fun hh => ?_) (fun hh => ?_)
 ·have h4 : e3 = 4 := by simpa using hh
  clear hh
  refine sr_ (fd_ fo142_0 rfl rfl ?_)
  refine wl_store 0 sc3 rfl rfl rfl rfl rfl rfl ?_
  refine nn_ (sr_ ?_)
  refine wl_ov (ov_loads rz142 rfl (fun _ hm => hm.blkI 0 rfl) rfl rfl) rfl ?_
  refine mv_ rfl ?_
  refine wl_stores (cs' := [.int .i64 3, .string e2, .int .i64 e0]) 1 rz142 rfl rfl rfl rfl rfl rfl rfl rfl ?_
  refine sg_ rfl (nn_ ?_)
  refine gw_ret ?_
  refine nx_blk_ret (nx_then_ret ?_)
  refine nx_retct 1 rfl rz142 rfl rfl rfl rfl fun wx hm => ?_
  have hg := hm.g
  clear hm
  exact ⟨⟨3, e2, e0⟩, by simp [goodB, saEnc, *], (fun h => by first | (simp [nextS, *]; done) | (exfalso; simp [goodB, *] at h; done) | fail), hg⟩
 have h4 : ¬ (e3 = 4) := by simpa using hh
 clear hh
 refine sr_ (wl_ov (ov_eql rfl rfl) rfl (sg_ rfl (nn_ ?_)))
 refine gw_cond rfl (fun hh => ?_) (fun hh => ?_)
 ·have h5 : e3 = 5 := by simpa using hh
  clear hh
  refine gw_seq ?_
  refine gd (fun wz => Blk wz g5 142 [.int .i64 1, .string e2, .int .i64 e0] ∧ Blk wz g2 74 [.int .i64 e0, .string e1, .string e2, .int .i64 e3, .string e4] ∧ Blk wz g1 142 [.int .i64 s0, .string s1, .int .i64 s2] ∧ True) mixed (fun _ hm => ⟨hm.bl 0, hm.bl 2, hm.bl 3, trivial⟩) fun z => ?_
  refine wt 0 13 1 rfl z (ov_loads rz142 rfl (fun _ hm => hm.1) rfl rfl) ?_
  refine wt 1 13 3 rfl z (ov_field fo142_0 rfl rfl) ?_
  refine wt 2 13 7 rfl z (ov_load sc3 rfl (fun _ hm => hm.2.2.1) rfl) ?_
  refine wt 3 13 15 rfl z (ov_eql rfl rfl) ?_
  refine wt 4 13 31 rfl z (ov_move rfl) ?_
  rcases Bool.eq_false_or_eq_true (decide (s0 = 3)) with h6 | h6
  ·refine wa_set 54 rfl (congrArg Value.bool h6) ?_
   refine wto 5 13 63 rfl rfl rfl z (ov_field fo142_1 rfl rfl) ?_
   refine wto 6 13 127 rfl rfl rfl z (ov_load sc9 rfl (fun _ hm => hm.2.2.1) rfl) ?_
   refine wto 7 13 255 rfl rfl rfl z (ov_field fo74_2 rfl rfl) ?_
   refine wto 8 13 511 rfl rfl rfl z (ov_load sc9 rfl (fun _ hm => hm.2.1) rfl) ?_
   refine wto 9 13 1023 rfl rfl rfl z (ov_seql rfl rfl) ?_
   refine wt 10 13 2047 rfl z (ov_pick_t rfl rfl) ?_
   refine wa1 11 rfl ?_
   refine wl_stores (cs' := [.int .i64 1, .string e2, .int .i64 e0]) 1 rz142 rfl rfl rfl rfl rfl rfl rfl rfl ?_
   refine wl_nil ?_
   refine nw 13 4095 (fun _ hm => ⟨hm.bl 0, hm.bl 2, hm.bl 3, trivial⟩) fun z => ?_
   refine wt 12 13 8191 rfl z (ov_assign rfl) ?_
   refine wa_done (by kernel_rfl) ?_
   refine nx_then ?_
   refine gw_ret ?_
   refine nx_blk_ret (nx_then_ret ?_)
   refine nx_retct 1 rfl rz142 rfl rfl rfl rfl fun wx hm => ?_
   have hg := hm.g
   clear hm
   exact ⟨⟨1, e2, e0⟩, by simp [goodB, saEnc, *], (fun h => by first | (simp [nextS, *]; done) | (exfalso; simp [goodB, *] at h; done) | fail), hg⟩
  refine wa_set 54 rfl (congrArg Value.bool h6) ?_
  refine wtf 5 13 63 rfl rfl rfl z ?_
  refine wtf 6 13 127 rfl rfl rfl z ?_
  refine wtf 7 13 255 rfl rfl rfl z ?_
  refine wtf 8 13 511 rfl rfl rfl z ?_
  refine wtf 9 13 1023 rfl rfl rfl z ?_
  refine wt 10 13 2047 rfl z (ov_pick_f rfl rfl) ?_
  refine wa1 11 rfl ?_
  refine wl_stores (cs' := [.int .i64 1, .string e2, .int .i64 e0]) 1 rz142 rfl rfl rfl rfl rfl rfl rfl rfl ?_
  refine wl_nil ?_
  refine nw 13 4095 (fun _ hm => ⟨hm.bl 0, hm.bl 2, hm.bl 3, trivial⟩) fun z => ?_
  refine wt 12 13 8191 rfl z (ov_assign rfl) ?_
  refine wa_done (by kernel_rfl) ?_
  refine nx_then ?_
  refine gw_ret ?_
  refine nx_blk_ret (nx_then_ret ?_)
  refine nx_retct 1 rfl rz142 rfl rfl rfl rfl fun wx hm => ?_
  have hg := hm.g
  clear hm
  exact ⟨⟨1, e2, e0⟩, by simp [goodB, saEnc, *], (fun h => by first | (simp [nextS, *]; done) | (exfalso; simp [goodB, *] at h; done) | fail), hg⟩
 have h5 : ¬ (e3 = 5) := by simpa using hh
 clear hh
 refine sr_ (wl_ov (ov_eql rfl rfl) rfl (sg_ rfl (nn_ ?_)))
 refine gw_cond rfl (fun hh => ?_) (fun hh => ?_)
 ·have h6 : e3 = 6 := by simpa using hh
  clear hh
  refine sr_ (fd_ fo74_4 rfl rfl (lk_ sc9 2 rfl rfl rfl (fd_ fo74_0 rfl rfl (lk_ sc3 2 rfl rfl rfl ?_))))
  refine wl_ov (ov_build (cs := [.int .i64 4, .string e4, .int .i64 e0]) rfl (by kernel_rfl)) rfl ?_
  refine mv_ rfl ?_
  refine wl_stores (cs' := [.int .i64 4, .string e4, .int .i64 e0]) 1 rz142 rfl rfl rfl rfl rfl rfl rfl rfl ?_
  refine sg_ rfl (nn_ ?_)
  refine gw_ret ?_
  refine nx_blk_ret (nx_then_ret ?_)
  refine nx_retct 1 rfl rz142 rfl rfl rfl rfl fun wx hm => ?_
  have hg := hm.g
  clear hm
  exact ⟨⟨4, e4, e0⟩, by simp [goodB, saEnc, *], (fun h => by first | (simp [nextS, *]; done) | (exfalso; simp [goodB, *] at h; done) | fail), hg⟩
 have h6 : ¬ (e3 = 6) := by simpa using hh
 clear hh
 refine sr_ (wl_ov (ov_eql rfl rfl) rfl (sg_ rfl (nn_ ?_)))
 refine gw_cond rfl (fun hh => ?_) (fun hh => ?_)
 ·have h7 : e3 = 7 := by simpa using hh
  clear hh
  refine gw_seq ?_
  refine gd (fun wz => Blk wz g5 142 [.int .i64 1, .string e2, .int .i64 e0] ∧ Blk wz g2 74 [.int .i64 e0, .string e1, .string e2, .int .i64 e3, .string e4] ∧ Blk wz g1 142 [.int .i64 s0, .string s1, .int .i64 s2] ∧ True) mixed (fun _ hm => ⟨hm.bl 0, hm.bl 2, hm.bl 3, trivial⟩) fun z => ?_
  refine wt 0 13 1 rfl z (ov_loads rz142 rfl (fun _ hm => hm.1) rfl rfl) ?_
  refine wt 1 13 3 rfl z (ov_field fo142_0 rfl rfl) ?_
  refine wt 2 13 7 rfl z (ov_load sc3 rfl (fun _ hm => hm.2.2.1) rfl) ?_
  refine wt 3 13 15 rfl z (ov_eql rfl rfl) ?_
  refine wt 4 13 31 rfl z (ov_move rfl) ?_
  rcases Bool.eq_false_or_eq_true (decide (s0 = 4)) with h8 | h8
  ·refine wa_set 75 rfl (congrArg Value.bool h8) ?_
   refine wto 5 13 63 rfl rfl rfl z (ov_field fo142_1 rfl rfl) ?_
   refine wto 6 13 127 rfl rfl rfl z (ov_load sc9 rfl (fun _ hm => hm.2.2.1) rfl) ?_
   refine wto 7 13 255 rfl rfl rfl z (ov_field fo74_2 rfl rfl) ?_
   refine wto 8 13 511 rfl rfl rfl z (ov_load sc9 rfl (fun _ hm => hm.2.1) rfl) ?_
   refine wto 9 13 1023 rfl rfl rfl z (ov_seql rfl rfl) ?_
   refine wt 10 13 2047 rfl z (ov_pick_t rfl rfl) ?_
   refine wa1 11 rfl ?_
   refine wl_stores (cs' := [.int .i64 1, .string e2, .int .i64 e0]) 1 rz142 rfl rfl rfl rfl rfl rfl rfl rfl ?_
   refine wl_nil ?_
   refine nw 13 4095 (fun _ hm => ⟨hm.bl 0, hm.bl 2, hm.bl 3, trivial⟩) fun z => ?_
   refine wt 12 13 8191 rfl z (ov_assign rfl) ?_
   refine wa_done (by kernel_rfl) ?_
   refine nx_then ?_
   refine gw_ret ?_
   refine nx_blk_ret (nx_then_ret ?_)
   refine nx_retct 1 rfl rz142 rfl rfl rfl rfl fun wx hm => ?_
   have hg := hm.g
   clear hm
   exact ⟨⟨1, e2, e0⟩, by simp [goodB, saEnc, *], (fun h => by first | (simp [nextS, *]; done) | (exfalso; simp [goodB, *] at h; done) | fail), hg⟩
  refine wa_set 75 rfl (congrArg Value.bool h8) ?_
  refine wtf 5 13 63 rfl rfl rfl z ?_
  refine wtf 6 13 127 rfl rfl rfl z ?_
  refine wtf 7 13 255 rfl rfl rfl z ?_
  refine wtf 8 13 511 rfl rfl rfl z ?_
  refine wtf 9 13 1023 rfl rfl rfl z ?_
  refine wt 10 13 2047 rfl z (ov_pick_f rfl rfl) ?_
  refine wa1 11 rfl ?_
  refine wl_stores (cs' := [.int .i64 1, .string e2, .int .i64 e0]) 1 rz142 rfl rfl rfl rfl rfl rfl rfl rfl ?_
  refine wl_nil ?_
  refine nw 13 4095 (fun _ hm => ⟨hm.bl 0, hm.bl 2, hm.bl 3, trivial⟩) fun z => ?_
  refine wt 12 13 8191 rfl z (ov_assign rfl) ?_
  refine wa_done (by kernel_rfl) ?_
  refine nx_then ?_
  refine gw_ret ?_
  refine nx_blk_ret (nx_then_ret ?_)
  refine nx_retct 1 rfl rz142 rfl rfl rfl rfl fun wx hm => ?_
  have hg := hm.g
  clear hm
  exact ⟨⟨1, e2, e0⟩, by simp [goodB, saEnc, *], (fun h => by first | (simp [nextS, *]; done) | (exfalso; simp [goodB, *] at h; done) | fail), hg⟩
 have h7 : ¬ (e3 = 7) := by simpa using hh
 clear hh
 refine sr_ (wl_ov (ov_eql rfl rfl) rfl (sg_ rfl (nn_ ?_)))
 refine gw_cond rfl (fun hh => ?_) (fun hh => ?_)
 ·have h8 : e3 = 8 := by simpa using hh
  clear hh
  refine sr_ (fd_ fo74_0 rfl rfl (lk_ sc3 2 rfl rfl rfl ?_))
  refine wl_ov (ov_build (cs := [.int .i64 5, .string ⟨#[]⟩, .int .i64 e0]) rfl (by kernel_rfl)) rfl ?_
  refine mv_ rfl ?_
  refine wl_stores (cs' := [.int .i64 5, .string ⟨#[]⟩, .int .i64 e0]) 1 rz142 rfl rfl rfl rfl rfl rfl rfl rfl ?_
  refine sg_ rfl (nn_ ?_)
  refine gw_ret ?_
  refine nx_blk_ret (nx_then_ret ?_)
  refine nx_retct 1 rfl rz142 rfl rfl rfl rfl fun wx hm => ?_
  have hg := hm.g
  clear hm
  exact ⟨⟨5, ⟨#[]⟩, e0⟩, by simp [goodB, saEnc, *], (fun h => by first | (simp [nextS, *]; done) | (exfalso; simp [goodB, *] at h; done) | fail), hg⟩
 have h8 : ¬ (e3 = 8) := by simpa using hh
 clear hh
 refine gw_skip (nx_blk_nrm (nx_then (sr_ ?_)))
 refine wl_ov (ov_loads rz142 rfl (fun _ hm => hm.blkI 3 rfl) rfl rfl) rfl ?_
 refine wl_stores (cs' := [.int .i64 s0, .string s1, .int .i64 s2]) 1 rz142 rfl rfl rfl rfl rfl rfl rfl rfl ?_
 refine sg_ rfl (nn_ ?_)
 refine gw_ret ?_
 refine nx_retct 1 rfl rz142 rfl rfl rfl rfl fun wx hm => ?_
 have hg := hm.g
 clear hm
 exact ⟨⟨s0, s1, s2⟩, by simp [goodB, saEnc, *], (fun h => by first | (simp [nextS, *]; done) | (exfalso; simp [goodB, *] at h; done) | fail), hg⟩
def natI (k : Nat) : Int := (k : Int)
def itEnc1 (x : Int) : List Value := [.int .i64 x]
theorem it_len1 (x : Int) : (itEnc1 x).length = 1 := rfl
def brokenV (l : List Ev) (v : ByteArray) : List Int := (brks v l 0 sa0).map natI
theorem stages_any (l : List Ev) (A : Option Addr) (n c0 : Nat) (v : ByteArray) (w : World) (hl : SlT evEnc 5 74 w A n l) (hn : n ≤ 100000) :
  Calls Tryz.prog 134 #[.slice A n c0, .string v] w (fun e w' => ∃ (A1 : Option Addr) (n1 c1 : Nat) (A2 : Option Addr) (n2 c2 : Nat), e = .returned (.tuple #[.slice A1 n1 c1, .slice A2 n2 c2]) ∧ w'.ownsRow w.heap.size 142 3 (.slice A1 n1 c1) n1 ((stages l v).flatMap saEnc) ∧ (stages l v).length = n1 ∧ w'.ownsRow w.heap.size 3 1 (.slice A2 n2 c2) n2 ((brokenV l v).flatMap itEnc1) ∧ (brokenV l v).length = n2 ∧ n1 ≤ n + 1 ∧ n2 ≤ n ∧ w.grownBy w' none) := by
 refine gw_enter ⟨48, w, none, []⟩ Tryz.func134 rfl Tryz.ntmps134 rfl (mem0 (X := [SlOld evEnc 5 74 w.heap.size none A n l]) (allF_cons hl.old allF_nil) (allL_cons SlOld.lasts allL_nil)) ?_
 refine sr_ ?_
 have hlen := hl.len
 refine wl_nilOwn 3 1 ?_
 refine sg_ rfl (sg_ rfl (nn_ (sr_ ?_)))
 refine wl_ov (ov_build (cs := [.int .i64 0, .string ⟨#[]⟩, .int .i64 0]) rfl (by kernel_rfl)) rfl ?_
 refine wl_buildSlice (e := 142) (cs := [.int .i64 0, .string ⟨#[]⟩, .int .i64 0]) rfl (by kernel_rfl) rfl fun g1 => ?_
 refine sg_ rfl (sg_ rfl (nn_ (gw_seq (sr_ (mv_ rfl (wl_ov (ov_len es47 rfl) rfl (mv_ rfl (nn_ (gw_block ?_)))))))))
 refine gw_toOwn (sz := 3) (n := 1) 0 [] rfl rfl rfl (by unfold maxLen; omega) ?_
 refine gw_loop (γ := Nat × Sa × Nat × Option Addr × Nat × List Sa × Nat × Option Addr × Nat × List Int) (fun g => (g.1 ≤ n ∧ g.2.2.1 ≤ g.1 + 1 ∧ g.2.2.2.2.2.2.1 ≤ g.1) ∧ (g.2.2.2.2.2.1.length = g.2.2.1 ∧ 1 ≤ g.2.2.1 ∧ g.2.2.2.2.2.1[g.2.2.1 - 1]? = some g.2.1 ∧ g.2.2.2.2.2.1 ++ stgs v (l.drop g.1) g.2.1 = stages l v) ∧ g.2.2.2.2.2.2.2.2.2.length = g.2.2.2.2.2.2.1 ∧ g.2.2.2.2.2.2.2.2.2 ++ (brks v (l.drop g.1) g.1 g.2.1).map natI = brokenV l v) (fun g => [(1, .string v), (4, .slice none 0 0), (5, .slice none 0 0), (6, .slice g.2.2.2.1 g.2.2.1 g.2.2.2.2.1), (7, .slice g.2.2.2.2.2.2.2.1 g.2.2.2.2.2.2.1 g.2.2.2.2.2.2.2.2.1), (14, .slice A n c0), (15, .int .i64 ((n : Nat) : Int)), (16, .int .i64 ((g.1 : Nat) : Int))]) (fun g => fun _ => True) (fun g => []) (fun g => [⟨.slice g.2.2.2.1 g.2.2.1 g.2.2.2.2.1, 142, 3, g.2.2.1, g.2.2.2.2.2.1.flatMap saEnc⟩, ⟨.slice g.2.2.2.2.2.2.2.1 g.2.2.2.2.2.2.1 g.2.2.2.2.2.2.2.2.1, 3, 1, g.2.2.2.2.2.2.1, g.2.2.2.2.2.2.2.2.2.flatMap itEnc1⟩]) (fun g => [SlOld evEnc 5 74 w.heap.size none A n l]) (fun g => n - g.1) (0, sa0, 1, (some ⟨g1, 0, none⟩), 1, [sa0], 0, none, 0, []) ⟨⟨Nat.zero_le _, Nat.le_refl _, Nat.le_refl _⟩, ⟨rfl, Nat.le_refl _, rfl, rfl⟩, rfl, rfl⟩ ⟨rfl, rfl, rfl, rfl, rfl, rfl, rfl, rfl, trivial⟩ (fun _ hm => hm.pick [] [0, 1] [0] rfl rfl) ?_
 rintro ⟨i, sc, k, A1, c1, ol, kb, A2, c2, bl⟩ hinv
 replace hinv : (i ≤ n ∧ k ≤ i + 1 ∧ kb ≤ i) ∧ (ol.length = k ∧ 1 ≤ k ∧ ol[k - 1]? = some sc ∧ ol ++ stgs v (l.drop i) sc = stages l v) ∧ bl.length = kb ∧ bl ++ (brks v (l.drop i) i sc).map natI = brokenV l v := hinv
 dsimp only
 refine sr_ ?_
 obtain ⟨⟨hi0, hki, hkbi⟩, ⟨hol, hk1, hlast, hst⟩, hbl, hbr⟩ := hinv
 refine wl_ov (ov_lss rfl rfl) rfl (nn_ (gw_seq ?_))
 refine gw_cond rfl (fun hh => ?_) (fun hh => ?_)
 ·have hi : ((i : Nat) : Int) < ((n : Nat) : Int) := by simpa using hh
  clear hh
  refine gw_skip (nx_then (gw_seq (gw_block (sr_ ?_))))
  obtain ⟨b, off, hA, _, _⟩ := hl.get (by omega)
  subst hA
  obtain ⟨x, hx⟩ : ∃ x, l[i]? = some x := ⟨_, List.getElem?_eq_getElem (by omega)⟩
  obtain ⟨e0, e1, e2, e3, e4⟩ := x
  have hsa := stgs_at (v := v) (s := sc) hx
  have hba := brks_at (v := v) (s := sc) hx
  dsimp only at hsa hba
  refine mv_ rfl ?_
  refine wl_ov (ov_index (j := i) es47 rfl rfl (by omega)) rfl ?_
  refine wl_ov (ov_elem (vs := [.int .i64 e0, .string e1, .string e2, .int .i64 e3, .string e4]) rz74 rfl (fun _ hm => (hm.fact 0 rfl).1) hx rfl rfl) rfl ?_
  refine wl_alloc zc74 rfl fun g2 => ?_
  refine sg_ rfl ?_
  refine wl_stores (cs' := [.int .i64 e0, .string e1, .string e2, .int .i64 e3, .string e4]) 0 rz74 rfl rfl rfl rfl rfl rfl rfl rfl ?_
  refine nn_ (gw_seq (sr_ (fd_ fo74_1 rfl rfl (lk_ sc9 0 rfl rfl rfl (mv_ rfl (wl_ov (ov_sneq rfl rfl) rfl (nn_ ?_)))))))
  refine gw_cond rfl (fun hh => ?_) (fun hh => ?_)
  ·have hv : (e1.toList == v.toList) = false := by simpa using hh
   clear hh
   refine gw_exit ?_
   refine nx_then_exit ?_
   refine nx_blk_here ?_
   refine nx_then (gw_region (ad_ rfl rfl (mv_ rfl (wl_nil ?_))))
   exact nx_round (i + 1, sc, k, A1, c1, ol, kb, A2, c2, bl) ⟨⟨by dsimp only; omega, by dsimp only; omega, by dsimp only; omega⟩, ⟨hol, hk1, hlast, by rw [hsa, if_neg (by rw [hv]; decide)] at hst; exact hst⟩, hbl, by rw [hba, if_neg (by rw [hv]; decide)] at hbr; exact hbr⟩ (by dsimp only; omega) ⟨rfl, rfl, rfl, rfl, rfl, rfl, rfl, (some_int (by omega)), trivial⟩ (fun _ hm => hm.pick [] [0, 1] [0] rfl rfl)
  have hv : (e1.toList == v.toList) = true := by simpa using hh
  clear hh
  refine gw_skip (nx_then ?_)
  rw [if_pos hv] at hsa hba
  obtain ⟨s0, s1, s2⟩ := sc
  refine gw_look (R := ∃ g, A1 = some ⟨g, 0, none⟩) (fun wx hm => own_addr (hm.ownI 0 rfl) (by omega)) ?_
  rintro ⟨bs, rfl⟩
  refine gw_cut (γ := Nat × Sa) (I := (fun g => goodB (⟨s0, s1, s2⟩ : Sa) (⟨e0, e1, e2, e3, e4⟩ : Ev) = true → g.2 = nextS (⟨e0, e1, e2, e3, e4⟩ : Ev))) (S' := (fun g => [(1, .string v), (4, .slice none 0 0), (5, .slice none 0 0), (6, .slice (some ⟨bs, 0, none⟩) k c1), (7, .slice A2 kb c2), (8, .int .i64 ((i : Nat) : Int)), (10, .pointer (some ⟨g.1, 0, none⟩)), (11, .bool (goodB (⟨s0, s1, s2⟩ : Sa) (⟨e0, e1, e2, e3, e4⟩ : Ev))), (14, .slice (some ⟨b, off, none⟩) n c0), (15, .int .i64 ((n : Nat) : Int)), (16, .int .i64 ((i : Nat) : Int))])) (K' := (fun g => fun _ => True)) (L' := (fun g => [(g.1, 142, [.int .i64 g.2.st, .string g.2.sta, .int .i64 g.2.since]), (g2, 74, [.int .i64 e0, .string e1, .string e2, .int .i64 e3, .string e4])])) (O' := (fun g => [⟨.slice (some ⟨bs, 0, none⟩) k c1, 142, 3, k, ol.flatMap saEnc⟩, ⟨.slice A2 kb c2, 3, 1, kb, bl.flatMap itEnc1⟩])) (X' := (fun g => [SlOld evEnc 5 74 w.heap.size none (some ⟨b, off, none⟩) n l])) ?_ ?_
  ·have hk2 : k - 1 < k := by omega
   refine gd (fun wz => Blk wz g2 74 [.int .i64 e0, .string e1, .string e2, .int .i64 e3, .string e4] ∧ (SlOld evEnc 5 74 w.heap.size none (some ⟨b, off, none⟩) n l) wz ∧ wz.ownsRow w.heap.size 142 3 (.slice (some ⟨bs, 0, none⟩) k c1) k (ol.flatMap saEnc) ∧ wz.ownsRow w.heap.size 3 1 (.slice A2 kb c2) kb (bl.flatMap itEnc1) ∧ True) mixed (fun _ hm => ⟨hm.bl 0, hm.fa 0, hm.ownI 0 rfl, hm.ownI 1 rfl, trivial⟩) fun z => ?_
   refine wt 0 14 1 rfl z (ov_move rfl) ?_
   refine wt 1 14 3 rfl z (ov_move rfl) ?_
   refine wt 2 14 7 rfl z (ov_len es220 rfl) ?_
   refine wt 3 14 15 rfl z (ov_sub rfl rfl (by omega) (by omega)) ?_
   refine wa_set 29 (v' := .int .i64 (((k - 1) : Nat) : Int)) rfl (congrArg (Value.int .i64) (by omega)) ?_
   refine wt 4 14 31 rfl z (ov_index (j := (k - 1)) es220 rfl rfl (by omega)) ?_
   refine wt 5 14 63 rfl z (ov_elem (vs := [.int .i64 s0, .string s1, .int .i64 s2]) rz142 rfl (fun _ hm => (SlT.ofOwn sa_len (hm.2.2.1) hol)) hlast rfl rfl) ?_
   refine wt 6 14 127 rfl z (ov_loads rz74 rfl (fun _ hm => hm.1) rfl rfl) ?_
   refine wa_all [7, 11] (by kernel_rfl) rfl ⟨⟨_, rfl, ?_⟩, ⟨_, rfl, ?_⟩, trivial⟩
   ·refine wl_callx (γ := Sa) (val := (fun g => .tuple #[.agg #[.int .i64 g.st, .string g.sta, .int .i64 g.since], .bool (goodB (⟨s0, s1, s2⟩ : Sa) (⟨e0, e1, e2, e3, e4⟩ : Ev))])) (φ := (fun g => goodB (⟨s0, s1, s2⟩ : Sa) (⟨e0, e1, e2, e3, e4⟩ : Ev) = true → g = nextS (⟨e0, e1, e2, e3, e4⟩ : Ev))) (Y := (fun g => fun _ => True)) rfl cb205 rfl rfl (fun wx hm => (rfollow_any s0 s1 s2 e0 e1 e2 e3 e4 wx).mono fun _ _ ⟨t, he, h1, hg⟩ => ⟨t, he, h1, hg, trivial⟩) (fun _ => Lasts2.true_) ?_
    rintro t htn
    refine wl_nil ?_
    refine nw 14 255 (fun _ hm => ⟨hm.bl 0, hm.fa 1, hm.ownI 0 rfl, hm.ownI 1 rfl, trivial⟩) fun z => ?_
    refine wt 8 14 511 rfl z (ov_move rfl) ?_
    refine wt 9 14 1023 rfl z (ov_extract rfl rfl) ?_
    refine wt 10 14 2047 rfl z (ov_extract rfl rfl) ?_
    refine wa1 11 rfl ?_
    refine wl_alloc zc142 rfl fun g4 => ?_
    refine wl_nil ?_
    refine nw 14 4095 (fun _ hm => ⟨hm.bl 1, hm.fa 1, hm.ownI 0 rfl, hm.ownI 1 rfl, trivial⟩) fun z => ?_
    refine wa1 12 rfl ?_
    refine wl_stores (cs' := [.int .i64 t.st, .string t.sta, .int .i64 t.since]) 0 rz142 rfl rfl rfl rfl rfl rfl rfl rfl ?_
    refine wl_nil ?_
    refine nw 14 8191 (fun _ hm => ⟨hm.bl 1, hm.fa 1, hm.ownI 0 rfl, hm.ownI 1 rfl, trivial⟩) fun z => ?_
    refine wt 13 14 16383 rfl z (ov_assign rfl) ?_
    refine wa_done (by kernel_rfl) ?_
    exact nx_meet (g4, t) htn ⟨rfl, rfl, rfl, rfl, rfl, rfl, rfl, rfl, rfl, rfl, rfl, trivial⟩ (fun _ hm => hm.pick [0, 1] [0, 1] [1] rfl rfl)
   refine wl_alloc zc142 rfl fun g5 => ?_
   refine wl_nil ?_
   refine nw 14 2175 (fun _ hm => ⟨hm.bl 1, hm.fa 0, hm.ownI 0 rfl, hm.ownI 1 rfl, trivial⟩) fun z => ?_
   refine wa1 7 rfl ?_
   refine wl_callx (γ := Sa) (val := (fun g => .tuple #[.agg #[.int .i64 g.st, .string g.sta, .int .i64 g.since], .bool (goodB (⟨s0, s1, s2⟩ : Sa) (⟨e0, e1, e2, e3, e4⟩ : Ev))])) (φ := (fun g => goodB (⟨s0, s1, s2⟩ : Sa) (⟨e0, e1, e2, e3, e4⟩ : Ev) = true → g = nextS (⟨e0, e1, e2, e3, e4⟩ : Ev))) (Y := (fun g => fun _ => True)) rfl cb205 rfl rfl (fun wx hm => (rfollow_any s0 s1 s2 e0 e1 e2 e3 e4 wx).mono fun _ _ ⟨t, he, h1, hg⟩ => ⟨t, he, h1, hg, trivial⟩) (fun _ => Lasts2.true_) ?_
   rintro t htn
   refine wl_nil ?_
   refine nw 14 2303 (fun _ hm => ⟨hm.bl 1, hm.fa 1, hm.ownI 0 rfl, hm.ownI 1 rfl, trivial⟩) fun z => ?_
   refine wt 8 14 2559 rfl z (ov_move rfl) ?_
   refine wt 9 14 3071 rfl z (ov_extract rfl rfl) ?_
   refine wt 10 14 4095 rfl z (ov_extract rfl rfl) ?_
   refine wa1 12 rfl ?_
   refine wl_stores (cs' := [.int .i64 t.st, .string t.sta, .int .i64 t.since]) 0 rz142 rfl rfl rfl rfl rfl rfl rfl rfl ?_
   refine wl_nil ?_
   refine nw 14 8191 (fun _ hm => ⟨hm.bl 1, hm.fa 1, hm.ownI 0 rfl, hm.ownI 1 rfl, trivial⟩) fun z => ?_
   refine wt 13 14 16383 rfl z (ov_assign rfl) ?_
   refine wa_done (by kernel_rfl) ?_
   exact nx_meet (g5, t) htn ⟨rfl, rfl, rfl, rfl, rfl, rfl, rfl, rfl, rfl, rfl, rfl, trivial⟩ (fun _ hm => hm.pick [0, 1] [0, 1] [1] rfl rfl)
  rintro ⟨gt, t⟩ hinv
  replace hinv : goodB (⟨s0, s1, s2⟩ : Sa) (⟨e0, e1, e2, e3, e4⟩ : Ev) = true → t = nextS (⟨e0, e1, e2, e3, e4⟩ : Ev) := hinv
  dsimp only
  refine sr_ ?_
  have htn : goodB (⟨s0, s1, s2⟩ : Sa) (⟨e0, e1, e2, e3, e4⟩ : Ev) = true → t = nextS (⟨e0, e1, e2, e3, e4⟩ : Ev) := hinv
  refine mv_ rfl (nn_ ?_)
  refine gw_cond rfl (fun hh => ?_) (fun hh => ?_)
  ·have hgd : (goodB (⟨s0, s1, s2⟩ : Sa) (⟨e0, e1, e2, e3, e4⟩ : Ev)) = true := by simpa using hh
   clear hh
   refine gw_region ?_
   have htn := htn hgd
   rw [if_pos hgd] at hsa hba
   refine mv_ rfl ?_
   refine wl_ov (ov_loads rz142 rfl (fun _ hm => hm.blkI 0 rfl) rfl rfl) rfl ?_
   refine wl_buildSlice (e := 142) (cs := [.int .i64 t.st, .string t.sta, .int .i64 t.since]) rfl (by kernel_rfl) rfl fun g7 => ?_
   refine wl_append (news := [.int .i64 t.st, .string t.sta, .int .i64 t.since]) 0 0 ap220 rfl rfl rfl rfl rfl rfl rfl (by omega) (by unfold maxLen; omega) rfl rfl fun v2 hv2 => ?_
   refine wl_look (R := ∃ A cc, v2 = .slice A (k + 1) cc) (fun wx hm => own_slice (hm.ownI 0 rfl)) ?_
   rintro ⟨A3, c3, rfl⟩
   have hxs : ol.flatMap saEnc ++ ([.int .i64 t.st, .string t.sta, .int .i64 t.since] : List Value) = (ol ++ [t]).flatMap saEnc := by simp [saEnc]
   rw [hxs]
   refine sg_ rfl (wl_nil (nx_blk_nrm (nx_then (gw_region (ad_ rfl rfl (mv_ rfl (wl_nil ?_)))))))
   exact nx_round (i + 1, t, k + 1, A3, c3, ol ++ [t], kb, A2, c2, bl) ⟨⟨by dsimp only; omega, by dsimp only; omega, by dsimp only; omega⟩, ⟨by simp [hol], by dsimp only; omega, by simp [← hol], by rw [hsa, ← htn] at hst; rw [← hst]; simp⟩, hbl, by rw [hba, ← htn] at hbr; exact hbr⟩ (by dsimp only; omega) ⟨rfl, rfl, rfl, rfl, rfl, rfl, rfl, (some_int (by omega)), trivial⟩ (fun _ hm => hm.pick [] [0, 1] [0] rfl rfl)
  have hgd : (goodB (⟨s0, s1, s2⟩ : Sa) (⟨e0, e1, e2, e3, e4⟩ : Ev)) = false := by simpa using hh
  clear hh
  refine gw_region ?_
  rw [if_neg (by rw [hgd]; decide)] at hsa hba
  refine mv_ rfl (mv_ rfl ?_)
  refine wl_buildSlice (e := 3) (cs := [.int .i64 ((i : Nat) : Int)]) rfl (by kernel_rfl) rfl fun g8 => ?_
  refine wl_append (news := [.int .i64 ((i : Nat) : Int)]) 1 0 ap22 rfl rfl rfl rfl rfl rfl rfl (by omega) (by unfold maxLen; omega) rfl rfl fun v2 hv2 => ?_
  refine wl_look (R := ∃ A cc, v2 = .slice A (kb + 1) cc) (fun wx hm => own_slice (hm.ownI 1 rfl)) ?_
  rintro ⟨A3, c3, rfl⟩
  have hxs : bl.flatMap itEnc1 ++ ([.int .i64 ((i : Nat) : Int)] : List Value) = (bl ++ [natI i]).flatMap itEnc1 := by simp [itEnc1, natI]
  rw [hxs]
  refine sg_ rfl (wl_nil (nx_blk_nrm (nx_then (gw_region (ad_ rfl rfl (mv_ rfl (wl_nil ?_)))))))
  exact nx_round (i + 1, (⟨s0, s1, s2⟩ : Sa), k, some ⟨bs, 0, none⟩, c1, ol, kb + 1, A3, c3, bl ++ [natI i]) ⟨⟨by dsimp only; omega, by dsimp only; omega, by dsimp only; omega⟩, ⟨hol, hk1, hlast, by rw [hsa] at hst; exact hst⟩, by simp [hbl], by rw [hba] at hbr; rw [← hbr]; simp⟩ (by dsimp only; omega) ⟨rfl, rfl, rfl, rfl, rfl, rfl, rfl, (some_int (by omega)), trivial⟩ (fun _ hm => hm.pick [] [0, 1] [0] rfl rfl)
 have hi : ¬ (((i : Nat) : Int) < ((n : Nat) : Int)) := by simpa using hh
 clear hh
 refine gw_exit ?_
 refine nx_then_exit (nx_then_exit ?_)
 refine nx_blk_here ?_
 refine nx_then (sr_ (mv_ rfl (mv_ rfl (sg_ rfl (sg_ rfl (nn_ ?_))))))
 refine gw_ret ?_
 have hdn : l.drop i = [] := List.drop_eq_nil_of_le (by omega)
 have hs1 : ol = stages l v := by rw [← hst, hdn]; simp [stgs]
 have hb1 : bl = brokenV l v := by rw [← hbr, hdn]; simp [brks]
 refine nx_ret2 rfl rfl rfl fun wx hm => ?_
 exact ⟨A1, k, c1, A2, kb, c2, rfl, hs1 ▸ hm.ownI 0 rfl, hs1 ▸ hol, hb1 ▸ hm.ownI 1 rfl, hb1 ▸ hbl, by omega, by omega, hm.g⟩
end Go.Proofs.YtiendebcdicjnaaGreatDoor
namespace Go.Proofs.YtiendebcdicjnaaGreatDoor
open Go.RowKit Go.Shelf
attribute [local go_sem] Oper.semAt_some
/-- What has come when k rounds are over: from the end. -/
def backs (zs : List Sa) (k : Nat) : List (Nat × Sa) := (List.range k).map fun j => (zs.length - 1 - j, zs[zs.length - 1 - j]?.getD sa0)
theorem backs_succ (zs : List Sa) (k : Nat) : backs zs (k + 1) = backs zs k ++ [(zs.length - 1 - k, zs[zs.length - 1 - k]?.getD sa0)] := by simp [backs, List.range_succ]
theorem backs_len (zs : List Sa) (k : Nat) : (backs zs k).length = k := by simp [backs]
set_option maxRecDepth 100000 in
set_option maxHeartbeats 4000000 in
/-- The closure: for every loop body that keeps what lay below n₀. -/
theorem back1_in (F : Fence) (n : Nat) (hfn : F.fn 206) (hro : F.round = none) (hn : 1 ≤ n) (l Bs n₀ b off cap : Nat) (zs : List Sa) (hz : zs.length ≤ 1000000) (hb : b < n₀) (hB : Bs < n₀) (J Jx : List (Nat × Sa) → World → Prop)
    (hY : ∀ pre x W, J pre W → pre.length < zs.length → YieldAt F (n - 1) Tryz.prog l #[.int .i64 (x.1 : Int), .agg #[.int .i64 x.2.st, .string x.2.sta, .int .i64 x.2.since]] W fun e W' =>
      (e = .returned (.bool true) ∧ J (pre ++ [x]) W' ∧ Below n₀ W W') ∨ (e = .returned (.bool false) ∧ Jx (pre ++ [x]) W'))
    (W : World) (hBs : W.cell? ⟨Bs, 0, none⟩ = some (.slice (some ⟨b, off, none⟩) zs.length cap)) (hc : ∀ j x, zs[j]? = some x → W.rangeAt b (off + j * 3) (saEnc x)) (h0 : J [] W) :
    CallsIn F n Tryz.prog 206 #[.func (.yield l) #[] #[], .pointer (some ⟨Bs, 0, none⟩)] W fun e W' => (∃ v, e = .returned v) ∧
      ((∃ ys, ys = backs zs zs.length ∧ J ys W') ∨ (∃ pre, (∃ k, k ≤ zs.length ∧ pre = backs zs k) ∧ Jx pre W')) := by
  refine callsIn_of_wp Tryz.func206 rfl hfn ?_ hro
  simp only [Tryz.ntmps206, List.size_toArray, List.length_cons, List.length_nil, Nat.reduceAdd, Nat.reduceSub, Array.replicate_succ, Array.replicate_zero, List.push_toArray, List.append_toArray, List.nil_append, List.cons_append]
  have hw0 : IntKind.i64.wrap ((zs.length : Int) - 1) = (zs.length : Int) - 1 := IntWalk.i64_in _ (by omega)
  gi_wp2
  gi_loopw [3] (fun i wr => ∃ m : Nat, m ≤ zs.length ∧ i = .int .i64 ((m : Int) - 1) ∧ J (backs zs (zs.length - m)) wr ∧ Below n₀ W wr)
    (fun i _ => (intOf i + 1).toNat)
  case atStart => exact ⟨zs.length, Nat.le_refl _, rfl, by rw [Nat.sub_self]; exact h0, Below.refl _ _⟩
  case round =>
    obtain ⟨m, hm, rfl, hJs, hnx⟩ := hrel
    have hBr : wr.cell? ⟨Bs, 0, none⟩ = some (.slice (some ⟨b, off, none⟩) zs.length cap) := (hnx.cell (p := ⟨Bs, 0, none⟩) hB).trans hBs
    rcases m with _ | j
    · gi_wp2
      go_end0
      exact ⟨⟨_, rfl⟩, .inl ⟨_, rfl, by simpa using hJs⟩⟩
    · have ej : ((j + 1 : Nat) : Int) - 1 = (j : Int) := by omega
      rw [ej]
      have hlt : j < zs.length := by omega
      obtain ⟨x, hx⟩ : ∃ x, zs[j]? = some x := ⟨_, List.getElem?_eq_getElem hlt⟩
      have hr := hc j x hx
      have k0 : wr.cell? ⟨b, off + j * 3, none⟩ = some (.int .i64 x.st) := (hnx.cell (p := ⟨b, off + j * 3, none⟩) hb).trans (hr 0 _ rfl)
      have k1 : wr.cell? ⟨b, off + j * 3 + 1, none⟩ = some (.string x.sta) := (hnx.cell (p := ⟨b, off + j * 3 + 1, none⟩) hb).trans (hr 1 _ rfl)
      have k2 : wr.cell? ⟨b, off + j * 3 + 2, none⟩ = some (.int .i64 x.since) := (hnx.cell (p := ⟨b, off + j * 3 + 2, none⟩) hb).trans (hr 2 _ rfl)
      have hjx : zs.length - 1 - (zs.length - (j + 1)) = j := by omega
      have hbk := backs_succ zs (zs.length - (j + 1))
      rw [hjx, hx, show zs.length - (j + 1) + 1 = zs.length - j by omega] at hbk
      obtain ⟨fn, tmps, assign, body, hy, hR⟩ := hY _ (j, x) wr hJs (by rw [backs_len]; omega)
      dsimp only at hy
      have hw1 : IntKind.i64.wrap ((j : Int) - 1) = (j : Int) - 1 := IntWalk.i64_in _ (by omega)
      gi_wp2
      refine hR.mono ?_
      rintro e W3 (⟨rfl, hJ3, hk3⟩ | ⟨rfl, hJx3⟩)
      · gi_wp2
        go_roundw
        case rel => exact ⟨j, by omega, by first | rfl | rw [hw1], by rw [hbk]; exact hJ3, hnx.trans hk3⟩
        case measure => simp [intOf]
      · gi_wp2
        refine bodyPost_ret (results_none rfl _ _ _) rfl ?_
        exact ⟨⟨_, rfl⟩, .inr ⟨_, ⟨zs.length - j, by omega, hbk.symm⟩, hJx3⟩⟩
set_option maxHeartbeats 1000000 in
theorem backward_in (F : Fence) (n : Nat) (hfn : F.fn 135) (hro : F.round = none) (a : Option Addr) (len cap : Nat) (w : World) :
    CallsIn F n Tryz.prog 135 #[.slice a len cap] w fun e w' => e = .returned (.func (.func 206) #[] #[.pointer (some ⟨w.heap.size, 0, none⟩)]) ∧ w' = w.alloc (.cells #[.slice a len cap] 220) := by
  refine callsIn_of_wp Tryz.func135 rfl hfn ?_ hro
  simp only [Tryz.ntmps135, List.size_toArray, List.length_cons, List.length_nil, Nat.reduceAdd, Nat.reduceSub, Array.replicate_succ, Array.replicate_zero, List.push_toArray, List.append_toArray, List.nil_append, List.cons_append]
  gi_wp2
  go_ret
  exact ⟨rfl, rfl⟩
theorem back_stops (F : Fence) (n : Nat) (hfn : F.fn 206) (hro : F.round = none) (hn : 1 ≤ n) (Bs n₀ b off cap : Nat) (zs : List Sa) (hz : zs.length ≤ 1000000) (hb : b < n₀) (hB : Bs < n₀) (w : World) (hn₀ : n₀ ≤ w.heap.size)
    (hBs : w.cell? ⟨Bs, 0, none⟩ = some (.slice (some ⟨b, off, none⟩) zs.length cap)) (hc : ∀ j x, zs[j]? = some x → w.rangeAt b (off + j * 3) (saEnc x)) :
    SeqStopsK F n Tryz.prog 206 #[.pointer (some ⟨Bs, 0, none⟩)] (fun x : Nat × Sa => #[Value.int .i64 (x.1 : Int), .agg #[.int .i64 x.2.st, .string x.2.sta, .int .i64 x.2.since]]) (Below n₀) (fun ys => ys = backs zs zs.length)
      (fun pre => ∃ k, k ≤ zs.length ∧ pre = backs zs k) zs.length w := fun l J Jx W hW _ _ hY h0 =>
  back1_in F n hfn hro hn l Bs n₀ b off cap zs hz hb hB J Jx hY W ((hW.cell (p := ⟨Bs, 0, none⟩) (Nat.lt_of_lt_of_le hB hn₀)).trans hBs)
    (fun j x hx k v hv => (hW.cell (p := ⟨b, off + j * 3 + k, none⟩) (Nat.lt_of_lt_of_le hb hn₀)).trans (hc j x hx k v hv)) h0
theorem backs_snd (zs : List Sa) : ∀ k, k ≤ zs.length → (backs zs k).map (·.2) = zs.reverse.take k
  | 0, _ => by simp [backs]
  | k + 1, h => by
    have hk : k < zs.reverse.length := by rw [List.length_reverse]; exact h
    rw [backs_succ, List.map_append, backs_snd zs k (by omega), List.take_succ_eq_append_getElem hk]
    simp only [List.map_cons, List.map_nil, List.getElem_reverse]
    rw [List.getElem?_eq_getElem (by omega)]; rfl
theorem stateR_stop {l : List Ev} {v : ByteArray} {mt : Int} {k : Nat} {ini : List (Nat × Sa)} {z : Nat × Sa} (hk : k ≤ (stages l v).length) (he : ini ++ [z] = backs (stages l v) k) (hi : ∀ p ∈ ini, mt < p.2.since) (hz : z.2.since ≤ mt) : stateR l v mt = z.2 := by
  have h1 := backs_snd _ k hk
  rw [← he, List.map_append] at h1
  unfold stateR
  rw [← List.take_append_drop k (stages l v).reverse, ← h1, List.append_assoc, List.find?_append, List.find?_eq_none.2 (fun x hx => by
    obtain ⟨p, hp, rfl⟩ := List.mem_map.1 hx
    have := hi p hp
    simp; omega)]
  simp [hz]
theorem stateR_done {l : List Ev} {v : ByteArray} {mt : Int} (hi : ∀ p ∈ backs (stages l v) (stages l v).length, mt < p.2.since) : stateR l v mt = sa0 := by
  have h1 := backs_snd (stages l v) _ (Nat.le_refl _)
  rw [List.take_of_length_le (by simp)] at h1
  unfold stateR
  rw [← h1, List.find?_eq_none.2 (fun x hx => by
    obtain ⟨p, hp, rfl⟩ := List.mem_map.1 hx
    have := hi p hp
    simp; omega)]; rfl
theorem blk_own {β : Type} (B : Nat) (t : TypeId) (f : β → List Value) : Go.Own (fun s W => Blk W B t (f s)) := fun s X Y row hs hg hr => Blk.grown hs hg (fun e => by
  obtain ⟨o, ho, hc⟩ := hr B e.symm
  have h2 : X.heap[B]? = some (.cells (f s).toArray t (0, 0)) := hs
  rw [h2] at ho
  cases ho; cases hc)
theorem grown_of_below {w w' : World} (h : Below w.heap.size w w') : w.grownBy w' none := ⟨h.os, h.tape, h.output, h.size, fun k hk _ => h.block k hk⟩
set_option maxRecDepth 100000 in
set_option maxHeartbeats 8000000 in
theorem rStateAt_any (l : List Ev) (A : Option Addr) (n c0 : Nat) (v : ByteArray) (mt : Int) (w : World) (hl : SlT evEnc 5 74 w A n l) (hn : n ≤ 100000) :
    Calls Tryz.prog 63 #[.slice A n c0, .string v, .int .i64 mt] w (fun e w' => e = .returned (.agg #[.int .i64 (stateR l v mt).st, .string (stateR l v mt).sta, .int .i64 (stateR l v mt).since]) ∧ w.grownBy w' none) := by
  refine (callsIn_wide (n := 9)).1 ?_
  refine callsIn_of_wp_marks Tryz.func63 rfl trivial ?_ rfl
  simp only [Tryz.ntmps63, List.size_toArray, List.length_cons, List.length_nil, Nat.reduceAdd, Nat.reduceSub, Array.replicate_succ, Array.replicate_zero, List.push_toArray, List.append_toArray, List.nil_append, List.cons_append]
  gi_wp2_with (refine ⟨trivial, ?_⟩; gi_at_call 134; refine (callsIn_wide.2 (stages_any l A n c0 v _ ((hl.alloc _).alloc _) hn)).mono ?_; rintro e w3 ⟨A1, n1, c1, A2, n2, c2, rfl, ho1, hz1, ho2, hz2, hn1, hn2, hg⟩)
  obtain ⟨b, off, rfl, hbl, hrows⟩ := (SlT.ofOwn sa_len ho1 hz1).get (by rw [← hz1]; simp [stages])
  subst hz1
  have hls : (stages l v).length ≤ 1000000 := by omega
  clear ho2 hz2 hn1 hn2 ho1
  have hsz3 : w.heap.size + 2 ≤ w3.heap.size := by
    have := hg.size
    simp at this
    omega
  have bM : Blk w3 w.heap.size 3 [.int .i64 mt] := Blk.grown (Blk.grown (Blk.at_ w rfl 3 [.int .i64 mt]) (grow_alloc (World.grownBy.refl _ none) _) (by simp)) hg (by simp)
  have bR : Blk w3 (w.heap.size + 1) 142 [.int .i64 0, .string ⟨#[]⟩, .int .i64 0] := Blk.grown (Blk.at_ (w.alloc (.cells #[.int .i64 mt] 3)) (by simp) 142 [.int .i64 0, .string ⟨#[]⟩, .int .i64 0]) hg (by simp)
  have hB3 : Below w.heap.size w w3 := by
    have h2 : Below w.heap.size w ((w.alloc (.cells #[.int .i64 mt] 3)).alloc (.cells #[.int .i64 0, .string ⟨#[]⟩, .int .i64 0] 142)) := ((Below.refl _ w).alloc (Nat.le_refl _) _).alloc (by simp) _
    exact h2.trans ⟨hg.os, hg.tape, hg.output, hg.size, fun k hk => hg.block k (by simp; omega) (by simp)⟩
  gi_wp2_with (refine ⟨trivial, ?_⟩; gi_at_call 135; refine (backward_in Fence.wide _ trivial rfl _ _ _ _).mono ?_; rintro e w4 ⟨rfl, rfl⟩)
  have bN : Blk (w3.alloc (.cells #[.slice (some ⟨b, off, none⟩) (stages l v).length c1] 220)) w3.heap.size 220 [.slice (some ⟨b, off, none⟩) (stages l v).length c1] := Blk.at_ w3 rfl 220 _
  replace bM := Blk.grown bM (grow_alloc (World.grownBy.refl _ none) (.cells #[.slice (some ⟨b, off, none⟩) (stages l v).length c1] 220)) (by simp)
  replace bR := Blk.grown bR (grow_alloc (World.grownBy.refl _ none) (.cells #[.slice (some ⟨b, off, none⟩) (stages l v).length c1] 220)) (by simp)
  replace hB3 := hB3.alloc (by omega) (.cells #[.slice (some ⟨b, off, none⟩) (stages l v).length c1] 220)
  have hrows2 : ∀ j x, (stages l v)[j]? = some x → (w3.alloc (.cells #[.slice (some ⟨b, off, none⟩) (stages l v).length c1] 220)).rangeAt b (off + j * 3) (saEnc x) := fun j x hx k u hu => (World.cell?_of_block (Below.heap_alloc w3 _ _ hbl)).trans (hrows j x hx k u hu)
  have hsz : (w3.alloc (.cells #[.slice (some ⟨b, off, none⟩) (stages l v).length c1] 220)).heap.size = w3.heap.size + 1 := by simp
  obtain ⟨W0, hW0⟩ : ∃ W0, w3.alloc (.cells #[.slice (some ⟨b, off, none⟩) (stages l v).length c1] 220) = W0 := ⟨_, rfl⟩
  rw [hW0] at bN bM bR hB3 hrows2 hsz ⊢
  clear hW0
  refine wpIn_rangeFunc_ownH rfl (by decide) (gf := 206) (lb := #[.pointer (some ⟨w3.heap.size, 0, none⟩)]) rfl trivial (enters_of Tryz.func206 (by kernel_rfl) rfl)
    (back_stops Fence.wide 8 trivial rfl (by decide) w3.heap.size W0.heap.size b off c1 (stages l v) hls (by omega) (by omega) W0 (Nat.le_refl _) (bN.cell_of rfl) hrows2) belowK_t (belowK_b (Nat.le_refl _)) (Below.refl _ _) (fun _ => rfl)
    (fun pre W => ((∀ p ∈ pre, mt < p.2.since) ∧ Blk W w.heap.size 3 [.int .i64 mt] ∧ Blk W (w.heap.size + 1) 142 [.int .i64 0, .string ⟨#[]⟩, .int .i64 0] ∧ W0.heap.size ≤ W.heap.size) ∧ Below w.heap.size w W)
    (fun c pre W => (c = .ret ∧ ∃ ini z, pre = ini ++ [z] ∧ (∀ p ∈ ini, mt < p.2.since) ∧ z.2.since ≤ mt ∧ Blk W (w.heap.size + 1) 142 [.int .i64 z.2.st, .string z.2.sta, .int .i64 z.2.since]) ∧ Below w.heap.size w W)
    (OwnFrom.and (OwnFrom.and (ownFrom_pure _ _) (OwnFrom.and (Go.Own.from (blk_own _ _ (fun _ => [.int .i64 mt])) _) (OwnFrom.and (Go.Own.from (blk_own _ _ (fun _ => [.int .i64 0, .string ⟨#[]⟩, .int .i64 0])) _) (Go.Own.from (fun s X Y row hs hg hr => Nat.le_trans hs hg.size) _)))) (ownFrom_below (Nat.le_refl _) (by omega)))
    (fun c => OwnFrom.and (Go.Own.from (fun s X Y row hs hg hr => by
      obtain ⟨hc, ini, z, e1, e2, e3, e4⟩ := hs
      exact ⟨hc, ini, z, e1, e2, e3, blk_own (w.heap.size + 1) 142 (fun (_ : Unit) => [.int .i64 z.2.st, .string z.2.sta, .int .i64 z.2.since]) () X Y row e4 hg hr⟩) _) (ownFrom_below (Nat.le_refl _) (by omega)))
    ⟨⟨by simp, bM, bR, Nat.le_refl _⟩, hB3⟩
    (fun x a' W => ∃ Bx, w.heap.size + 1 < Bx ∧ Blk W Bx 142 [.int .i64 x.2.st, .string x.2.sta, .int .i64 x.2.since] ∧ a' = { tmps := #[.slice A n c0, .string v, .int .i64 mt, undef, undef, .pointer (some ⟨w.heap.size, 0, none⟩), .pointer (some ⟨w.heap.size + 1, 0, none⟩), .slice (some ⟨b, off, none⟩) (stages l v).length c1, .slice A2 n2 c2, undef, .pointer (some ⟨Bx, 0, none⟩), .tuple #[.slice (some ⟨b, off, none⟩) (stages l v).length c1, .slice A2 n2 c2], .slice A n c0, .string v, .tuple #[.slice (some ⟨b, off, none⟩) (stages l v).length c1, .slice A2 n2 c2], .slice (some ⟨b, off, none⟩) (stages l v).length c1, .slice A2 n2 c2, .slice (some ⟨b, off, none⟩) (stages l v).length c1, .func (.func 206) #[] #[.pointer (some ⟨w3.heap.size, 0, none⟩)], .int .i64 (x.1 : Int), .agg #[.int .i64 x.2.st, .string x.2.sta, .int .i64 x.2.since], undef, undef, undef, undef, undef, undef], defers := [] })
    (fun x a' _ X Y row hs hg hr => by
      obtain ⟨Bx, h1, h2, h3⟩ := hs
      exact ⟨Bx, h1, blk_own Bx 142 (fun (_ : Unit) => [.int .i64 x.2.st, .string x.2.sta, .int .i64 x.2.since]) () X Y row h2 hg (fun r e => (hr r e).2), h3⟩)
    ?assign ?body ?done ?stop
  case assign =>
    rintro l2 pre x W K ⟨⟨hi, bm, br, hW⟩, hB⟩ hK
    gi_wp2
    exact hK _ _ ((KeepsOthers.alloc _ _).from _) ((Below.refl _ W).alloc (by omega) _) ⟨⟨hi, Blk.grown bm (grow_alloc (World.grownBy.refl _ none) _) (by simp), Blk.grown br (grow_alloc (World.grownBy.refl _ none) _) (by simp), by simp; omega⟩, hB.alloc (by omega) _⟩ ⟨W.heap.size, by omega, Blk.at_ W rfl _ _, rfl⟩
  case body =>
    rintro l2 pre x a' W hl2 ⟨r, hr⟩ ⟨⟨hi, bm, br, hW⟩, hB⟩ ⟨Bx, hBx, bx, rfl⟩ hlt
    have m0 := bm.cell_of (i := 0) rfl
    have x0 := bx.cell_of (i := 0) rfl
    have x1 := bx.cell_of (i := 1) rfl
    have x2 := bx.cell_of (i := 2) rfl
    have r0 := br.cell_of (i := 0) rfl
    have r1 := br.cell_of (i := 1) rfl
    have r2 := br.cell_of (i := 2) rfl
    have f0 := br.frozen 0
    have f1 := br.frozen 1
    have f2 := br.frozen 2
    by_cases hle : x.2.since ≤ mt
    · gi_wp2
      exact ⟨((KeepsOthers.setCell _ _ _).trans ((KeepsOthers.setCell _ _ _).trans (KeepsOthers.setCell _ _ _))).from _, ⟨rfl, pre, x, rfl, hi, hle, ((br.set_ 0 _).set_ 1 _).set_ 2 _⟩, ((hB.setCell (p := ⟨w.heap.size + 1, 0, none⟩) (Nat.le_succ _) _).setCell (p := ⟨w.heap.size + 1, 1, none⟩) (Nat.le_succ _) _).setCell (p := ⟨w.heap.size + 1, 2, none⟩) (Nat.le_succ _) _⟩
    · gi_wp2
      refine ⟨KeepsFrom.refl _ _, Below.refl _ _, ⟨?_, bm, br, by omega⟩, hB⟩
      intro a b' hab
      rcases List.mem_append.1 hab with h | h
      · exact hi _ h
      · have h2 := List.mem_singleton.1 h
        subst h2
        exact hle
  case done =>
    rintro D ys W hD rfl ⟨⟨hi, bm, br, hW⟩, hB⟩ hK
    have hs0 := stateR_done hi
    have r0 := br.cell_of (i := 0) rfl
    have r1 := br.cell_of (i := 1) rfl
    have r2 := br.cell_of (i := 2) rfl
    have f0 := br.frozen 0
    have f1 := br.frozen 1
    have f2 := br.frozen 2
    gi_wp2
    have hK2 := ((KeepsOthers.setCell (W) ⟨w.heap.size + 1, 0, none⟩ (.int .i64 0)).trans ((KeepsOthers.setCell _ ⟨w.heap.size + 1, 1, none⟩ (.string ⟨#[]⟩)).trans (KeepsOthers.setCell _ ⟨w.heap.size + 1, 2, none⟩ (.int .i64 0)))).same D _ hK rfl
    have hB2 := ((hB.setCell (p := ⟨w.heap.size + 1, 0, none⟩) (Nat.le_succ _) (.int .i64 0)).setCell (p := ⟨w.heap.size + 1, 1, none⟩) (Nat.le_succ _) (.string ⟨#[]⟩)).setCell (p := ⟨w.heap.size + 1, 2, none⟩) (Nat.le_succ _) (.int .i64 0)
    have br2 := ((br.set_ 0 (.int .i64 0)).set_ 1 (.string ⟨#[]⟩)).set_ 2 (.int .i64 0)
    refine ⟨by simp, .inl ⟨_, _, rfl, run_takeDeferred hK2, ?_⟩⟩
    obtain ⟨dd, hu, hd, hi2⟩ := run_row (P := Tryz.prog) rz142
    have hb4 := Blk.grown br2 (grownBy_putObj' _ D (.deferred none)) (fun e => by have := Option.some.inj e; omega)
    refine ⟨_, results_cell_row rfl _ _ (w.heap.size + 1) 142 _ (0, 0) dd rfl hb4 hu (by cases dd <;> simp_all [TypeDesc.isRow]) hi2, by rw [hs0]; rfl, grown_of_below (hB2.trans (belowK_b (w := w) (Nat.le_refl _) _ D _ _ (by have := hB3.size; omega) hK2 rfl rfl))⟩
  case stop =>
    rintro D c pre W hD ⟨k, hk, he⟩ ⟨⟨rfl, ini, z, e1, e2, e3, e4⟩, hB⟩ hK
    have r0 := e4.cell_of (i := 0) rfl
    have r1 := e4.cell_of (i := 1) rfl
    have r2 := e4.cell_of (i := 2) rfl
    have hs0 := stateR_stop hk (e1.symm.trans he) e2 e3
    gi_wp2
    refine ⟨by simp, .inl ⟨_, _, rfl, run_takeDeferred hK, ?_⟩⟩
    obtain ⟨dd, hu, hd, hi2⟩ := run_row (P := Tryz.prog) rz142
    have hb4 := Blk.grown e4 (grownBy_putObj' _ D (.deferred none)) (fun e => by have := Option.some.inj e; omega)
    refine ⟨_, results_cell_row rfl _ _ (w.heap.size + 1) 142 _ (0, 0) dd rfl hb4 hu (by cases dd <;> simp_all [TypeDesc.isRow]) hi2, by rw [hs0], grown_of_below (hB.trans (belowK_b (w := w) (Nat.le_refl _) _ D _ _ (by have := hB3.size; omega) hK rfl rfl))⟩
end Go.Proofs.YtiendebcdicjnaaGreatDoor
namespace Go.Proofs.YtiendebcdicjnaaGreatDoor
open Go.RowKit
theorem ev_one (x : Ev) : ∀ v ∈ evEnc x, v.oneCell' = true := by
  intro v hv
  simp only [evEnc, List.mem_cons, List.not_mem_nil, or_false] at hv
  rcases hv with rfl | rfl | rfl | rfl | rfl <;> rfl
theorem event_info : ∃ i z, Tryz.prog.info? 74 = some i ∧ i.zero = some z ∧ i.size = 5 ∧ i.bytes = 64 ∧ z.cells.size = 5 := info_parts (by kernel_rfl)
set_option maxRecDepth 100000 in
set_option maxHeartbeats 1000000 in
theorem cloneEvents_pos (l : List Ev) (A : Option Addr) (n c : Nat) (w : World) (hl : SlT evEnc 5 74 w A n l) (hn0 : 0 < n) (hn : n ≤ 1000000) :
    Calls Tryz.prog 66 #[.slice A n c] w (fun e w' => ∃ A' c', e = .returned (.slice A' n c') ∧ w'.ownsRow w.heap.size 74 5 (.slice A' n c') n (l.flatMap evEnc) ∧ w.grownBy w' none) := by
  obtain ⟨b, off, rfl, hbl, hfl⟩ := hl.flat ev_len hn0
  have hlen := hl.len
  obtain ⟨i0, z0, hi, hz, hsz, hby, hzs⟩ := event_info
  have hnews : ∀ (o : Obj) j u, (l.flatMap evEnc)[j]? = some u → (w.alloc o).cell? ((⟨b, off, none⟩ : Addr).add j) = some u := fun o j u hj =>
    (World.cell?_of_block (Below.heap_alloc w o _ (by unfold Addr.add; split <;> exact hbl))).trans (hfl j u hj)
  have hone := flat_one evEnc ev_one l
  have hll := flat_len evEnc 5 ev_len l
  rw [hlen] at hll
  clear hfl hl
  have Hnews := Lib.hid hnews
  clear hnews
  have he : ∀ w : World, (binOp .eql 47 (.slice (some ⟨b, off, none⟩) n c) (.slice none 0 0)).run Tryz.prog w = .ok (.bool false) w := fun _ => rfl
  go_enter Tryz.func66, Tryz.ntmps66
  go_wp2_with (at_builtin; refine wpList_append_own_at _ rfl _ _ 47 rfl w.heap.size 74 i0 z0 5 64 Tryz.underlying47 hi hz hsz hby hzs (by decide) (.slice (some ⟨w.heap.size, 0, none⟩) 0 0) 0 [] rfl ⟨rfl, .inr ⟨w.heap.size, 0, #[], rfl, Nat.le_refl _, heap_alloc_new w _, Nat.le_refl _, by decide, rfl, rfl⟩⟩ ⟨b, off, none⟩ n c (l.flatMap evEnc) rfl hll (Hnews.out _) hone (by unfold maxLen; omega) (by omega) (by simp) ?_; intro v' w' hown hgrow hnil hat)
  rw [Nat.zero_add, List.nil_append] at hown
  have hown2 := hown
  obtain ⟨_, ho⟩ := hown2
  rcases ho with ⟨_, h0⟩ | ⟨g, cap, cur, rfl, hg, _⟩
  · omega
  · go_ret
    exact ⟨some ⟨g, 0, none⟩, cap, rfl, hown, grow_own (grow_alloc (World.grownBy.refl _ _) _) hgrow (fun k h => by cases h; exact Nat.le_refl _)⟩
set_option maxRecDepth 100000 in
set_option maxHeartbeats 1000000 in
theorem cloneEvents_empty (b off c : Nat) (w : World) :
    Calls Tryz.prog 66 #[.slice (some ⟨b, off, none⟩) 0 c] w (fun e w' => ∃ A' c', e = .returned (.slice A' 0 c') ∧ w'.ownsRow w.heap.size 74 5 (.slice A' 0 c') 0 [] ∧ w.grownBy w' none) := by
  obtain ⟨i0, z0, hi, hz, hsz, hby, hzs⟩ := event_info
  have he : ∀ w : World, (binOp .eql 47 (.slice (some ⟨b, off, none⟩) 0 c) (.slice none 0 0)).run Tryz.prog w = .ok (.bool false) w := fun _ => rfl
  go_enter Tryz.func66, Tryz.ntmps66
  go_wp2_with (at_builtin; refine wpList_append_own_at _ rfl _ _ 47 rfl w.heap.size 74 i0 z0 5 64 Tryz.underlying47 hi hz hsz hby hzs (by decide) (.slice (some ⟨w.heap.size, 0, none⟩) 0 0) 0 [] rfl ⟨rfl, .inr ⟨w.heap.size, 0, #[], rfl, Nat.le_refl _, heap_alloc_new w _, Nat.le_refl _, by decide, rfl, rfl⟩⟩ ⟨b, off, none⟩ 0 c [] rfl rfl (fun j u hj => by simp at hj) (fun v hv => by cases hv) (by unfold maxLen; omega) (by omega) (by simp) ?_; intro v' w' hown hgrow hnil hat)
  rw [Nat.zero_add, List.nil_append] at hown
  have hown2 := hown
  obtain ⟨_, ho⟩ := hown2
  rcases ho with ⟨rfl, _⟩ | ⟨g, cap, cur, rfl, hg, _⟩
  · go_ret
    exact ⟨none, 0, rfl, hown, grow_own (grow_alloc (World.grownBy.refl _ _) _) hgrow (fun k h => by cases h; exact Nat.le_refl _)⟩
  · go_ret
    exact ⟨some ⟨g, 0, none⟩, cap, rfl, hown, grow_own (grow_alloc (World.grownBy.refl _ _) _) hgrow (fun k h => by cases h; exact Nat.le_refl _)⟩
set_option maxRecDepth 100000 in
set_option maxHeartbeats 400000 in
theorem cloneEvents_nil (w : World) : Calls Tryz.prog 66 #[.slice none 0 0] w (fun e w' => e = .returned (.slice none 0 0) ∧ w = w') := by
  have he : ∀ w : World, (binOp .eql 47 (.slice none 0 0) (.slice none 0 0)).run Tryz.prog w = .ok (.bool true) w := fun _ => rfl
  go_enter Tryz.func66, Tryz.ntmps66
  go_wp2_with fail
  go_ret
  exact ⟨rfl, rfl⟩
theorem cloneEvents_any (l : List Ev) (A : Option Addr) (n c : Nat) (w : World) (hl : SlT evEnc 5 74 w A n l) (hnil : n = 0 → A = none ∧ c = 0) (hn : n ≤ 1000000) :
    Calls Tryz.prog 66 #[.slice A n c] w (fun e w' => ∃ A' c', e = .returned (.slice A' n c') ∧ w'.ownsRow w.heap.size 74 5 (.slice A' n c') n (l.flatMap evEnc) ∧ w.grownBy w' none) := by
  by_cases h0 : n = 0
  · obtain ⟨rfl, rfl⟩ := hnil h0
    subst h0
    have hl0 : l = [] := List.length_eq_zero_iff.1 hl.len
    subst hl0
    exact (cloneEvents_nil w).mono fun e w' ⟨he, hw⟩ => ⟨none, 0, he, ⟨rfl, .inl ⟨rfl, rfl⟩⟩, hw ▸ World.grownBy.refl _ _⟩
  · exact cloneEvents_pos l A n c w hl (by omega) hn
end Go.Proofs.YtiendebcdicjnaaGreatDoor
namespace Go.Proofs.YtiendebcdicjnaaGreatDoor
open Go.RowKit
def taken (e : List Pl) (p : Pl) : Bool := e.any fun o => decide (p.fr < o.fr) && (o.veh.toList == p.veh.toList || o.plate.toList == p.plate.toList)
end Go.Proofs.YtiendebcdicjnaaGreatDoor
namespace Go.Proofs.YtiendebcdicjnaaGreatDoor
open Go.RowKit
section
variable {α : Type}
def sink (lt : α → α → Bool) : Nat → List α → List α
  | 0, l => l
  | j + 1, l => match l[j + 1]?, l[j]? with
    | some x, some y => if lt x y then sink lt j ((l.set (j + 1) y).set j x) else l
    | _, _ => l
def isortF (lt : α → α → Bool) : Nat → Nat → List α → List α
  | 0, _, l => l
  | f + 1, i, l => isortF lt f (i + 1) (sink lt i l)
def isort (lt : α → α → Bool) (l : List α) : List α := isortF lt (l.length - 1) 1 l
theorem sink_yes {lt : α → α → Bool} {j : Nat} {l : List α} {x y : α} (hx : l[j + 1]? = some x) (hy : l[j]? = some y) (h : lt x y = true) : sink lt (j + 1) l = sink lt j ((l.set (j + 1) y).set j x) := by
  simp only [sink, hx, hy, h, if_true]
theorem sink_no {lt : α → α → Bool} {j : Nat} {l : List α} {x y : α} (hx : l[j + 1]? = some x) (hy : l[j]? = some y) (h : lt x y = false) : sink lt (j + 1) l = l := by
  simp only [sink, hx, hy, h, Bool.false_eq_true, if_false]
theorem sink_len (lt : α → α → Bool) : ∀ (j : Nat) (l : List α), (sink lt j l).length = l.length
  | 0, _ => rfl
  | j + 1, l => by
    unfold sink
    split
    · split
      · rw [sink_len lt j]; simp
      · rfl
    · rfl
theorem isortF_len (lt : α → α → Bool) : ∀ (f i : Nat) (l : List α), (isortF lt f i l).length = l.length
  | 0, _, _ => rfl
  | f + 1, i, l => by
    unfold isortF
    rw [isortF_len lt f, sink_len]
theorem isort_len (lt : α → α → Bool) (l : List α) : (isort lt l).length = l.length := isortF_len lt _ _ _
theorem swap_perm {l : List α} {j : Nat} {x y : α} (hx : l[j + 1]? = some x) (hy : l[j]? = some y) : ((l.set (j + 1) y).set j x).Perm l := by
  obtain ⟨h1, rfl⟩ := List.getElem?_eq_some_iff.1 hx
  obtain ⟨h2, rfl⟩ := List.getElem?_eq_some_iff.1 hy
  have e : l = l.take j ++ l[j] :: l[j + 1] :: l.drop (j + 2) := by
    conv => lhs; rw [← List.take_append_drop j l, List.drop_eq_getElem_cons h2, List.drop_eq_getElem_cons h1]
  have hl : (l.take j).length = j := by simp; omega
  have e2 : (l.set (j + 1) l[j]).set j l[j + 1] = l.take j ++ l[j + 1] :: l[j] :: l.drop (j + 2) := by
    refine List.ext_getElem? fun k => ?_
    rw [List.getElem?_set, List.length_set, List.getElem?_set]
    rcases Nat.lt_trichotomy k j with hk | rfl | hk
    · rw [if_neg (by omega), if_neg (by omega), List.getElem?_append_left (by rw [hl]; exact hk), List.getElem?_take, if_pos hk]
    · rw [if_pos rfl, if_pos h2, List.getElem?_append_right (by omega), hl, Nat.sub_self]; rfl
    · rw [if_neg (by omega), List.getElem?_append_right (by omega), hl]
      rcases Nat.lt_trichotomy k (j + 1) with h3 | rfl | h3
      · omega
      · rw [if_pos rfl, if_pos h1, show j + 1 - j = 1 by omega]; rfl
      · rw [if_neg (by omega), show k - j = (k - (j + 2)) + 2 by omega]
        simp only [List.getElem?_cons_succ, List.getElem?_drop]
        congr 1; omega
  rw [e2]
  conv => rhs; rw [e]
  exact List.Perm.append_left _ (List.Perm.swap _ _ _)
theorem sink_perm (lt : α → α → Bool) : ∀ (j : Nat) (l : List α), (sink lt j l).Perm l
  | 0, _ => List.Perm.refl _
  | j + 1, l => by
    unfold sink
    split
    · rename_i x y hx hy
      split
      · exact (sink_perm lt j _).trans (swap_perm hx hy)
      · exact List.Perm.refl _
    · exact List.Perm.refl _
theorem isortF_perm (lt : α → α → Bool) : ∀ (f i : Nat) (l : List α), (isortF lt f i l).Perm l
  | 0, _, _ => List.Perm.refl _
  | f + 1, i, l => (isortF_perm lt f (i + 1) _).trans (sink_perm lt i l)
theorem isort_perm (lt : α → α → Bool) (l : List α) : (isort lt l).Perm l := isortF_perm lt _ _ _
theorem mem_in {lt : α → α → Bool} {l0 R S m : List α} {f i j : Nat} (hR : R = isort lt l0) (hF : isortF lt f i S = R) (hS : sink lt j m = S) {z : α} (hz : z ∈ m) : z ∈ l0 := by
  have h1 : z ∈ S := by rw [← hS]; exact (sink_perm lt j m).mem_iff.2 hz
  have h2 : z ∈ R := by rw [← hF]; exact (isortF_perm lt f i S).mem_iff.2 h1
  rw [hR] at h2
  exact (isort_perm lt l0).mem_iff.1 h2
theorem isort_mem {lt : α → α → Bool} {l : List α} {x : α} : x ∈ isort lt l ↔ x ∈ l := (isort_perm lt l).mem_iff
end
section
variable {P : Program} {c : Cx} {ops : Array Oper} {Q : Exit → Act → World → Prop} {rest : List Oper} {S : List (Nat × Value)} {K : World → Prop} {L : List (Nat × TypeId × List Value)} {O : List Own} {X : List (World → Prop)} {d : Nat} {ty : TypeId} {pos : String} {aft : Array Edge}
theorem memR {n0 : Nat} {Tt : List TypeId} {w : World} {base : Nat} {e : TypeId} {sz n cap g : Nat} {xs : List Value} (hS : w.ownsRow base e sz (.slice (some ⟨g, 0, none⟩) n cap) n xs) (hX : ∀ A ∈ X, A w) (hl : ∀ A ∈ X, Lasts2 w.heap.size (some g) Tt A) : Mem ⟨n0, w, some g, Tt⟩ (RowK base e sz n cap g xs) [] [] X w :=
  have hS2 : RowK base e sz n cap g xs w := hS
  ⟨World.grownBy.refl _ _, hS2, (fun _ hx => by cases hx), List.Pairwise.nil, (fun _ hx => by cases hx), (fun _ hx => by cases hx), List.Pairwise.nil, hX, RowK.keeps hS2.lt.2, hl, (fun _ hr => by cases hr; exact hS2.lt.2)⟩
/-- The row has turned. -/
theorem Mem.turned {base g n cap sz : Nat} {e : TypeId} {xs xs' : List Value} {w w' : World} (h : Mem c (RowK base e sz n cap g xs) L O X w) (hrow : c.row = some g) (hT : c.Tt.contains e = false) (hown : w'.ownsRow base e sz (.slice (some ⟨g, 0, none⟩) n cap) n xs') (hg : w.grownBy w' (some g)) : Mem c (RowK base e sz n cap g xs') L O X w' := by
  have hlt0 := h.rs g hrow
  have hk : w.ownsRow base e sz (.slice (some ⟨g, 0, none⟩) n cap) n xs := h.k
  obtain ⟨cells, hcells⟩ : ∃ cells, w.heap[g]? = some (.cells cells e (0, 0)) := by
    rcases hk.2 with ⟨h1, _⟩ | ⟨g', cap', cur, h1, _, h2, _⟩
    · cases h1
    · injection h1 with h1 _ _
      injection h1 with h1
      injection h1 with h1 _ _
      subst h1
      exact ⟨_, h2⟩
  refine ⟨grow_trans h.g (hrow ▸ hg), hown, fun x hx => ⟨(h.b x hx).1, (h.b x hx).2.grown hg (fun e => ?_)⟩, h.nd, fun r hr => (h.o r hr).kept hg ?_, h.od, h.oo, fun A hA => ?_, RowK.keeps hlt0, h.l, h.rs⟩
  · have := (h.b x hx).1; injection e with e; omega
  · cases hv : r.v.ownBlock with
    | none => exact .inl rfl
    | some g' => exact .inr (fun e => by have := ((h.o r hr).lt g' hv).1; injection e with e; omega)
  · exact (h.l A hA).st w _ g e cells hcells (fun e => by simp [e] at hT) (.inr hrow) hg (h.x A hA)
theorem wl_storesRow {α : Type} {enc : α → List Value} {t : TypeId} {x y : Operand} {base g n cap sz o j r m : Nat} {e : TypeId} {vs : List Value} {l : List α} {el el' : α} (hrow : c.row = some g) (hs : rowSz P t = some m) (hx : rd S x = some (.pointer (some ⟨g, o, none⟩))) (hy : rd S y = some (.agg vs.toArray)) (h1 : vs.all (·.oneCell') = true) (hn : vs.length = m)
    (hk : ∀ x, (enc x).length = sz) (ho : 0 + j * sz + r = o) (hj : l[j]? = some el) (hl : l.length = n) (hr : r + m ≤ sz) (he : splice (enc el) r vs = enc el') (hT : c.Tt.contains e = false)
    (h : WL P c ops Q rest S (RowK base e sz n cap g ((l.set j el').flatMap enc)) L O X) : WL P c ops Q (⟨none, .store t x y, ty, pos, aft, none⟩ :: rest) S (RowK base e sz n cap g (l.flatMap enc)) L O X := by
  intro a w ha hm
  have hown : w.ownsRow base e sz (.slice (some ⟨g, 0, none⟩) n cap) n (l.flatMap enc) := hm.k
  have hjl := (List.getElem?_eq_some_iff.1 hj).1
  have hlt : o + m ≤ n * sz := by
    have : (j + 1) * sz ≤ n * sz := Nat.mul_le_mul_right sz (by omega)
    rw [Nat.add_mul] at this
    omega
  obtain ⟨dd, hu, _, hi⟩ := run_row hs
  rcases hown.2 with ⟨h', _⟩ | ⟨g', cap', cur, h', hb, hg, hnc, hcm, hcs, htake⟩
  · simp at h'
  · simp only [Value.slice.injEq, Option.some.injEq, Addr.mk.injEq, and_true, true_and] at h'
    obtain ⟨rfl, rfl⟩ := h'
    have hbk : Blk w g e cur.toList := by unfold Blk; rw [Array.toArray_toList]; exact hg
    have hcl : n * sz ≤ cur.toList.length := by
      have := Nat.mul_le_mul_right sz hnc
      simp [hcs]; exact this
    refine wpList_store_blk rfl t x y rfl g o e cur.toList vs hbk (ha.eval hx) (ha.eval hy) m hi hn (by omega) (by simpa using h1) fun w' hb' hgr => ?_
    have hsl := splice_length cur.toList o vs (by omega)
    have hfl := flat_len enc sz hk (l.set j el')
    rw [List.length_set, hl] at hfl
    refine h _ _ ⟨ha.size, ha.val, ha.df⟩ (hm.turned hrow hT ⟨hfl, .inr ⟨g, cap, (splice cur.toList o vs).toArray, rfl, hb, hb', hnc, hcm, by simpa [hsl] using hcs, ?_⟩⟩ hgr)
    rw [List.toList_toArray, own_take_splice hcl (by omega), htake, ← ho, Nat.zero_add, own_flat_splice enc sz hk hj he (by omega)]
/-- A call that turns the row. -/
theorem wl_callK {f : FuncId} {x : Operand} {ags : List Operand} {ats : Array TypeId} {vs fs cs : List Value} {v : Value} {base g n cap sz : Nat} {e : TypeId} {xs xs' : List Value} (hrow : c.row = some g) (hT : c.Tt.contains e = false) (hx : rd S x = some (.func (.func f) fs.toArray cs.toArray)) (hf : callableB P f = true) (ha : evArgs S ags = some vs) (hd : Nat.ble (d + 1) c.n = true)
    (hC : ∀ w, Mem c (RowK base e sz n cap g xs) L O X w → Calls P f (fs ++ vs ++ cs).toArray w (fun e1 w' => e1 = .returned v ∧ w'.ownsRow base e sz (.slice (some ⟨g, 0, none⟩) n cap) n xs' ∧ w.grownBy w' (some g))) (h : WL P c ops Q rest ((d, v) :: S) (RowK base e sz n cap g xs') L O X) :
    WL P c ops Q (⟨some d, .call ⟨.value x, ags.toArray, ats⟩, ty, pos, aft, none⟩ :: rest) S (RowK base e sz n cap g xs) L O X :=
  wl_callG (γ := Unit) (val := fun _ => v) (φ := fun _ => True) (K' := fun _ => RowK base e sz n cap g xs') (L' := fun _ => L) (O' := fun _ => O) (X' := fun _ => X) hx hf ha hd (fun w hm => (hC w hm).mono fun _ _ ⟨he, ho, hg⟩ => ⟨(), he, trivial, hm.turned hrow hT ho hg⟩) (fun _ _ => h)
end
/-- A call on a row of the call's own ends by the row's contract. -/
theorem fin_row {base : Nat} {e : TypeId} {sz n cap g : Nat} {xs : List Value} {w0 w : World} (hk : RowK base e sz n cap g xs w) (hg : w0.grownBy w (some g)) : w.ownsRow base e sz (.slice (some ⟨g, 0, none⟩) n cap) n xs ∧ w0.grownBy w (some g) := ⟨hk, hg⟩
end Go.Proofs.YtiendebcdicjnaaGreatDoor
namespace Go.Proofs.YtiendebcdicjnaaGreatDoor
open Go.RowKit
section
variable {P : Program} {c : Cx} {ops : Array Oper} {Q : Exit → Act → World → Prop} {rest : List Oper} {S : List (Nat × Value)} {L : List (Nat × TypeId × List Value)} {O : List Own} {X : List (World → Prop)} {ty : TypeId} {pos : String} {aft : Array Edge}
theorem Mem.turned2 {base g n n' cap sz : Nat} {e : TypeId} {xs xs' : List Value} {w w' : World} (h : Mem c (RowK base e sz n cap g xs) L O X w) (hrow : c.row = some g) (hT : c.Tt.contains e = false) (hown : w'.ownsRow base e sz (.slice (some ⟨g, 0, none⟩) n' cap) n' xs') (hg : w.grownBy w' (some g)) : Mem c (RowK base e sz n' cap g xs') L O X w' := by
  have hlt0 := h.rs g hrow
  have hk : w.ownsRow base e sz (.slice (some ⟨g, 0, none⟩) n cap) n xs := h.k
  obtain ⟨cells, hcells⟩ : ∃ cells, w.heap[g]? = some (.cells cells e (0, 0)) := by
    rcases hk.2 with ⟨h1, _⟩ | ⟨g', cap', cur, h1, _, h2, _⟩
    · cases h1
    · injection h1 with h1 _ _
      injection h1 with h1
      injection h1 with h1 _ _
      subst h1
      exact ⟨_, h2⟩
  refine ⟨grow_trans h.g (hrow ▸ hg), hown, fun x hx => ⟨(h.b x hx).1, (h.b x hx).2.grown hg (fun e => ?_)⟩, h.nd, fun r hr => (h.o r hr).kept hg ?_, h.od, h.oo, fun A hA => ?_, RowK.keeps hlt0, h.l, h.rs⟩
  · have := (h.b x hx).1; injection e with e; omega
  · cases hv : r.v.ownBlock with
    | none => exact .inl rfl
    | some g' => exact .inr (fun e => by have := ((h.o r hr).lt g' hv).1; injection e with e; omega)
  · exact (h.l A hA).st w _ g e cells hcells (fun e => by simp [e] at hT) (.inr hrow) hg (h.x A hA)
theorem zeroCells_len (z : Array Value) (n : Nat) : (Builtin.zeroCells z n).toList.length = n * z.size := by simp [Builtin.zeroCells]
theorem zeroCells_one {z : Array Value} (h : ∀ v ∈ z.toList, v.oneCell' = true) (n : Nat) : ∀ v ∈ (Builtin.zeroCells z n).toList, v.oneCell' = true := fun v hv => by
  unfold Builtin.zeroCells at hv
  simp only [Array.toList_map, Array.toList_range, List.mem_map, List.mem_range] at hv
  obtain ⟨i, hi, rfl⟩ := hv
  have hz : 0 < z.size := by
    rcases Nat.eq_zero_or_pos z.size with h0 | h0
    · rw [h0] at hi; omega
    · exact h0
  have hm : i % z.size < z.size := Nat.mod_lt _ hz
  rw [getElem!_pos z _ hm]
  exact h _ (by simp)
theorem wl_clearRow {t e : TypeId} {x : Operand} {base g n cap sz m k c' o : Nat} {xs z : List Value} (hrow : c.row = some g) (ht : elemSz P t = some (e, sz)) (hz : zeroCs P e = some z) (hz1 : z.all (·.oneCell') = true) (hzl : z.length = sz) (hx : rd S x = some (.slice (some ⟨g, o, none⟩) k c')) (ho : o = m * sz) (hk : m + k = n) (hT : c.Tt.contains e = false)
    (h : WL P c ops Q rest S (RowK base e sz m cap g (xs.take (m * sz))) L O X) : WL P c ops Q (⟨none, .call ⟨.builtin .clear, #[x], #[t]⟩, ty, pos, aft, none⟩ :: rest) S (RowK base e sz n cap g xs) L O X := by
  subst ho hk
  intro a w ha hm
  refine wpList_plain rfl fun K' hK => ?_
  have hown : w.ownsRow base e sz (.slice (some ⟨g, 0, none⟩) (m + k) cap) (m + k) xs := hm.k
  have hu : P.underlying t = some (.slice e) := by
    unfold elemSz at ht
    cases hq : P.underlying t with
    | none => simp [hq] at ht
    | some dd =>
      cases dd <;> simp [hq] at ht
      obtain ⟨_, _, rfl, _⟩ := ht
      rfl
  unfold zeroCs at hz
  cases hi : P.info? e with
  | none => simp [hi] at hz
  | some inf =>
    cases hzz : inf.zero with
    | none => simp [hi, hzz] at hz
    | some zv =>
      have hzc : zv.cells.toList = z := by simpa [hi, hzz] using hz
      have hzero : (zeroValue e).run P w = .ok zv w := by simp [zeroValue, typeInfo, hi, hzz]
      obtain ⟨hxl, hb⟩ := hown
      rcases hb with ⟨h', _⟩ | ⟨g', cap', cur, h', hb, hg, hnc, hcm, hcs, htake⟩
      · cases h'
      · simp only [Value.slice.injEq, Option.some.injEq, Addr.mk.injEq, and_true, true_and] at h'
        obtain ⟨rfl, rfl⟩ := h'
        have hmul : (m + k) * sz = m * sz + k * sz := Nat.add_mul _ _ _
        have hcap := Nat.mul_le_mul_right sz hnc
        have htk : (cur.toList.take (m * sz)) = xs.take (m * sz) := by
          rw [← htake, List.take_take, Nat.min_eq_left (by omega)]
        have hxm : (xs.take (m * sz)).length = m * sz := by rw [List.length_take, hxl]; omega
        unfold Oper.wp
        by_cases h0 : k = 0
        · subst h0
          have : (execOp a.eval ⟨none, .call ⟨.builtin .clear, #[x], #[t]⟩, ty, pos, aft, none⟩).run P w = .ok (.value (.tuple #[])) w := by
            simp [execOp, resolve, invoke, builtin, ha.eval hx, Builtin.clear_, run_underlying hu]
          rw [this]
          exact hK _ _ (h _ _ ha (hm.turned2 hrow hT ⟨hxm, .inr ⟨g, cap, cur, rfl, hb, hg, by omega, hcm, hcs, htk⟩⟩ (World.grownBy.refl _ _)))
        · have hzl2 : (Builtin.zeroCells zv.cells k).toList.length = k * sz := by rw [zeroCells_len, ← hzl, ← hzc]; simp
          have hr := run_storeCells_at (P := P) g (m * sz) e (Builtin.zeroCells zv.cells k).toList 0 cur w hg (by rw [hzl2]; simp [hcs]; omega) (zeroCells_one (by rw [hzc]; simpa using hz1) k)
          simp only [Nat.add_zero] at hr
          have : (execOp a.eval ⟨none, .call ⟨.builtin .clear, #[x], #[t]⟩, ty, pos, aft, none⟩).run P w = .ok (.value (.tuple #[])) (w.setRow g (cur.toList.take (m * sz) ++ (Builtin.zeroCells zv.cells k).toList ++ cur.toList.drop (m * sz + (Builtin.zeroCells zv.cells k).toList.length)).toArray) := by
            obtain ⟨k', rfl⟩ : ∃ k', k = k' + 1 := ⟨k - 1, by omega⟩
            simp [execOp, resolve, invoke, builtin, ha.eval hx, Builtin.clear_, run_underlying hu, hzero, hr, Result.andThen]
          rw [this]
          refine hK _ _ (h _ _ ha (hm.turned2 hrow hT ⟨hxm, .inr ⟨g, cap, _, rfl, hb, setRow_heap w g cur _ e (0, 0) hg, by omega, hcm, ?_, ?_⟩⟩ ⟨rfl, rfl, rfl, by simp [World.setRow], fun q _ hne => ?_⟩))
          · simp [hzl2]; omega
          · simp only [List.append_assoc]
            rw [List.take_append_of_le_length (by simp; omega), List.take_take, Nat.min_self]
            exact htk
          · simp only [World.setRow, Array.getElem?_modify]
            rw [if_neg (fun e => hne (by rw [e]))]
end
end Go.Proofs.YtiendebcdicjnaaGreatDoor
namespace Go.Proofs.YtiendebcdicjnaaGreatDoor
open Go.RowKit
theorem pl_one (x : Pl) : ∀ v ∈ plEnc x, v.oneCell' = true := by
  intro v hv
  simp only [plEnc, List.mem_cons, List.not_mem_nil, or_false] at hv
  rcases hv with rfl | rfl | rfl <;> rfl
theorem plate_info : ∃ i z, Tryz.prog.info? 151 = some i ∧ i.zero = some z ∧ i.size = 3 ∧ i.bytes = 40 ∧ z.cells.size = 3 := info_parts (by kernel_rfl)
set_option maxRecDepth 100000 in
set_option maxHeartbeats 1000000 in
theorem clonePlates_pos (l : List Pl) (A : Option Addr) (n c : Nat) (w : World) (hl : SlT plEnc 3 151 w A n l) (hn0 : 0 < n) (hn : n ≤ 1000000) :
    Calls Tryz.prog 58 #[.slice A n c] w (fun e w' => ∃ A' c', e = .returned (.slice A' n c') ∧ w'.ownsRow w.heap.size 151 3 (.slice A' n c') n (l.flatMap plEnc) ∧ w.grownBy w' none) := by
  obtain ⟨b, off, rfl, hbl, hfl⟩ := hl.flat pl_len hn0
  have hlen := hl.len
  obtain ⟨i0, z0, hi, hz, hsz, hby, hzs⟩ := plate_info
  have hnews : ∀ (o : Obj) j u, (l.flatMap plEnc)[j]? = some u → (w.alloc o).cell? ((⟨b, off, none⟩ : Addr).add j) = some u := fun o j u hj =>
    (World.cell?_of_block (Below.heap_alloc w o _ (by unfold Addr.add; split <;> exact hbl))).trans (hfl j u hj)
  have hone := flat_one plEnc pl_one l
  have hll := flat_len plEnc 3 pl_len l
  rw [hlen] at hll
  clear hfl hl
  have Hnews := Lib.hid hnews
  clear hnews
  have he : ∀ w : World, (binOp .eql 29 (.slice (some ⟨b, off, none⟩) n c) (.slice none 0 0)).run Tryz.prog w = .ok (.bool false) w := fun _ => rfl
  go_enter Tryz.func58, Tryz.ntmps58
  go_wp2_with (at_builtin; refine wpList_append_own_at _ rfl _ _ 29 rfl w.heap.size 151 i0 z0 3 40 Tryz.underlying29 hi hz hsz hby hzs (by decide) (.slice (some ⟨w.heap.size, 0, none⟩) 0 0) 0 [] rfl ⟨rfl, .inr ⟨w.heap.size, 0, #[], rfl, Nat.le_refl _, heap_alloc_new w _, Nat.le_refl _, by decide, rfl, rfl⟩⟩ ⟨b, off, none⟩ n c (l.flatMap plEnc) rfl hll (Hnews.out _) hone (by unfold maxLen; omega) (by omega) (by simp) ?_; intro v' w' hown hgrow hnil hat)
  rw [Nat.zero_add, List.nil_append] at hown
  have hown2 := hown
  obtain ⟨_, ho⟩ := hown2
  rcases ho with ⟨_, h0⟩ | ⟨g, cap, cur, rfl, hg, _⟩
  · omega
  · go_ret
    exact ⟨some ⟨g, 0, none⟩, cap, rfl, hown, grow_own (grow_alloc (World.grownBy.refl _ _) _) hgrow (fun k h => by cases h; exact Nat.le_refl _)⟩
set_option maxRecDepth 100000 in
set_option maxHeartbeats 1000000 in
theorem clonePlates_empty (b off c : Nat) (w : World) :
    Calls Tryz.prog 58 #[.slice (some ⟨b, off, none⟩) 0 c] w (fun e w' => ∃ A' c', e = .returned (.slice A' 0 c') ∧ w'.ownsRow w.heap.size 151 3 (.slice A' 0 c') 0 [] ∧ w.grownBy w' none) := by
  obtain ⟨i0, z0, hi, hz, hsz, hby, hzs⟩ := plate_info
  have he : ∀ w : World, (binOp .eql 29 (.slice (some ⟨b, off, none⟩) 0 c) (.slice none 0 0)).run Tryz.prog w = .ok (.bool false) w := fun _ => rfl
  go_enter Tryz.func58, Tryz.ntmps58
  go_wp2_with (at_builtin; refine wpList_append_own_at _ rfl _ _ 29 rfl w.heap.size 151 i0 z0 3 40 Tryz.underlying29 hi hz hsz hby hzs (by decide) (.slice (some ⟨w.heap.size, 0, none⟩) 0 0) 0 [] rfl ⟨rfl, .inr ⟨w.heap.size, 0, #[], rfl, Nat.le_refl _, heap_alloc_new w _, Nat.le_refl _, by decide, rfl, rfl⟩⟩ ⟨b, off, none⟩ 0 c [] rfl rfl (fun j u hj => by simp at hj) (fun v hv => by cases hv) (by unfold maxLen; omega) (by omega) (by simp) ?_; intro v' w' hown hgrow hnil hat)
  rw [Nat.zero_add, List.nil_append] at hown
  have hown2 := hown
  obtain ⟨_, ho⟩ := hown2
  rcases ho with ⟨rfl, _⟩ | ⟨g, cap, cur, rfl, hg, _⟩
  · go_ret
    exact ⟨none, 0, rfl, hown, grow_own (grow_alloc (World.grownBy.refl _ _) _) hgrow (fun k h => by cases h; exact Nat.le_refl _)⟩
  · go_ret
    exact ⟨some ⟨g, 0, none⟩, cap, rfl, hown, grow_own (grow_alloc (World.grownBy.refl _ _) _) hgrow (fun k h => by cases h; exact Nat.le_refl _)⟩
set_option maxRecDepth 100000 in
set_option maxHeartbeats 400000 in
theorem clonePlates_nil (w : World) : Calls Tryz.prog 58 #[.slice none 0 0] w (fun e w' => e = .returned (.slice none 0 0) ∧ w = w') := by
  have he : ∀ w : World, (binOp .eql 29 (.slice none 0 0) (.slice none 0 0)).run Tryz.prog w = .ok (.bool true) w := fun _ => rfl
  go_enter Tryz.func58, Tryz.ntmps58
  go_wp2_with fail
  go_ret
  exact ⟨rfl, rfl⟩
theorem clonePlates_any (l : List Pl) (A : Option Addr) (n c : Nat) (w : World) (hl : SlT plEnc 3 151 w A n l) (hnil : n = 0 → A = none ∧ c = 0) (hn : n ≤ 1000000) :
    Calls Tryz.prog 58 #[.slice A n c] w (fun e w' => ∃ A' c', e = .returned (.slice A' n c') ∧ w'.ownsRow w.heap.size 151 3 (.slice A' n c') n (l.flatMap plEnc) ∧ w.grownBy w' none) := by
  by_cases h0 : n = 0
  · obtain ⟨rfl, rfl⟩ := hnil h0
    subst h0
    have hl0 : l = [] := List.length_eq_zero_iff.1 hl.len
    subst hl0
    exact (clonePlates_nil w).mono fun e w' ⟨he, hw⟩ => ⟨none, 0, he, ⟨rfl, .inl ⟨rfl, rfl⟩⟩, hw ▸ World.grownBy.refl _ _⟩
  · exact clonePlates_pos l A n c w hl (by omega) hn
end Go.Proofs.YtiendebcdicjnaaGreatDoor
namespace Go.Proofs.YtiendebcdicjnaaGreatDoor
open Go.RowKit
/-- The shape of a slice's address. -/
def ShapeA (A : Option Addr) (n c : Nat) : Prop := (A = none ∧ n = 0 ∧ c = 0) ∨ ∃ b off, A = some ⟨b, off, none⟩
theorem own_shape {w : World} {base sz n : Nat} {e : TypeId} {A : Option Addr} {c : Nat} {xs : List Value} (h : w.ownsRow base e sz (.slice A n c) n xs) : ShapeA A n c := by
  rcases h.2 with ⟨h1, h2⟩ | ⟨g, cap, cur, h1, _⟩
  · injection h1 with h3 h4 h5
    exact .inl ⟨h3, h2, h5⟩
  · injection h1 with h3 _ _
    exact .inr ⟨g, 0, h3⟩
theorem clonePlates_all (l : List Pl) (A : Option Addr) (n c : Nat) (w : World) (hl : SlT plEnc 3 151 w A n l) (hs : ShapeA A n c) (hn : n ≤ 1000000) :
    Calls Tryz.prog 58 #[.slice A n c] w (fun e w' => ∃ A' c', e = .returned (.slice A' n c') ∧ w'.ownsRow w.heap.size 151 3 (.slice A' n c') n (l.flatMap plEnc) ∧ w.grownBy w' none) := by
  rcases hs with ⟨rfl, rfl, rfl⟩ | ⟨b, off, rfl⟩
  · exact clonePlates_any l none 0 0 w hl (fun _ => ⟨rfl, rfl⟩) hn
  · rcases Nat.eq_zero_or_pos n with rfl | h0
    · have hl0 : l = [] := List.length_eq_zero_iff.1 hl.len
      subst hl0
      exact clonePlates_empty b off c w
    · exact clonePlates_pos l _ n c w hl h0 hn
end Go.Proofs.YtiendebcdicjnaaGreatDoor
namespace Go.Proofs.YtiendebcdicjnaaGreatDoor
open Go.RowKit
theorem cs_mem {l : List Cs} {x : Cs} {j : Nat} (h : ∀ y ∈ l, CsOk y) (hx : CsOk x) : ∀ y ∈ l.set j x, CsOk y := fun y hy => by
  rcases List.mem_or_eq_of_mem_set hy with hy | rfl
  · exact h y hy
  · exact hx
theorem gclasses_anyF (w : World) (B sb m : Nat) (hS : Strm 25 w B sb m) (hm : m ≤ 100000000000) :
  Calls Tryz.prog 33 #[.pointer (some ⟨sb, 0, none⟩)] w (fun e w' => ∃ (A : Option Addr) (c : Nat) (l : List Cs), e = .returned (.slice A 4 c) ∧ w'.ownsRow w.heap.size 90 2 (.slice A 4 c) 4 (l.flatMap csEnc) ∧ (l.length = 4 ∧ classesE l = 0) ∧ (∀ x ∈ l, CsOk x) ∧ Strm 25 w' B sb (m + 20) ∧ w.grownBy w' (some sb)) := by
 refine gw_enter ⟨35, w, (some sb), []⟩ Tryz.func33 rfl Tryz.ntmps33 rfl (memS (X := []) hS allF_nil allL_nil) ?_
 refine sr_ (sg_ rfl (nn_ (sr_ ?_)))
 refine wl_ov (ov_build (cs := [.string ⟨#[98, 105, 103]⟩, .string ⟨#[]⟩]) rfl (by kernel_rfl)) rfl ?_
 refine wl_ov (ov_build (cs := [.string ⟨#[109, 97, 120, 105]⟩, .string ⟨#[]⟩]) rfl (by kernel_rfl)) rfl ?_
 refine wl_ov (ov_build (cs := [.string ⟨#[109, 105, 100, 105]⟩, .string ⟨#[]⟩]) rfl (by kernel_rfl)) rfl ?_
 refine wl_ov (ov_build (cs := [.string ⟨#[109, 105, 110, 105]⟩, .string ⟨#[]⟩]) rfl (by kernel_rfl)) rfl ?_
 refine wl_buildSlice (e := 90) (cs := [.string ⟨#[98, 105, 103]⟩, .string ⟨#[]⟩, .string ⟨#[109, 97, 120, 105]⟩, .string ⟨#[]⟩, .string ⟨#[109, 105, 100, 105]⟩, .string ⟨#[]⟩, .string ⟨#[109, 105, 110, 105]⟩, .string ⟨#[]⟩]) rfl (by kernel_rfl) rfl fun g1 => ?_
 refine sg_ rfl (nn_ (gw_seq (sr_ (mv_ rfl (wl_ov (ov_len es27 rfl) rfl ?_)))))
 refine wl_set 11 (v' := .int .i64 4) rfl rfl ?_
 refine mv_ rfl (nn_ (gw_block ?_))
 refine gw_toOwn (sz := 2) (n := 4) 0 [] rfl rfl rfl (by unfold maxLen; omega) ?_
 refine gw_loop (γ := Nat × List Cs) (fun g => g.1 ≤ 4 ∧ (g.2.length = 4 ∧ ClG g.2) ∧ (∀ x ∈ g.2, CsOk x)) (fun g => [(0, .pointer (some ⟨sb, 0, none⟩)), (2, .slice none 0 0), (3, .slice (some ⟨g1, 0, none⟩) 4 4), (11, .int .i64 4), (12, .int .i64 ((g.1 : Nat) : Int))]) (fun g => fun w => Strm 25 w B sb (m + 2 * g.1)) (fun g => []) (fun g => [⟨.slice (some ⟨g1, 0, none⟩) 4 4, 90, 2, 4, g.2.flatMap csEnc⟩]) (fun g => []) (fun g => 4 - g.1) (0, [⟨⟨#[98, 105, 103]⟩, ⟨#[]⟩⟩, ⟨⟨#[109, 97, 120, 105]⟩, ⟨#[]⟩⟩, ⟨⟨#[109, 105, 100, 105]⟩, ⟨#[]⟩⟩, ⟨⟨#[109, 105, 110, 105]⟩, ⟨#[]⟩⟩]) ⟨Nat.zero_le _, ⟨rfl, clG_start⟩, by simp [CsOk] <;> decide⟩ ⟨rfl, rfl, rfl, rfl, rfl, trivial⟩ (fun _ hm => (hm.more rfl (by first | omega | (dsimp only; omega))).pick [] [0] [] rfl rfl) ?_
 rintro ⟨i, l⟩ hinv
 replace hinv : i ≤ 4 ∧ (l.length = 4 ∧ ClG l) ∧ (∀ x ∈ l, CsOk x) := hinv
 dsimp only
 refine sr_ ?_
 obtain ⟨hi0, ⟨hl4, hcg⟩, hok⟩ := hinv
 refine wl_ov (ov_lss rfl rfl) rfl (nn_ (gw_seq ?_))
 refine gw_cond rfl (fun hh => ?_) (fun hh => ?_)
 ·have hi : ((i : Nat) : Int) < 4 := by simpa using hh
  clear hh
  refine gw_skip (nx_then (gw_seq (gw_block (sr_ (mv_ rfl (sg_ rfl (nn_ (sr_ (mv_ rfl ?_)))))))))
  refine wl_ov (ov_gtr rfl rfl) rfl ?_
  refine mv_ rfl ?_
  rcases Bool.eq_false_or_eq_true (decide (0 < ((i : Nat) : Int))) with h0 | h0
  ·refine wl_set 17 rfl (congrArg Value.bool h0) ?_
   have h0 := of_decide_eq_true h0
   refine wl_guard_on rfl rfl rfl (mv_ rfl (wl_guard_on rfl rfl rfl ?_))
   refine wl_got (γ := Bool) (val := fun v => .bool v) (φ := fun v => True) rfl cb56 rfl rfl rfl rfl (fun wx hm => ((flip_any _ wx B sb _ hm.k (by omega) (by omega) (by omega)).mono fun _ _ ⟨v, he, hS, hg⟩ => ⟨v, trivial, he, hS, hg⟩)) fun f2 _ => ?_
   refine wl_guard_on rfl rfl rfl (wl_ov (ov_un_not rfl) rfl (pt_ rfl rfl (nn_ ?_)))
   refine gw_cond rfl (fun hh => ?_) (fun hh => ?_)
   ·have hf : f2 = false := by simpa using hh
    clear hh
    refine gw_region (mv_ rfl (mv_ rfl (mv_ rfl (mv_ rfl (mv_ rfl ?_)))))
    refine wl_got (γ := Int) (val := fun v => .int .i64 v) (φ := fun v => IsBelow ((i : Nat) : Int) v) rfl cb23 rfl rfl rfl rfl (fun wx hm => (next_any _ wx B sb _ hm.k (by omega) (by omega) (by omega))) fun vj hvj => ?_
    have hj := isBelow_lt hvj (by omega)
    obtain ⟨j, rfl⟩ := Int.eq_ofNat_of_zero_le hj.1
    have hji : j < 4 := by omega
    obtain ⟨y, hy⟩ : ∃ y, l[j]? = some y := ⟨_, List.getElem?_eq_getElem (by omega)⟩
    obtain ⟨z, hz⟩ : ∃ z, l[i]? = some z := ⟨_, List.getElem?_eq_getElem (by omega)⟩
    obtain ⟨y0, y1⟩ := y
    obtain ⟨z0, z1⟩ := z
    obtain ⟨hy0, hy1⟩ := hok _ (List.mem_of_getElem? hy)
    obtain ⟨hz0, hz1⟩ := hok _ (List.mem_of_getElem? hz)
    refine wl_ov (ov_index (j := j) es27 rfl rfl (by omega)) rfl ?_
    refine fd_ fo90_0 rfl rfl ?_
    refine wl_ov (ov_elem1 (k := 0) (v := .string y0) sc9 rfl (fun _ hm => (SlT.ofOwn cs_len (hm.ownI 0 rfl) hl4)) hy rfl rfl) rfl ?_
    refine wl_ov (ov_index (j := i) es27 rfl rfl (by omega)) rfl ?_
    refine fd_ fo90_1 rfl rfl ?_
    refine wl_storeE (l := l) (j := i) (r := 1) (el := ⟨z0, z1⟩) (el' := ⟨z0, y0⟩) 0 sc9 rfl rfl rfl rfl cs_len rfl hz hl4 (show 1 < 2 by decide) rfl rfl ?_
    refine wl_nil (nx_blk_nrm (nx_then (gw_region (ad_ rfl rfl (mv_ rfl (wl_nil ?_))))))
    exact nx_round (i + 1, l.set i ⟨z0, y0⟩) ⟨by dsimp only; omega, ⟨by simp [hl4], clG_set hcg (show j < i by omega) (by omega) hy hz⟩, cs_mem hok ⟨hz0, hy0⟩⟩ (by dsimp only; omega) ⟨rfl, rfl, rfl, rfl, (some_int (by omega)), trivial⟩ (fun _ hm => (hm.more rfl (by first | omega | (dsimp only; omega))).pick [] [0] [] rfl rfl)
   have hf : f2 = true := by simpa using hh
   clear hh
   refine gw_skip (nx_blk_nrm (nx_then (gw_region (ad_ rfl rfl (mv_ rfl (wl_nil ?_))))))
   exact nx_round (i + 1, l) ⟨by dsimp only; omega, ⟨hl4, hcg⟩, hok⟩ (by dsimp only; omega) ⟨rfl, rfl, rfl, rfl, (some_int (by omega)), trivial⟩ (fun _ hm => (hm.more rfl (by first | omega | (dsimp only; omega))).pick [] [0] [] rfl rfl)
  refine wl_set 17 rfl (congrArg Value.bool h0) ?_
  refine goff rfl rfl rfl (goff rfl rfl rfl (goff rfl rfl rfl (pf_ rfl rfl (nn_ (cf_ rfl (gw_skip (nx_blk_nrm (nx_then (gw_region (ad_ rfl rfl (mv_ rfl (wl_nil ?_))))))))))))
  exact nx_round (i + 1, l) ⟨by dsimp only; omega, ⟨hl4, hcg⟩, hok⟩ (by dsimp only; omega) ⟨rfl, rfl, rfl, rfl, (some_int (by omega)), trivial⟩ (fun _ hm => (hm.more rfl (by first | omega | (dsimp only; omega))).pick [] [0] [] rfl rfl)
 have hi : ¬ (((i : Nat) : Int) < 4) := by simpa using hh
 clear hh
 refine gw_exit ?_
 refine nx_then_exit (nx_then_exit ?_)
 refine nx_blk_here ?_
 refine nx_then (sr_ (mv_ rfl (sg_ rfl (nn_ ?_))))
 refine gw_ret ?_
 refine nx_ret1 rfl rfl fun wx hm => ?_
 exact ⟨_, 4, l, rfl, hm.ownI 0 rfl, ⟨hl4, clG_right hcg⟩, hok, hm.k.more (by omega), hm.g⟩
end Go.Proofs.YtiendebcdicjnaaGreatDoor
