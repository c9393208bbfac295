/- Several texts as one: Sr Gg Gy Clr Cq Gz Wo Rw Ftc Buk -/
import Derived.Test.YtempjmpfdniecaaGreatDoorN2c
import Derived.Test.YtempjmpfdniecaaGreatDoorN2b
import Derived.Test.YtempjmpfdniecaaGreatDoorN2a
import Derived.OneCell
import Derived.Lib.OthersKept
set_option maxRecDepth 100000
set_option maxHeartbeats 4000000
namespace Go.Proofs.YtempjmpfdniecaaGreatDoor
open Go.RowKit
theorem hours7 (u0 u1 u2 u3 u4 u5 u6 u7 u8 u9 u10 u11 u12 u13 : Int) : hoursBad [u0, u1, u2, u3, u4, u5, u6, u7, u8, u9, u10, u11, u12, u13] = (winBad u0 u1 || (winBad u2 u3 || (winBad u4 u5 || (winBad u6 u7 || (winBad u8 u9 || (winBad u10 u11 || (winBad u12 u13 || false))))))) := rfl
def prevSt (l : List St) (k : Nat) : ByteArray := match prevOf l k with
 | none => ⟨#[]⟩
 | some q => q.key
theorem prevSt_succ {l : List St} {k : Nat} {x : St} (h : l[k]? = some x) : prevSt l (k + 1) = x.key := by
 unfold prevSt prevOf; rw [if_neg (by omega), Nat.add_sub_cancel, h]
theorem prevSt_le {l : List St} {k : Nat} {key : ByteArray} (h : keyB key = true) : leB key (prevSt l k) = prevB (prevOf l k) (fun q => leB key q.key) := by
 unfold prevSt prevB
 cases prevOf l k with
 | none => exact key_low h
 | some q => rfl
theorem stationsFault_any (l : List St) (A : Option Addr) (n c : Nat) (w : World) (hl : SlT stEnc 15 152 w A n l) (hok : ∀ x ∈ l, StOk x) (hn : n <= 1000000) :
  Calls Tryz.prog 196 #[.slice A n c] w (GotE w (stationsE l)) := by
 refine gw_enter ⟨47, w, none, []⟩ Tryz.func196 rfl Tryz.ntmps196 rfl (mem0 (X := [SlOld stEnc 15 152 w.heap.size none A n l]) (allF_cons hl.old allF_nil) (allL_cons SlOld.lasts allL_nil)) ?_
 refine sr_ ?_
 have hlen := hl.len
 refine sg_ rfl (nn_ (gw_seq (sr_ (mv_ rfl (wl_ov (ov_len es57 rfl) rfl ?_)))))
 refine wl_ov (ov_gtr rfl rfl) rfl ?_
 refine nn_ ?_
 refine gw_cond rfl (fun hh => ?_) (fun hh => ?_)
 ·have h1 : 50 < ((n : Nat) : Int) := by simpa using hh
  clear hh
  refine sr_ (sg_ rfl (nn_ ?_))
  refine gw_ret ?_
  refine nx_then_ret ?_
  refine nx_ret1 rfl rfl fun wx hm => ?_
  exact ⟨ret_int (by unfold stationsE; rw [if_pos (by omega)]), hm.g⟩
 have h1 : ¬ (50 < ((n : Nat) : Int)) := by simpa using hh
 clear hh
 refine gw_skip (nx_then (sr_ ?_))
 have hse : stationsE l = scanE stationE none l := by unfold stationsE; rw [if_neg (by omega)]
 refine sg_ rfl (nn_ (gw_seq (sr_ (mv_ rfl (wl_ov (ov_len es57 rfl) rfl (mv_ rfl (nn_ (gw_block ?_))))))))
 refine gw_loop (γ := Nat) (fun (k : Nat) => k <= n /\ scanE stationE none l = scanE stationE (prevOf l k) (l.drop k)) (fun (k : Nat) => [(3, .string (prevSt l k)), (11, .slice A n c), (12, .int .i64 ((n : Nat) : Int)), (13, .int .i64 ((k : Nat) : Int))]) (fun (k : Nat) => fun _ => True) (fun (k : Nat) => []) (fun (k : Nat) => []) (fun (k : Nat) => [SlOld stEnc 15 152 w.heap.size none A n l]) (fun (k : Nat) => n - k) 0 ⟨Nat.zero_le _, rfl⟩ ⟨rfl, rfl, rfl, rfl, trivial⟩ (fun _ hm => hm.pick [] [] [0] rfl rfl) ?_
 intro k hinv
 replace hinv : k <= n /\ scanE stationE none l = scanE stationE (prevOf l k) (l.drop k) := hinv
 refine sr_ (wl_ov (ov_lss rfl rfl) rfl (nn_ (gw_seq ?_)))
 refine gw_cond rfl (fun hh => ?_) (fun hh => ?_)
 ·have hk : ((k : Nat) : Int) < ((n : Nat) : Int) := by simpa using hh
  clear hh
  refine gw_skip (nx_then (gw_seq (gw_block (sr_ ?_))))
  obtain ⟨b, off, hA, _, _⟩ := hl.get (by omega)
  subst hA
  obtain ⟨x, hx⟩ : ∃ x, l[k]? = some x := ⟨_, List.getElem?_eq_getElem (by omega)⟩
  have hat := scanE_at stationE l k _ hx
  have hso := hok _ (List.mem_of_getElem? hx)
  obtain ⟨key, hs⟩ := x
  obtain ⟨u0, u1, u2, u3, u4, u5, u6, u7, u8, u9, u10, u11, u12, u13, rfl⟩ := list14 hs hso.1
  have hk1 : key.size <= 1000000 := hso.2.1
  have hsb := hso.2.2
  refine wl_ov (ov_index (j := k) es57 rfl rfl (by omega)) rfl ?_
  refine wl_ov (ov_elem (vs := [.string key, .int .i64 u0, .int .i64 u1, .int .i64 u2, .int .i64 u3, .int .i64 u4, .int .i64 u5, .int .i64 u6, .int .i64 u7, .int .i64 u8, .int .i64 u9, .int .i64 u10, .int .i64 u11, .int .i64 u12, .int .i64 u13]) rz152 rfl (fun _ hm => (hm.fact 0 rfl).1) hx rfl rfl) rfl ?_
  refine wl_alloc zc152 rfl fun g1 => ?_
  refine wl_stores (cs' := [.string key, .int .i64 u0, .int .i64 u1, .int .i64 u2, .int .i64 u3, .int .i64 u4, .int .i64 u5, .int .i64 u6, .int .i64 u7, .int .i64 u8, .int .i64 u9, .int .i64 u10, .int .i64 u11, .int .i64 u12, .int .i64 u13]) 0 rz152 rfl rfl rfl rfl rfl rfl rfl rfl ?_
  refine nn_ (gw_seq (gw_block (sr_ (fd_ fo152_0 rfl rfl (lk_ sc9 0 rfl rfl rfl ?_)))))
  refine wl_callv rfl cb197 rfl rfl (fun wx hm => (key_any _ wx (by omega))) ?_
  refine wl_ov (ov_un_not rfl) rfl (sg_ rfl (nn_ ?_))
  refine gw_cond rfl (fun hh => ?_) (fun hh => ?_)
  ·have h2 : (keyB key) = false := by simpa using hh
   clear hh
   refine sr_ (sg_ rfl (nn_ ?_))
   refine gw_ret ?_
   refine nx_blk_ret (nx_then_ret (nx_blk_ret (nx_then_ret (nx_then_ret (nx_blk_ret (nx_then_ret ?_))))))
   have hE : stationE (prevOf l k) ⟨key, [u0, u1, u2, u3, u4, u5, u6, u7, u8, u9, u10, u11, u12, u13]⟩ = 5 := by unfold stationE; rw [if_pos (by simpa using h2)]
   refine nx_ret1 rfl rfl fun wx hm => ?_
   exact ⟨ret_int (by rw [hse, hinv.2, hat, if_neg (by rw [hE]; decide), hE]), hm.g⟩
  have h2 : (keyB key) = true := by simpa using hh
  clear hh
  refine sr_ (fd_ fo152_0 rfl rfl (lk_ sc9 0 rfl rfl rfl (mv_ rfl ?_)))
  refine wl_ov (ov_sleq rfl rfl) rfl ?_
  refine sg_ rfl (nn_ ?_)
  refine gw_cond rfl (fun hh => ?_) (fun hh => ?_)
  ·have h9 : (Op.bytesLess key.toList (prevSt l k).toList || key.toList == (prevSt l k).toList) = true := by simpa using hh
   clear hh
   refine sr_ ?_
   have hky : keyB key = true := by simpa using h2
   have hO : prevB (prevOf l k) (fun q => leB key q.key) = true := (prevSt_le hky).symm.trans h9
   refine sg_ rfl (nn_ ?_)
   refine gw_ret ?_
   refine nx_blk_ret (nx_then_ret (nx_blk_ret (nx_then_ret (nx_then_ret (nx_blk_ret (nx_then_ret ?_))))))
   have hE : stationE (prevOf l k) ⟨key, [u0, u1, u2, u3, u4, u5, u6, u7, u8, u9, u10, u11, u12, u13]⟩ = 7 := by unfold stationE; rw [if_neg (by rw [hky]; decide), if_pos hO]
   refine nx_ret1 rfl rfl fun wx hm => ?_
   exact ⟨ret_int (by rw [hse, hinv.2, hat, if_neg (by rw [hE]; decide), hE]), hm.g⟩
  have h9 : (Op.bytesLess key.toList (prevSt l k).toList || key.toList == (prevSt l k).toList) = false := by simpa using hh
  clear hh
  refine gw_skip (nx_blk_nrm (nx_then (sr_ ?_)))
  have hky : keyB key = true := by simpa using h2
  have hO : prevB (prevOf l k) (fun q => leB key q.key) = false := (prevSt_le hky).symm.trans h9
  have hE0 : stationE (prevOf l k) ⟨key, [u0, u1, u2, u3, u4, u5, u6, u7, u8, u9, u10, u11, u12, u13]⟩ = if hoursBad [u0, u1, u2, u3, u4, u5, u6, u7, u8, u9, u10, u11, u12, u13] = true then 1 else 0 := by unfold stationE; rw [if_neg (by rw [hky]; decide), if_neg (by rw [hO]; decide)]
  rw [hours7] at hE0
  refine fd_ fo152_0 rfl rfl (lk_ sc9 0 rfl rfl rfl (sg_ rfl (nn_ (sr_ (fd_ fo152_1 rfl rfl ?_)))))
  refine wl_ov (ov_loads rz150 rfl (fun _ hm => hm.blkI 0 rfl) rfl rfl) rfl ?_
  refine mv_ rfl (nn_ (gw_block ?_))
  refine gw_rounds 8 ?_
  refine gr_next ?_
  refine sr_ (wl_ov (ov_lss rfl rfl) rfl ?_)
  refine wl_set 32 (v' := .bool true) rfl (congrArg Value.bool (by decide)) ?_
  refine nn_ (gw_seq (ct_ rfl (gw_skip (nx_then (gw_seq (gw_block (sr_ ?_)))))))
  refine wl_ov (ov_indexA (e := 27) (len := 7) (sz := 2) (i := 0) (cs := [.int .i64 u0, .int .i64 u1, .int .i64 u2, .int .i64 u3, .int .i64 u4, .int .i64 u5, .int .i64 u6, .int .i64 u7, .int .i64 u8, .int .i64 u9, .int .i64 u10, .int .i64 u11, .int .i64 u12, .int .i64 u13]) (vs := [.int .i64 u0, .int .i64 u1]) (by kernel_rfl) rfl rfl (by decide) rfl) rfl ?_
  refine wl_alloc zc27 rfl fun g2 => ?_
  refine wl_stores (cs' := [.int .i64 u0, .int .i64 u1]) 0 rz27 rfl rfl rfl rfl rfl rfl rfl rfl ?_
  refine nn_ (sr_ (fd_ fo27_0 rfl rfl (lk_ sc3 0 rfl rfl rfl (fd_ fo27_1 rfl rfl (lk_ sc3 0 rfl rfl rfl ?_)))))
  refine wl_callw rfl cb154 rfl rfl (fun wx hm => (rin_any _ _ _ wx)) ?_
  refine wl_ov (ov_un_not rfl) rfl (mv_ rfl ?_)
  rcases Bool.eq_false_or_eq_true (!(inB u0 0 u1)) with hg0 | hg0
  ·refine wl_set 40 rfl (congrArg Value.bool hg0) ?_
   have hw0 : winBad u0 u1 = true := by unfold winBad; simp [hg0]
   refine goff rfl rfl rfl (goff rfl rfl rfl (goff rfl rfl rfl (pt_ rfl rfl (nn_ (ct_ rfl (sr_ (sg_ rfl (nn_ ?_))))))))
   refine gw_ret ?_
   refine nx_blk_ret (nx_then_ret (nx_then_ret (nx_blk_ret (nx_blk_ret (nx_then_ret (nx_then_ret (nx_blk_ret (nx_then_ret ?_))))))))
   have hE : stationE (prevOf l k) ⟨key, [u0, u1, u2, u3, u4, u5, u6, u7, u8, u9, u10, u11, u12, u13]⟩ = 1 := by rw [hE0]; simp [hw0]
   refine nx_ret1 rfl rfl fun wx hm => ?_
   exact ⟨ret_int (by rw [hse, hinv.2, hat, if_neg (by rw [hE]; decide), hE]), hm.g⟩
  refine wl_set 40 rfl (congrArg Value.bool hg0) ?_
  refine wl_guard_on rfl rfl rfl (fd_ fo27_1 rfl rfl (wl_guard_on rfl rfl rfl (lk_ sc3 0 rfl rfl rfl (wl_guard_on rfl rfl rfl ?_))))
  refine wl_ov (ov_gtr rfl rfl) rfl ?_
  refine pf_ rfl rfl (nn_ ?_)
  refine gw_cond rfl (fun hh => ?_) (fun hh => ?_)
  ·have hh0 : 1440 < u1 := by simpa using hh
   clear hh
   refine sr_ ?_
   have hw0 : winBad u0 u1 = true := by unfold winBad; simp [hg0, hh0]
   refine sg_ rfl (nn_ ?_)
   refine gw_ret ?_
   refine nx_blk_ret (nx_then_ret (nx_then_ret (nx_blk_ret (nx_blk_ret (nx_then_ret (nx_then_ret (nx_blk_ret (nx_then_ret ?_))))))))
   have hE : stationE (prevOf l k) ⟨key, [u0, u1, u2, u3, u4, u5, u6, u7, u8, u9, u10, u11, u12, u13]⟩ = 1 := by rw [hE0]; simp [hw0]
   refine nx_ret1 rfl rfl fun wx hm => ?_
   exact ⟨ret_int (by rw [hse, hinv.2, hat, if_neg (by rw [hE]; decide), hE]), hm.g⟩
  have hh0 : ¬ (1440 < u1) := by simpa using hh
  clear hh
  refine gw_skip (nx_blk_nrm (nx_then (gw_region ?_)))
  have hw0 : winBad u0 u1 = false := by unfold winBad; simp at hg0; simp [hg0]; omega
  refine ad_ rfl rfl ?_
  refine wl_set 45 (v' := .int .i64 1) rfl rfl ?_
  refine mv_ rfl (wl_nil ?_)
  refine nx_next ?_
  refine gr_next ?_
  refine sr_ (wl_ov (ov_lss rfl rfl) rfl ?_)
  refine wl_set 32 (v' := .bool true) rfl (congrArg Value.bool (by decide)) ?_
  refine nn_ (gw_seq (ct_ rfl (gw_skip (nx_then (gw_seq (gw_block (sr_ ?_)))))))
  refine wl_ov (ov_indexA (e := 27) (len := 7) (sz := 2) (i := 1) (cs := [.int .i64 u0, .int .i64 u1, .int .i64 u2, .int .i64 u3, .int .i64 u4, .int .i64 u5, .int .i64 u6, .int .i64 u7, .int .i64 u8, .int .i64 u9, .int .i64 u10, .int .i64 u11, .int .i64 u12, .int .i64 u13]) (vs := [.int .i64 u2, .int .i64 u3]) (by kernel_rfl) rfl rfl (by decide) rfl) rfl ?_
  refine wl_alloc zc27 rfl fun g3 => ?_
  refine wl_stores (cs' := [.int .i64 u2, .int .i64 u3]) 0 rz27 rfl rfl rfl rfl rfl rfl rfl rfl ?_
  refine nn_ (sr_ (fd_ fo27_0 rfl rfl (lk_ sc3 0 rfl rfl rfl (fd_ fo27_1 rfl rfl (lk_ sc3 0 rfl rfl rfl ?_)))))
  refine wl_callw rfl cb154 rfl rfl (fun wx hm => (rin_any _ _ _ wx)) ?_
  refine wl_ov (ov_un_not rfl) rfl (mv_ rfl ?_)
  rcases Bool.eq_false_or_eq_true (!(inB u2 0 u3)) with hg1 | hg1
  ·refine wl_set 40 rfl (congrArg Value.bool hg1) ?_
   have hw1 : winBad u2 u3 = true := by unfold winBad; simp [hg1]
   refine goff rfl rfl rfl (goff rfl rfl rfl (goff rfl rfl rfl (pt_ rfl rfl (nn_ (ct_ rfl (sr_ (sg_ rfl (nn_ ?_))))))))
   refine gw_ret ?_
   refine nx_blk_ret (nx_then_ret (nx_then_ret (nx_blk_ret (nx_blk_ret (nx_then_ret (nx_then_ret (nx_blk_ret (nx_then_ret ?_))))))))
   have hE : stationE (prevOf l k) ⟨key, [u0, u1, u2, u3, u4, u5, u6, u7, u8, u9, u10, u11, u12, u13]⟩ = 1 := by rw [hE0]; simp [hw0, hw1]
   refine nx_ret1 rfl rfl fun wx hm => ?_
   exact ⟨ret_int (by rw [hse, hinv.2, hat, if_neg (by rw [hE]; decide), hE]), hm.g⟩
  refine wl_set 40 rfl (congrArg Value.bool hg1) ?_
  refine wl_guard_on rfl rfl rfl (fd_ fo27_1 rfl rfl (wl_guard_on rfl rfl rfl (lk_ sc3 0 rfl rfl rfl (wl_guard_on rfl rfl rfl ?_))))
  refine wl_ov (ov_gtr rfl rfl) rfl ?_
  refine pf_ rfl rfl (nn_ ?_)
  refine gw_cond rfl (fun hh => ?_) (fun hh => ?_)
  ·have hh1 : 1440 < u3 := by simpa using hh
   clear hh
   refine sr_ ?_
   have hw1 : winBad u2 u3 = true := by unfold winBad; simp [hg1, hh1]
   refine sg_ rfl (nn_ ?_)
   refine gw_ret ?_
   refine nx_blk_ret (nx_then_ret (nx_then_ret (nx_blk_ret (nx_blk_ret (nx_then_ret (nx_then_ret (nx_blk_ret (nx_then_ret ?_))))))))
   have hE : stationE (prevOf l k) ⟨key, [u0, u1, u2, u3, u4, u5, u6, u7, u8, u9, u10, u11, u12, u13]⟩ = 1 := by rw [hE0]; simp [hw0, hw1]
   refine nx_ret1 rfl rfl fun wx hm => ?_
   exact ⟨ret_int (by rw [hse, hinv.2, hat, if_neg (by rw [hE]; decide), hE]), hm.g⟩
  have hh1 : ¬ (1440 < u3) := by simpa using hh
  clear hh
  refine gw_skip (nx_blk_nrm (nx_then (gw_region ?_)))
  have hw1 : winBad u2 u3 = false := by unfold winBad; simp at hg1; simp [hg1]; omega
  refine ad_ rfl rfl ?_
  refine wl_set 45 (v' := .int .i64 2) rfl rfl ?_
  refine mv_ rfl (wl_nil ?_)
  refine nx_next ?_
  refine gr_next ?_
  refine sr_ (wl_ov (ov_lss rfl rfl) rfl ?_)
  refine wl_set 32 (v' := .bool true) rfl (congrArg Value.bool (by decide)) ?_
  refine nn_ (gw_seq (ct_ rfl (gw_skip (nx_then (gw_seq (gw_block (sr_ ?_)))))))
  refine wl_ov (ov_indexA (e := 27) (len := 7) (sz := 2) (i := 2) (cs := [.int .i64 u0, .int .i64 u1, .int .i64 u2, .int .i64 u3, .int .i64 u4, .int .i64 u5, .int .i64 u6, .int .i64 u7, .int .i64 u8, .int .i64 u9, .int .i64 u10, .int .i64 u11, .int .i64 u12, .int .i64 u13]) (vs := [.int .i64 u4, .int .i64 u5]) (by kernel_rfl) rfl rfl (by decide) rfl) rfl ?_
  refine wl_alloc zc27 rfl fun g4 => ?_
  refine wl_stores (cs' := [.int .i64 u4, .int .i64 u5]) 0 rz27 rfl rfl rfl rfl rfl rfl rfl rfl ?_
  refine nn_ (sr_ (fd_ fo27_0 rfl rfl (lk_ sc3 0 rfl rfl rfl (fd_ fo27_1 rfl rfl (lk_ sc3 0 rfl rfl rfl ?_)))))
  refine wl_callw rfl cb154 rfl rfl (fun wx hm => (rin_any _ _ _ wx)) ?_
  refine wl_ov (ov_un_not rfl) rfl (mv_ rfl ?_)
  rcases Bool.eq_false_or_eq_true (!(inB u4 0 u5)) with hg2 | hg2
  ·refine wl_set 40 rfl (congrArg Value.bool hg2) ?_
   have hw2 : winBad u4 u5 = true := by unfold winBad; simp [hg2]
   refine goff rfl rfl rfl (goff rfl rfl rfl (goff rfl rfl rfl (pt_ rfl rfl (nn_ (ct_ rfl (sr_ (sg_ rfl (nn_ ?_))))))))
   refine gw_ret ?_
   refine nx_blk_ret (nx_then_ret (nx_then_ret (nx_blk_ret (nx_blk_ret (nx_then_ret (nx_then_ret (nx_blk_ret (nx_then_ret ?_))))))))
   have hE : stationE (prevOf l k) ⟨key, [u0, u1, u2, u3, u4, u5, u6, u7, u8, u9, u10, u11, u12, u13]⟩ = 1 := by rw [hE0]; simp [hw0, hw1, hw2]
   refine nx_ret1 rfl rfl fun wx hm => ?_
   exact ⟨ret_int (by rw [hse, hinv.2, hat, if_neg (by rw [hE]; decide), hE]), hm.g⟩
  refine wl_set 40 rfl (congrArg Value.bool hg2) ?_
  refine wl_guard_on rfl rfl rfl (fd_ fo27_1 rfl rfl (wl_guard_on rfl rfl rfl (lk_ sc3 0 rfl rfl rfl (wl_guard_on rfl rfl rfl ?_))))
  refine wl_ov (ov_gtr rfl rfl) rfl ?_
  refine pf_ rfl rfl (nn_ ?_)
  refine gw_cond rfl (fun hh => ?_) (fun hh => ?_)
  ·have hh2 : 1440 < u5 := by simpa using hh
   clear hh
   refine sr_ ?_
   have hw2 : winBad u4 u5 = true := by unfold winBad; simp [hg2, hh2]
   refine sg_ rfl (nn_ ?_)
   refine gw_ret ?_
   refine nx_blk_ret (nx_then_ret (nx_then_ret (nx_blk_ret (nx_blk_ret (nx_then_ret (nx_then_ret (nx_blk_ret (nx_then_ret ?_))))))))
   have hE : stationE (prevOf l k) ⟨key, [u0, u1, u2, u3, u4, u5, u6, u7, u8, u9, u10, u11, u12, u13]⟩ = 1 := by rw [hE0]; simp [hw0, hw1, hw2]
   refine nx_ret1 rfl rfl fun wx hm => ?_
   exact ⟨ret_int (by rw [hse, hinv.2, hat, if_neg (by rw [hE]; decide), hE]), hm.g⟩
  have hh2 : ¬ (1440 < u5) := by simpa using hh
  clear hh
  refine gw_skip (nx_blk_nrm (nx_then (gw_region ?_)))
  have hw2 : winBad u4 u5 = false := by unfold winBad; simp at hg2; simp [hg2]; omega
  refine ad_ rfl rfl ?_
  refine wl_set 45 (v' := .int .i64 3) rfl rfl ?_
  refine mv_ rfl (wl_nil ?_)
  refine nx_next ?_
  refine gr_next ?_
  refine sr_ (wl_ov (ov_lss rfl rfl) rfl ?_)
  refine wl_set 32 (v' := .bool true) rfl (congrArg Value.bool (by decide)) ?_
  refine nn_ (gw_seq (ct_ rfl (gw_skip (nx_then (gw_seq (gw_block (sr_ ?_)))))))
  refine wl_ov (ov_indexA (e := 27) (len := 7) (sz := 2) (i := 3) (cs := [.int .i64 u0, .int .i64 u1, .int .i64 u2, .int .i64 u3, .int .i64 u4, .int .i64 u5, .int .i64 u6, .int .i64 u7, .int .i64 u8, .int .i64 u9, .int .i64 u10, .int .i64 u11, .int .i64 u12, .int .i64 u13]) (vs := [.int .i64 u6, .int .i64 u7]) (by kernel_rfl) rfl rfl (by decide) rfl) rfl ?_
  refine wl_alloc zc27 rfl fun g5 => ?_
  refine wl_stores (cs' := [.int .i64 u6, .int .i64 u7]) 0 rz27 rfl rfl rfl rfl rfl rfl rfl rfl ?_
  refine nn_ (sr_ (fd_ fo27_0 rfl rfl (lk_ sc3 0 rfl rfl rfl (fd_ fo27_1 rfl rfl (lk_ sc3 0 rfl rfl rfl ?_)))))
  refine wl_callw rfl cb154 rfl rfl (fun wx hm => (rin_any _ _ _ wx)) ?_
  refine wl_ov (ov_un_not rfl) rfl (mv_ rfl ?_)
  rcases Bool.eq_false_or_eq_true (!(inB u6 0 u7)) with hg3 | hg3
  ·refine wl_set 40 rfl (congrArg Value.bool hg3) ?_
   have hw3 : winBad u6 u7 = true := by unfold winBad; simp [hg3]
   refine goff rfl rfl rfl (goff rfl rfl rfl (goff rfl rfl rfl (pt_ rfl rfl (nn_ (ct_ rfl (sr_ (sg_ rfl (nn_ ?_))))))))
   refine gw_ret ?_
   refine nx_blk_ret (nx_then_ret (nx_then_ret (nx_blk_ret (nx_blk_ret (nx_then_ret (nx_then_ret (nx_blk_ret (nx_then_ret ?_))))))))
   have hE : stationE (prevOf l k) ⟨key, [u0, u1, u2, u3, u4, u5, u6, u7, u8, u9, u10, u11, u12, u13]⟩ = 1 := by rw [hE0]; simp [hw0, hw1, hw2, hw3]
   refine nx_ret1 rfl rfl fun wx hm => ?_
   exact ⟨ret_int (by rw [hse, hinv.2, hat, if_neg (by rw [hE]; decide), hE]), hm.g⟩
  refine wl_set 40 rfl (congrArg Value.bool hg3) ?_
  refine wl_guard_on rfl rfl rfl (fd_ fo27_1 rfl rfl (wl_guard_on rfl rfl rfl (lk_ sc3 0 rfl rfl rfl (wl_guard_on rfl rfl rfl ?_))))
  refine wl_ov (ov_gtr rfl rfl) rfl ?_
  refine pf_ rfl rfl (nn_ ?_)
  refine gw_cond rfl (fun hh => ?_) (fun hh => ?_)
  ·have hh3 : 1440 < u7 := by simpa using hh
   clear hh
   refine sr_ ?_
   have hw3 : winBad u6 u7 = true := by unfold winBad; simp [hg3, hh3]
   refine sg_ rfl (nn_ ?_)
   refine gw_ret ?_
   refine nx_blk_ret (nx_then_ret (nx_then_ret (nx_blk_ret (nx_blk_ret (nx_then_ret (nx_then_ret (nx_blk_ret (nx_then_ret ?_))))))))
   have hE : stationE (prevOf l k) ⟨key, [u0, u1, u2, u3, u4, u5, u6, u7, u8, u9, u10, u11, u12, u13]⟩ = 1 := by rw [hE0]; simp [hw0, hw1, hw2, hw3]
   refine nx_ret1 rfl rfl fun wx hm => ?_
   exact ⟨ret_int (by rw [hse, hinv.2, hat, if_neg (by rw [hE]; decide), hE]), hm.g⟩
  have hh3 : ¬ (1440 < u7) := by simpa using hh
  clear hh
  refine gw_skip (nx_blk_nrm (nx_then (gw_region ?_)))
  have hw3 : winBad u6 u7 = false := by unfold winBad; simp at hg3; simp [hg3]; omega
  refine ad_ rfl rfl ?_
  refine wl_set 45 (v' := .int .i64 4) rfl rfl ?_
  refine mv_ rfl (wl_nil ?_)
  refine nx_next ?_
  refine gr_next ?_
  refine sr_ (wl_ov (ov_lss rfl rfl) rfl ?_)
  refine wl_set 32 (v' := .bool true) rfl (congrArg Value.bool (by decide)) ?_
  refine nn_ (gw_seq (ct_ rfl (gw_skip (nx_then (gw_seq (gw_block (sr_ ?_)))))))
  refine wl_ov (ov_indexA (e := 27) (len := 7) (sz := 2) (i := 4) (cs := [.int .i64 u0, .int .i64 u1, .int .i64 u2, .int .i64 u3, .int .i64 u4, .int .i64 u5, .int .i64 u6, .int .i64 u7, .int .i64 u8, .int .i64 u9, .int .i64 u10, .int .i64 u11, .int .i64 u12, .int .i64 u13]) (vs := [.int .i64 u8, .int .i64 u9]) (by kernel_rfl) rfl rfl (by decide) rfl) rfl ?_
  refine wl_alloc zc27 rfl fun g6 => ?_
  refine wl_stores (cs' := [.int .i64 u8, .int .i64 u9]) 0 rz27 rfl rfl rfl rfl rfl rfl rfl rfl ?_
  refine nn_ (sr_ (fd_ fo27_0 rfl rfl (lk_ sc3 0 rfl rfl rfl (fd_ fo27_1 rfl rfl (lk_ sc3 0 rfl rfl rfl ?_)))))
  refine wl_callw rfl cb154 rfl rfl (fun wx hm => (rin_any _ _ _ wx)) ?_
  refine wl_ov (ov_un_not rfl) rfl (mv_ rfl ?_)
  rcases Bool.eq_false_or_eq_true (!(inB u8 0 u9)) with hg4 | hg4
  ·refine wl_set 40 rfl (congrArg Value.bool hg4) ?_
   have hw4 : winBad u8 u9 = true := by unfold winBad; simp [hg4]
   refine goff rfl rfl rfl (goff rfl rfl rfl (goff rfl rfl rfl (pt_ rfl rfl (nn_ (ct_ rfl (sr_ (sg_ rfl (nn_ ?_))))))))
   refine gw_ret ?_
   refine nx_blk_ret (nx_then_ret (nx_then_ret (nx_blk_ret (nx_blk_ret (nx_then_ret (nx_then_ret (nx_blk_ret (nx_then_ret ?_))))))))
   have hE : stationE (prevOf l k) ⟨key, [u0, u1, u2, u3, u4, u5, u6, u7, u8, u9, u10, u11, u12, u13]⟩ = 1 := by rw [hE0]; simp [hw0, hw1, hw2, hw3, hw4]
   refine nx_ret1 rfl rfl fun wx hm => ?_
   exact ⟨ret_int (by rw [hse, hinv.2, hat, if_neg (by rw [hE]; decide), hE]), hm.g⟩
  refine wl_set 40 rfl (congrArg Value.bool hg4) ?_
  refine wl_guard_on rfl rfl rfl (fd_ fo27_1 rfl rfl (wl_guard_on rfl rfl rfl (lk_ sc3 0 rfl rfl rfl (wl_guard_on rfl rfl rfl ?_))))
  refine wl_ov (ov_gtr rfl rfl) rfl ?_
  refine pf_ rfl rfl (nn_ ?_)
  refine gw_cond rfl (fun hh => ?_) (fun hh => ?_)
  ·have hh4 : 1440 < u9 := by simpa using hh
   clear hh
   refine sr_ ?_
   have hw4 : winBad u8 u9 = true := by unfold winBad; simp [hg4, hh4]
   refine sg_ rfl (nn_ ?_)
   refine gw_ret ?_
   refine nx_blk_ret (nx_then_ret (nx_then_ret (nx_blk_ret (nx_blk_ret (nx_then_ret (nx_then_ret (nx_blk_ret (nx_then_ret ?_))))))))
   have hE : stationE (prevOf l k) ⟨key, [u0, u1, u2, u3, u4, u5, u6, u7, u8, u9, u10, u11, u12, u13]⟩ = 1 := by rw [hE0]; simp [hw0, hw1, hw2, hw3, hw4]
   refine nx_ret1 rfl rfl fun wx hm => ?_
   exact ⟨ret_int (by rw [hse, hinv.2, hat, if_neg (by rw [hE]; decide), hE]), hm.g⟩
  have hh4 : ¬ (1440 < u9) := by simpa using hh
  clear hh
  refine gw_skip (nx_blk_nrm (nx_then (gw_region ?_)))
  have hw4 : winBad u8 u9 = false := by unfold winBad; simp at hg4; simp [hg4]; omega
  refine ad_ rfl rfl ?_
  refine wl_set 45 (v' := .int .i64 5) rfl rfl ?_
  refine mv_ rfl (wl_nil ?_)
  refine nx_next ?_
  refine gr_next ?_
  refine sr_ (wl_ov (ov_lss rfl rfl) rfl ?_)
  refine wl_set 32 (v' := .bool true) rfl (congrArg Value.bool (by decide)) ?_
  refine nn_ (gw_seq (ct_ rfl (gw_skip (nx_then (gw_seq (gw_block (sr_ ?_)))))))
  refine wl_ov (ov_indexA (e := 27) (len := 7) (sz := 2) (i := 5) (cs := [.int .i64 u0, .int .i64 u1, .int .i64 u2, .int .i64 u3, .int .i64 u4, .int .i64 u5, .int .i64 u6, .int .i64 u7, .int .i64 u8, .int .i64 u9, .int .i64 u10, .int .i64 u11, .int .i64 u12, .int .i64 u13]) (vs := [.int .i64 u10, .int .i64 u11]) (by kernel_rfl) rfl rfl (by decide) rfl) rfl ?_
  refine wl_alloc zc27 rfl fun g7 => ?_
  refine wl_stores (cs' := [.int .i64 u10, .int .i64 u11]) 0 rz27 rfl rfl rfl rfl rfl rfl rfl rfl ?_
  refine nn_ (sr_ (fd_ fo27_0 rfl rfl (lk_ sc3 0 rfl rfl rfl (fd_ fo27_1 rfl rfl (lk_ sc3 0 rfl rfl rfl ?_)))))
  refine wl_callw rfl cb154 rfl rfl (fun wx hm => (rin_any _ _ _ wx)) ?_
  refine wl_ov (ov_un_not rfl) rfl (mv_ rfl ?_)
  rcases Bool.eq_false_or_eq_true (!(inB u10 0 u11)) with hg5 | hg5
  ·refine wl_set 40 rfl (congrArg Value.bool hg5) ?_
   have hw5 : winBad u10 u11 = true := by unfold winBad; simp [hg5]
   refine goff rfl rfl rfl (goff rfl rfl rfl (goff rfl rfl rfl (pt_ rfl rfl (nn_ (ct_ rfl (sr_ (sg_ rfl (nn_ ?_))))))))
   refine gw_ret ?_
   refine nx_blk_ret (nx_then_ret (nx_then_ret (nx_blk_ret (nx_blk_ret (nx_then_ret (nx_then_ret (nx_blk_ret (nx_then_ret ?_))))))))
   have hE : stationE (prevOf l k) ⟨key, [u0, u1, u2, u3, u4, u5, u6, u7, u8, u9, u10, u11, u12, u13]⟩ = 1 := by rw [hE0]; simp [hw0, hw1, hw2, hw3, hw4, hw5]
   refine nx_ret1 rfl rfl fun wx hm => ?_
   exact ⟨ret_int (by rw [hse, hinv.2, hat, if_neg (by rw [hE]; decide), hE]), hm.g⟩
  refine wl_set 40 rfl (congrArg Value.bool hg5) ?_
  refine wl_guard_on rfl rfl rfl (fd_ fo27_1 rfl rfl (wl_guard_on rfl rfl rfl (lk_ sc3 0 rfl rfl rfl (wl_guard_on rfl rfl rfl ?_))))
  refine wl_ov (ov_gtr rfl rfl) rfl ?_
  refine pf_ rfl rfl (nn_ ?_)
  refine gw_cond rfl (fun hh => ?_) (fun hh => ?_)
  ·have hh5 : 1440 < u11 := by simpa using hh
   clear hh
   refine sr_ ?_
   have hw5 : winBad u10 u11 = true := by unfold winBad; simp [hg5, hh5]
   refine sg_ rfl (nn_ ?_)
   refine gw_ret ?_
   refine nx_blk_ret (nx_then_ret (nx_then_ret (nx_blk_ret (nx_blk_ret (nx_then_ret (nx_then_ret (nx_blk_ret (nx_then_ret ?_))))))))
   have hE : stationE (prevOf l k) ⟨key, [u0, u1, u2, u3, u4, u5, u6, u7, u8, u9, u10, u11, u12, u13]⟩ = 1 := by rw [hE0]; simp [hw0, hw1, hw2, hw3, hw4, hw5]
   refine nx_ret1 rfl rfl fun wx hm => ?_
   exact ⟨ret_int (by rw [hse, hinv.2, hat, if_neg (by rw [hE]; decide), hE]), hm.g⟩
  have hh5 : ¬ (1440 < u11) := by simpa using hh
  clear hh
  refine gw_skip (nx_blk_nrm (nx_then (gw_region ?_)))
  have hw5 : winBad u10 u11 = false := by unfold winBad; simp at hg5; simp [hg5]; omega
  refine ad_ rfl rfl ?_
  refine wl_set 45 (v' := .int .i64 6) rfl rfl ?_
  refine mv_ rfl (wl_nil ?_)
  refine nx_next ?_
  refine gr_next ?_
  refine sr_ (wl_ov (ov_lss rfl rfl) rfl ?_)
  refine wl_set 32 (v' := .bool true) rfl (congrArg Value.bool (by decide)) ?_
  refine nn_ (gw_seq (ct_ rfl (gw_skip (nx_then (gw_seq (gw_block (sr_ ?_)))))))
  refine wl_ov (ov_indexA (e := 27) (len := 7) (sz := 2) (i := 6) (cs := [.int .i64 u0, .int .i64 u1, .int .i64 u2, .int .i64 u3, .int .i64 u4, .int .i64 u5, .int .i64 u6, .int .i64 u7, .int .i64 u8, .int .i64 u9, .int .i64 u10, .int .i64 u11, .int .i64 u12, .int .i64 u13]) (vs := [.int .i64 u12, .int .i64 u13]) (by kernel_rfl) rfl rfl (by decide) rfl) rfl ?_
  refine wl_alloc zc27 rfl fun g8 => ?_
  refine wl_stores (cs' := [.int .i64 u12, .int .i64 u13]) 0 rz27 rfl rfl rfl rfl rfl rfl rfl rfl ?_
  refine nn_ (sr_ (fd_ fo27_0 rfl rfl (lk_ sc3 0 rfl rfl rfl (fd_ fo27_1 rfl rfl (lk_ sc3 0 rfl rfl rfl ?_)))))
  refine wl_callw rfl cb154 rfl rfl (fun wx hm => (rin_any _ _ _ wx)) ?_
  refine wl_ov (ov_un_not rfl) rfl (mv_ rfl ?_)
  rcases Bool.eq_false_or_eq_true (!(inB u12 0 u13)) with hg6 | hg6
  ·refine wl_set 40 rfl (congrArg Value.bool hg6) ?_
   have hw6 : winBad u12 u13 = true := by unfold winBad; simp [hg6]
   refine goff rfl rfl rfl (goff rfl rfl rfl (goff rfl rfl rfl (pt_ rfl rfl (nn_ (ct_ rfl (sr_ (sg_ rfl (nn_ ?_))))))))
   refine gw_ret ?_
   refine nx_blk_ret (nx_then_ret (nx_then_ret (nx_blk_ret (nx_blk_ret (nx_then_ret (nx_then_ret (nx_blk_ret (nx_then_ret ?_))))))))
   have hE : stationE (prevOf l k) ⟨key, [u0, u1, u2, u3, u4, u5, u6, u7, u8, u9, u10, u11, u12, u13]⟩ = 1 := by rw [hE0]; simp [hw0, hw1, hw2, hw3, hw4, hw5, hw6]
   refine nx_ret1 rfl rfl fun wx hm => ?_
   exact ⟨ret_int (by rw [hse, hinv.2, hat, if_neg (by rw [hE]; decide), hE]), hm.g⟩
  refine wl_set 40 rfl (congrArg Value.bool hg6) ?_
  refine wl_guard_on rfl rfl rfl (fd_ fo27_1 rfl rfl (wl_guard_on rfl rfl rfl (lk_ sc3 0 rfl rfl rfl (wl_guard_on rfl rfl rfl ?_))))
  refine wl_ov (ov_gtr rfl rfl) rfl ?_
  refine pf_ rfl rfl (nn_ ?_)
  refine gw_cond rfl (fun hh => ?_) (fun hh => ?_)
  ·have hh6 : 1440 < u13 := by simpa using hh
   clear hh
   refine sr_ ?_
   have hw6 : winBad u12 u13 = true := by unfold winBad; simp [hg6, hh6]
   refine sg_ rfl (nn_ ?_)
   refine gw_ret ?_
   refine nx_blk_ret (nx_then_ret (nx_then_ret (nx_blk_ret (nx_blk_ret (nx_then_ret (nx_then_ret (nx_blk_ret (nx_then_ret ?_))))))))
   have hE : stationE (prevOf l k) ⟨key, [u0, u1, u2, u3, u4, u5, u6, u7, u8, u9, u10, u11, u12, u13]⟩ = 1 := by rw [hE0]; simp [hw0, hw1, hw2, hw3, hw4, hw5, hw6]
   refine nx_ret1 rfl rfl fun wx hm => ?_
   exact ⟨ret_int (by rw [hse, hinv.2, hat, if_neg (by rw [hE]; decide), hE]), hm.g⟩
  have hh6 : ¬ (1440 < u13) := by simpa using hh
  clear hh
  refine gw_skip (nx_blk_nrm (nx_then (gw_region ?_)))
  have hw6 : winBad u12 u13 = false := by unfold winBad; simp at hg6; simp [hg6]; omega
  have hE : stationE (prevOf l k) ⟨key, [u0, u1, u2, u3, u4, u5, u6, u7, u8, u9, u10, u11, u12, u13]⟩ = 0 := by rw [hE0]; simp [hw0, hw1, hw2, hw3, hw4, hw5, hw6]
  refine ad_ rfl rfl ?_
  refine wl_set 45 (v' := .int .i64 7) rfl rfl ?_
  refine mv_ rfl (wl_nil ?_)
  refine nx_next ?_
  refine gr_next ?_
  refine sr_ (wl_ov (ov_lss rfl rfl) rfl ?_)
  refine wl_set 32 (v' := .bool false) rfl (congrArg Value.bool (by decide)) ?_
  refine nn_ (gw_seq (cf_ rfl ?_))
  refine gw_exit ?_
  refine nx_then_exit (nx_then_exit ?_)
  refine nx_blk_here ?_
  refine nx_blk_nrm (nx_then (gw_region (ad_ rfl rfl (mv_ rfl (wl_nil ?_)))))
  exact nx_round (k + 1) ⟨by omega, by rw [hinv.2, hat, if_pos hE]⟩ (by omega) ⟨(congrArg (fun z => some (Value.string z)) (prevSt_succ hx).symm), rfl, rfl, (some_int (by omega)), trivial⟩ (fun _ hm => hm.pick [] [] [0] rfl rfl)
 have hk : ¬ (((k : Nat) : Int) < ((n : Nat) : Int)) := by simpa using hh
 clear hh
 refine gw_exit ?_
 refine nx_then_exit (nx_then_exit ?_)
 refine nx_blk_here ?_
 refine nx_then (sr_ (sg_ rfl (nn_ ?_)))
 refine gw_ret ?_
 refine nx_ret1 rfl rfl fun wx hm => ?_
 exact ⟨ret_int (by rw [hse, hinv.2, scanE_end _ _ _ _ (by omega)]), hm.g⟩
end Go.Proofs.YtempjmpfdniecaaGreatDoor
namespace Go.Proofs.YtempjmpfdniecaaGreatDoor
open Go.RowKit
def prevVh (l : List Vh) (k : Nat) : ByteArray := match prevOf l k with
 | none => ⟨#[]⟩
 | some q => q.key
theorem prevVh_succ {l : List Vh} {k : Nat} {x : Vh} (h : l[k]? = some x) : prevVh l (k + 1) = x.key := by
 unfold prevVh prevOf; rw [if_neg (by omega), Nat.add_sub_cancel, h]
theorem prevVh_le {l : List Vh} {k : Nat} {b : Vh} (h : keyB b.key = true) : leB b.key (prevVh l k) = leVh (prevOf l k) b := by
 unfold prevVh leVh
 cases prevOf l k with
 | none => exact key_low h
 | some q => rfl
theorem ix_dec {α : Type} {p : α -> Bool} {l : List α} : decide (0 <= ixP p l 0) = l.any p := ix_any
theorem twin_any (pf : Int) (pv pp : ByteArray) (of : Int) (ov op : ByteArray) (gp : Nat) (w : World) (hk : Blk w gp 162 [.int .i64 pf, .string pv, .string pp]) :
  Calls Tryz.prog 203 #[.agg #[.int .i64 of, .string ov, .string op], .pointer (some ⟨gp, 0, none⟩)] w (fun e w' => e = .returned (.bool (plTwin ⟨pf, pv, pp⟩ ⟨of, ov, op⟩)) /\ w.grownBy w' none) := by
 refine gw_enter ⟨23, w, none, []⟩ Tryz.func203 rfl Tryz.ntmps203 rfl (mem0 (X := [BlkOld w.heap.size none gp 162 [.int .i64 pf, .string pv, .string pp]]) (allF_cons hk.old allF_nil) (allL_cons BlkOld.lasts allL_nil)) ?_
 refine sr_ ?_
 refine wl_box rfl rfl rfl fun g1 => ?_
 refine sg_ rfl (nn_ (sr_ (fd_ fo162_0 rfl rfl (lk_ sc3 0 rfl rfl rfl (fd_ fo162_0 rfl rfl ?_)))))
 refine wl_ov (ov_load (v := .int .i64 pf) sc3 rfl (fun _ hm => (hm.fact 0 rfl).2) rfl) rfl ?_
 refine wl_ov (ov_eql rfl rfl) rfl (mv_ rfl ?_)
 rcases Bool.eq_false_or_eq_true (decide (of = pf)) with h1 | h1
 ·refine wl_set 9 rfl (congrArg Value.bool h1) ?_
  refine wl_guard_on rfl rfl rfl (fd_ fo162_1 rfl rfl (wl_guard_on rfl rfl rfl (lk_ sc9 0 rfl rfl rfl (wl_guard_on rfl rfl rfl (fd_ fo162_1 rfl rfl (wl_guard_on rfl rfl rfl ?_))))))
  refine wl_ov (ov_load (v := .string pv) sc9 rfl (fun _ hm => (hm.fact 0 rfl).2) rfl) rfl ?_
  refine wl_guard_on rfl rfl rfl (wl_ov (ov_seql rfl rfl) rfl (wl_guard_on rfl rfl rfl (mv_ rfl ?_)))
  rcases Bool.eq_false_or_eq_true (ov.toList == pv.toList) with h2 | h2
  ·refine wl_set 15 rfl (congrArg Value.bool h2) ?_
   refine goff rfl rfl rfl (goff rfl rfl rfl (goff rfl rfl rfl (goff rfl rfl rfl (goff rfl rfl rfl (wl_guard_on rfl rfl rfl (pt_ rfl rfl (pt_ rfl rfl (sg_ rfl (nn_ ?_)))))))))
   refine gw_ret ?_
   refine nx_ret1 rfl rfl fun wx hm => ?_
   exact ⟨by unfold plTwin; simp only [h1, h2]; rfl, hm.g⟩
  refine wl_set 15 rfl (congrArg Value.bool h2) ?_
  refine wl_guard_on rfl rfl rfl (fd_ fo162_2 rfl rfl (wl_guard_on rfl rfl rfl (lk_ sc9 0 rfl rfl rfl (wl_guard_on rfl rfl rfl (fd_ fo162_2 rfl rfl (wl_guard_on rfl rfl rfl ?_))))))
  refine wl_ov (ov_load (v := .string pp) sc9 rfl (fun _ hm => (hm.fact 0 rfl).2) rfl) rfl ?_
  refine wl_guard_on rfl rfl rfl (wl_ov (ov_seql rfl rfl) rfl (wl_guard_on rfl rfl rfl (pf_ rfl rfl (pt_ rfl rfl (sg_ rfl (nn_ ?_))))))
  refine gw_ret ?_
  refine nx_ret1 rfl rfl fun wx hm => ?_
  exact ⟨by unfold plTwin; simp only [h1, h2]; rfl, hm.g⟩
 refine wl_set 9 rfl (congrArg Value.bool h1) ?_
 refine goff rfl rfl rfl (goff rfl rfl rfl (goff rfl rfl rfl (goff rfl rfl rfl (goff rfl rfl rfl (goff rfl rfl rfl (gnd rfl rfl rfl (gnd rfl rfl rfl (gnd rfl rfl rfl (gnd rfl rfl rfl (gnd rfl rfl rfl (goff rfl rfl rfl (pf_ rfl rfl (sg_ rfl ?_)))))))))))))
 refine nn_ ?_
 refine gw_ret ?_
 refine nx_ret1 rfl rfl fun wx hm => ?_
 exact ⟨by unfold plTwin; simp only [h1]; rfl, hm.g⟩
theorem twinIx_any (l : List Pl) (A : Option Addr) (n c0 : Nat) (pf : Int) (pv pp : ByteArray) (gp : Nat) (w : World) (hl : SlT plEnc 3 162 w A n l) (hn : n <= 1000000) (hk : Blk w gp 162 [.int .i64 pf, .string pv, .string pp]) :
  Calls Tryz.prog 268 #[.slice A n c0, .func (.func 203) #[] #[.pointer (some ⟨gp, 0, none⟩)]] w (GotE w (ixP (plTwin ⟨pf, pv, pp⟩) l 0)) := by
 refine gw_enter ⟨19, w, none, []⟩ Tryz.func268 rfl Tryz.ntmps268 rfl (mem0 (X := [SlOld plEnc 3 162 w.heap.size none A n l, BlkOld w.heap.size none gp 162 [.int .i64 pf, .string pv, .string pp]]) (allF_cons hl.old (allF_cons hk.old allF_nil)) (allL_cons SlOld.lasts (allL_cons BlkOld.lasts allL_nil))) ?_
 refine sr_ ?_
 have hlen := hl.len
 refine sg_ rfl (nn_ (gw_seq (sr_ (mv_ rfl (wl_ov (ov_len es60 rfl) rfl (mv_ rfl (nn_ (gw_block ?_))))))))
 refine gw_loop (γ := Nat) (fun (i : Nat) => i <= n /\ ixP (plTwin ⟨pf, pv, pp⟩) l 0 = ixP (plTwin ⟨pf, pv, pp⟩) (l.drop i) i) (fun (i : Nat) => [(0, .slice A n c0), (1, .func (.func 203) #[] #[.pointer (some ⟨gp, 0, none⟩)]), (7, .int .i64 ((n : Nat) : Int)), (8, .int .i64 ((i : Nat) : Int))]) (fun (i : Nat) => fun _ => True) (fun (i : Nat) => []) (fun (i : Nat) => []) (fun (i : Nat) => [SlOld plEnc 3 162 w.heap.size none A n l, BlkOld w.heap.size none gp 162 [.int .i64 pf, .string pv, .string pp]]) (fun (i : Nat) => n - i) 0 ⟨Nat.zero_le _, rfl⟩ ⟨rfl, rfl, rfl, rfl, trivial⟩ (fun _ hm => hm.pick [] [] [0, 1] rfl rfl) ?_
 intro i hinv
 replace hinv : i <= n /\ ixP (plTwin ⟨pf, pv, pp⟩) l 0 = ixP (plTwin ⟨pf, pv, pp⟩) (l.drop i) i := hinv
 refine sr_ (wl_ov (ov_lss rfl rfl) rfl (nn_ (gw_seq ?_)))
 refine gw_cond rfl (fun hh => ?_) (fun hh => ?_)
 ·have hi : ((i : Nat) : Int) < ((n : Nat) : Int) := by simpa using hh
  clear hh
  refine gw_skip (nx_then (gw_seq (gw_block (sr_ ?_))))
  obtain ⟨b, off, hA, _, _⟩ := hl.get (by omega)
  subst hA
  obtain ⟨x, hx⟩ : ∃ x, l[i]? = some x := ⟨_, List.getElem?_eq_getElem (by omega)⟩
  obtain ⟨of, ov, op⟩ := x
  have hat := ixP_at (p := plTwin ⟨pf, pv, pp⟩) hx
  refine mv_ rfl (sg_ rfl (nn_ (sr_ (mv_ rfl (mv_ rfl (mv_ rfl ?_))))))
  refine wl_ov (ov_index (j := i) es60 rfl rfl (by omega)) rfl ?_
  refine wl_ov (ov_elem (vs := [.int .i64 of, .string ov, .string op]) rz162 rfl (fun _ hm => (hm.fact 0 rfl).1) hx rfl rfl) rfl ?_
  refine wl_callv rfl cb203 rfl rfl (fun wx hm => (twin_any pf pv pp of ov op gp wx (hm.fact 1 rfl).2)) ?_
  refine nn_ ?_
  refine gw_cond rfl (fun hh => ?_) (fun hh => ?_)
  ·have hq : (plTwin ⟨pf, pv, pp⟩ ⟨of, ov, op⟩) = true := by simpa using hh
   clear hh
   refine sr_ (mv_ rfl (sg_ rfl (nn_ ?_)))
   refine gw_ret ?_
   refine nx_blk_ret (nx_then_ret (nx_then_ret (nx_blk_ret (nx_then_ret ?_))))
   refine nx_ret1 rfl rfl fun wx hm => ?_
   exact ⟨ret_int (by rw [hinv.2, hat, if_pos hq]), hm.g⟩
  have hq : (plTwin ⟨pf, pv, pp⟩ ⟨of, ov, op⟩) = false := by simpa using hh
  clear hh
  refine gw_skip (nx_blk_nrm (nx_then (gw_region (ad_ rfl rfl (mv_ rfl (wl_nil ?_))))))
  exact nx_round (i + 1) ⟨by omega, by rw [hinv.2, hat, if_neg (by rw [hq]; decide)]⟩ (by omega) ⟨rfl, rfl, rfl, (some_int (by omega)), trivial⟩ (fun _ hm => hm.pick [] [] [0, 1] rfl rfl)
 have hi : ¬ (((i : Nat) : Int) < ((n : Nat) : Int)) := by simpa using hh
 clear hh
 refine gw_exit ?_
 refine nx_then_exit (nx_then_exit ?_)
 refine nx_blk_here ?_
 refine nx_then (sr_ (sg_ rfl ?_))
 refine wl_set 4 (v' := .int .i64 (-1)) rfl rfl ?_
 refine nn_ ?_
 refine gw_ret ?_
 refine nx_ret1 rfl rfl fun wx hm => ?_
 exact ⟨ret_int (by rw [hinv.2, List.drop_eq_nil_of_le (by omega)]; rfl), hm.g⟩
theorem twinHas_any (l : List Pl) (A : Option Addr) (n c0 : Nat) (pf : Int) (pv pp : ByteArray) (gp : Nat) (w : World) (hl : SlT plEnc 3 162 w A n l) (hn : n <= 1000000) (hk : Blk w gp 162 [.int .i64 pf, .string pv, .string pp]) :
  Calls Tryz.prog 202 #[.slice A n c0, .func (.func 203) #[] #[.pointer (some ⟨gp, 0, none⟩)]] w (fun e w' => e = .returned (.bool (l.any (plTwin ⟨pf, pv, pp⟩))) /\ w.grownBy w' none) := by
 refine gw_enter ⟨9, w, none, []⟩ Tryz.func202 rfl Tryz.ntmps202 rfl (mem0 (X := [SlOld plEnc 3 162 w.heap.size none A n l, BlkOld w.heap.size none gp 162 [.int .i64 pf, .string pv, .string pp]]) (allF_cons hl.old (allF_cons hk.old allF_nil)) (allL_cons SlOld.lasts (allL_cons BlkOld.lasts allL_nil))) ?_
 refine sr_ (sg_ rfl (nn_ (sr_ (mv_ rfl (mv_ rfl ?_)))))
 refine wl_callv rfl cb268 rfl rfl (fun wx hm => (twinIx_any l A n c0 pf pv pp gp wx (hm.fact 0 rfl).1 hn (hm.fact 1 rfl).2)) ?_
 refine wl_ov (ov_geq rfl rfl) rfl ?_
 refine sg_ rfl (nn_ ?_)
 refine gw_ret ?_
 refine nx_ret1 rfl rfl fun wx hm => ?_
 exact ⟨by rw [<- ix_dec], hm.g⟩
theorem fleetFault_any (sl : List St) (cl : List Cs) (vl : List Vh) (pl : List Pl) (sA cA vA pA : Option Addr) (sn sc cn cc vn vc pn pc : Nat) (w : World) (hs : SlT stEnc 15 152 w sA sn sl) (hc : SlT csEnc 2 158 w cA cn cl) (hv : SlT vhEnc 2 160 w vA vn vl) (hp : SlT plEnc 3 162 w pA pn pl) (hsok : ∀ x ∈ sl, StOk x) (hcok : ∀ x ∈ cl, CsOk x) (hvok : ∀ x ∈ vl, VhOk x) (hpok : ∀ x ∈ pl, PlOk x) (hsn : sn <= 1000000) (hcn : cn <= 1000000) (hvn : vn <= 1000000) (hpn : pn <= 1000000) (hpc : pn <= pc) :
  Calls Tryz.prog 101 #[.agg #[.slice sA sn sc, .slice cA cn cc, .slice vA vn vc, .slice pA pn pc]] w (GotE w (fleetE sl cl vl pl)) := by
 refine gw_enter ⟨104, w, none, []⟩ Tryz.func101 rfl Tryz.ntmps101 rfl (mem0 (X := [SlOld stEnc 15 152 w.heap.size none sA sn sl, SlOld csEnc 2 158 w.heap.size none cA cn cl, SlOld vhEnc 2 160 w.heap.size none vA vn vl, SlOld plEnc 3 162 w.heap.size none pA pn pl]) (allF_cons hs.old (allF_cons hc.old (allF_cons hv.old (allF_cons hp.old allF_nil)))) (allL_cons SlOld.lasts (allL_cons SlOld.lasts (allL_cons SlOld.lasts (allL_cons SlOld.lasts allL_nil))))) ?_
 refine sr_ ?_
 have hlen := hv.len
 have hlenp := hp.len
 obtain ⟨SE, hSE⟩ : ∃ z, z = stationsE sl := ⟨_, rfl⟩
 obtain ⟨CE, hCE⟩ : ∃ z, z = classesE cl := ⟨_, rfl⟩
 obtain ⟨TE, hTE⟩ : ∃ z, z = fleetE sl cl vl pl := ⟨_, rfl⟩
 rw [<- hTE]
 have hT0 : TE = firstE [SE, CE, vehsE cl vl, platesE vl pl] := by rw [hTE, hSE, hCE]; rfl
 refine wl_box rfl rfl rfl fun g1 => ?_
 refine sg_ rfl (nn_ (gw_seq (sr_ (fd_ fo62_0 rfl rfl (lk_ sc57 0 rfl rfl rfl ?_)))))
 refine wl_callv (v := .int .i64 SE) rfl cb196 rfl rfl (fun wx hm => (by rw [hSE]; exact stationsFault_any sl sA sn sc wx (hm.fact 0 rfl).1 hsok (by omega))) ?_
 refine sg_ rfl (nn_ (sr_ (mv_ rfl (wl_ov (ov_neq rfl rfl) rfl (nn_ ?_)))))
 refine gw_cond rfl (fun hh => ?_) (fun hh => ?_)
 ·have h1 : ¬ (SE = 0) := by simpa using hh
  clear hh
  refine sr_ ?_
  have h2 : SE ≠ 0 := by simpa using h1
  have h3 : TE = SE := by rw [hT0]; simp [firstE, h2]
  refine mv_ rfl (sg_ rfl (nn_ ?_))
  refine gw_ret ?_
  refine nx_then_ret ?_
  refine nx_ret1 rfl rfl fun wx hm => ?_
  exact ⟨ret_int (by rw [h3]), hm.g⟩
 have h1 : SE = 0 := by simpa using hh
 clear hh
 refine gw_skip (nx_then (gw_seq (sr_ ?_)))
 have hS0 : SE = 0 := by simpa using h1
 refine fd_ fo62_1 rfl rfl (lk_ sc58 0 rfl rfl rfl ?_)
 refine wl_callv (v := .int .i64 CE) rfl cb148 rfl rfl (fun wx hm => (by rw [hCE]; exact classesFault_any cl cA cn cc wx (hm.fact 1 rfl).1 hcok (by omega))) ?_
 refine sg_ rfl (nn_ (sr_ (mv_ rfl (wl_ov (ov_neq rfl rfl) rfl (nn_ ?_)))))
 refine gw_cond rfl (fun hh => ?_) (fun hh => ?_)
 ·have h2 : ¬ (CE = 0) := by simpa using hh
  clear hh
  refine sr_ ?_
  have h3 : CE ≠ 0 := by simpa using h2
  have h4 : TE = CE := by rw [hT0]; simp [firstE, hS0, h3]
  refine mv_ rfl (sg_ rfl (nn_ ?_))
  refine gw_ret ?_
  refine nx_then_ret ?_
  refine nx_ret1 rfl rfl fun wx hm => ?_
  exact ⟨ret_int (by rw [h4]), hm.g⟩
 have h2 : CE = 0 := by simpa using hh
 clear hh
 refine gw_skip (nx_then (gw_seq (sr_ ?_)))
 have hC0 : CE = 0 := by simpa using h2
 have hT1 : TE = firstE [vehsE cl vl, platesE vl pl] := by rw [hT0, hS0, hC0]; rfl
 refine fd_ fo62_2 rfl rfl (lk_ sc59 0 rfl rfl rfl (wl_ov (ov_len es59 rfl) rfl ?_))
 refine wl_ov (ov_gtr rfl rfl) rfl ?_
 refine nn_ ?_
 refine gw_cond rfl (fun hh => ?_) (fun hh => ?_)
 ·have h3 : 500 < ((vn : Nat) : Int) := by simpa using hh
  clear hh
  refine sr_ ?_
  have h4 : TE = 2 := by rw [hT1, show vehsE cl vl = 2 by unfold vehsE; rw [if_pos (by omega)]]; rfl
  refine sg_ rfl (nn_ ?_)
  refine gw_ret ?_
  refine nx_then_ret ?_
  refine nx_ret1 rfl rfl fun wx hm => ?_
  exact ⟨ret_int (by rw [h4]), hm.g⟩
 have h3 : ¬ (500 < ((vn : Nat) : Int)) := by simpa using hh
 clear hh
 refine gw_skip (nx_then (sr_ ?_))
 have hT2 : TE = firstE [scanE (vhE cl) none vl, platesE vl pl] := by rw [hT1]; unfold vehsE; rw [if_neg (by omega)]
 refine sg_ rfl (nn_ (gw_seq (sr_ (fd_ fo62_2 rfl rfl (lk_ sc59 0 rfl rfl rfl (wl_ov (ov_len es59 rfl) rfl (mv_ rfl (nn_ (gw_block ?_)))))))))
 refine gw_loop (γ := Nat) (fun (i : Nat) => i <= vn /\ scanE (vhE cl) none vl = scanE (vhE cl) (prevOf vl i) (vl.drop i)) (fun (i : Nat) => [(1, .pointer (some ⟨g1, 0, none⟩)), (5, .string (prevVh vl i)), (28, .slice vA vn vc), (29, .int .i64 ((vn : Nat) : Int)), (30, .int .i64 ((i : Nat) : Int))]) (fun (i : Nat) => fun _ => True) (fun (i : Nat) => [(g1, 62, [.slice sA sn sc, .slice cA cn cc, .slice vA vn vc, .slice pA pn pc])]) (fun (i : Nat) => []) (fun (i : Nat) => [SlOld stEnc 15 152 w.heap.size none sA sn sl, SlOld csEnc 2 158 w.heap.size none cA cn cl, SlOld vhEnc 2 160 w.heap.size none vA vn vl, SlOld plEnc 3 162 w.heap.size none pA pn pl]) (fun (i : Nat) => vn - i) 0 ⟨Nat.zero_le _, rfl⟩ ⟨rfl, rfl, rfl, rfl, rfl, trivial⟩ (fun _ hm => hm.pick [0] [] [0, 1, 2, 3] rfl rfl) ?_
 intro i hinv
 replace hinv : i <= vn /\ scanE (vhE cl) none vl = scanE (vhE cl) (prevOf vl i) (vl.drop i) := hinv
 refine sr_ ?_
 obtain ⟨hi0, hsc⟩ := hinv
 refine wl_ov (ov_lss rfl rfl) rfl (nn_ (gw_seq ?_))
 refine gw_cond rfl (fun hh => ?_) (fun hh => ?_)
 ·have hi : ((i : Nat) : Int) < ((vn : Nat) : Int) := by simpa using hh
  clear hh
  refine gw_skip (nx_then (gw_seq (gw_block (sr_ ?_))))
  obtain ⟨bv, ov, hA, _, _⟩ := hv.get (by omega)
  subst hA
  obtain ⟨x, hx⟩ : ∃ x, vl[i]? = some x := ⟨_, List.getElem?_eq_getElem (by omega)⟩
  obtain ⟨vk, vc2⟩ := x
  have hat := scanE_at (vhE cl) vl i _ hx
  obtain ⟨hvk, hvc2⟩ := hvok _ (List.mem_of_getElem? hx)
  have hvk : vk.size <= 1000000 := hvk
  refine wl_ov (ov_index (j := i) es59 rfl rfl (by omega)) rfl ?_
  refine wl_ov (ov_elem (vs := [.string vk, .string vc2]) rz160 rfl (fun _ hm => (hm.fact 2 rfl).1) hx rfl rfl) rfl ?_
  refine wl_alloc zc160 rfl fun g2 => ?_
  refine wl_stores (cs' := [.string vk, .string vc2]) 0 rz160 rfl rfl rfl rfl rfl rfl rfl rfl ?_
  refine nn_ (gw_seq (gw_block (sr_ (fd_ fo160_0 rfl rfl (lk_ sc9 0 rfl rfl rfl ?_)))))
  refine wl_callv rfl cb197 rfl rfl (fun wx hm => (key_any _ wx (by omega))) ?_
  refine wl_ov (ov_un_not rfl) rfl (sg_ rfl (nn_ ?_))
  refine gw_cond rfl (fun hh => ?_) (fun hh => ?_)
  ·have h4 : (keyB vk) = false := by simpa using hh
   clear hh
   refine sr_ (sg_ rfl (nn_ ?_))
   refine gw_ret ?_
   refine nx_blk_ret (nx_then_ret (nx_blk_ret (nx_then_ret (nx_then_ret (nx_blk_ret (nx_then_ret ?_))))))
   have hE : vhE cl (prevOf vl i) ⟨vk, vc2⟩ = 5 := vhE_one (by simpa using h4)
   have hF : scanE (vhE cl) none vl = 5 := by rw [hsc, hat, if_neg (by rw [hE]; decide), hE]
   refine nx_ret1 rfl rfl fun wx hm => ?_
   exact ⟨ret_int (by rw [hT2, hF, fe_left (by decide)]), hm.g⟩
  have h4 : (keyB vk) = true := by simpa using hh
  clear hh
  refine sr_ (fd_ fo160_0 rfl rfl (lk_ sc9 0 rfl rfl rfl (mv_ rfl ?_)))
  refine wl_ov (ov_sleq rfl rfl) rfl ?_
  refine sg_ rfl (nn_ ?_)
  refine gw_cond rfl (fun hh => ?_) (fun hh => ?_)
  ·have h5 : (Op.bytesLess vk.toList (prevVh vl i).toList || vk.toList == (prevVh vl i).toList) = true := by simpa using hh
   clear hh
   refine sr_ ?_
   have hle : leVh (prevOf vl i) ⟨vk, vc2⟩ = true := (prevVh_le (b := ⟨vk, vc2⟩) (by simpa using h4)).symm.trans h5
   refine sg_ rfl (nn_ ?_)
   refine gw_ret ?_
   refine nx_blk_ret (nx_then_ret (nx_blk_ret (nx_then_ret (nx_then_ret (nx_blk_ret (nx_then_ret ?_))))))
   have hE : vhE cl (prevOf vl i) ⟨vk, vc2⟩ = 7 := vhE_two (by simpa using h4) hle
   have hF : scanE (vhE cl) none vl = 7 := by rw [hsc, hat, if_neg (by rw [hE]; decide), hE]
   refine nx_ret1 rfl rfl fun wx hm => ?_
   exact ⟨ret_int (by rw [hT2, hF, fe_left (by decide)]), hm.g⟩
  have h5 : (Op.bytesLess vk.toList (prevVh vl i).toList || vk.toList == (prevVh vl i).toList) = false := by simpa using hh
  clear hh
  refine sr_ ?_
  have hle : leVh (prevOf vl i) ⟨vk, vc2⟩ = false := (prevVh_le (b := ⟨vk, vc2⟩) (by simpa using h4)).symm.trans h5
  have h8 := vhE_three (cl := cl) (b := ⟨vk, vc2⟩) (by simpa using h4) hle
  refine fd_ fo62_1 rfl rfl (lk_ sc58 1 rfl rfl rfl (fd_ fo160_1 rfl rfl (lk_ sc9 0 rfl rfl rfl ?_)))
  refine wl_callv rfl cb153 rfl rfl (fun wx hm => (rClassAt_any cl cA cn cc vc2 wx (hm.fact 1 rfl).1 (by omega))) ?_
  refine wl_ov (ov_lss rfl rfl) rfl (sg_ rfl (nn_ ?_))
  refine gw_cond rfl (fun hh => ?_) (fun hh => ?_)
  ·have h6 : ixP (csP vc2) cl 0 < 0 := by simpa using hh
   clear hh
   refine sr_ (sg_ rfl (nn_ ?_))
   refine gw_ret ?_
   refine nx_blk_ret (nx_then_ret (nx_blk_ret (nx_then_ret (nx_then_ret (nx_blk_ret (nx_then_ret ?_))))))
   have hE : vhE cl (prevOf vl i) ⟨vk, vc2⟩ = 8 := by rw [h8, if_pos h6]
   have hF : scanE (vhE cl) none vl = 8 := by rw [hsc, hat, if_neg (by rw [hE]; decide), hE]
   refine nx_ret1 rfl rfl fun wx hm => ?_
   exact ⟨ret_int (by rw [hT2, hF, fe_left (by decide)]), hm.g⟩
  have h6 : ¬ (ixP (csP vc2) cl 0 < 0) := by simpa using hh
  clear hh
  refine gw_skip (nx_blk_nrm (nx_then (gw_region ?_)))
  have hE : vhE cl (prevOf vl i) ⟨vk, vc2⟩ = 0 := by rw [h8, if_neg h6]
  refine fd_ fo160_0 rfl rfl (lk_ sc9 0 rfl rfl rfl (sg_ rfl (wl_nil (nx_blk_nrm (nx_then (gw_region (ad_ rfl rfl (mv_ rfl (wl_nil ?_)))))))))
  exact nx_round (i + 1) ⟨by omega, by rw [hsc, hat, if_pos hE]⟩ (by omega) ⟨rfl, (congrArg (fun z => some (Value.string z)) (prevVh_succ hx).symm), rfl, rfl, (some_int (by omega)), trivial⟩ (fun _ hm => hm.pick [1] [] [0, 1, 2, 3] rfl rfl)
 have hi : ¬ (((i : Nat) : Int) < ((vn : Nat) : Int)) := by simpa using hh
 clear hh
 refine gw_exit ?_
 refine nx_then_exit (nx_then_exit ?_)
 refine nx_blk_here ?_
 refine nx_then (gw_seq (sr_ ?_))
 have hz : scanE (vhE cl) none vl = 0 := by rw [hsc, List.drop_eq_nil_of_le (by omega)]; rfl
 have hT3 : TE = platesE vl pl := by rw [hT2, hz, fe_right]
 clear hsc hi0 hi
 refine fd_ fo62_3 rfl rfl (lk_ sc60 0 rfl rfl rfl (wl_ov (ov_len es60 rfl) rfl ?_))
 refine wl_ov (ov_gtr rfl rfl) rfl ?_
 refine nn_ ?_
 refine gw_cond rfl (fun hh => ?_) (fun hh => ?_)
 ·have h7 : 1000 < ((pn : Nat) : Int) := by simpa using hh
  clear hh
  refine sr_ (sg_ rfl (nn_ ?_))
  refine gw_ret ?_
  refine nx_then_ret ?_
  refine nx_ret1 rfl rfl fun wx hm => ?_
  exact ⟨ret_int (by rw [hT3]; unfold platesE; rw [if_pos (by omega)]), hm.g⟩
 have h7 : ¬ (1000 < ((pn : Nat) : Int)) := by simpa using hh
 clear hh
 refine gw_skip (nx_then (gw_seq (sr_ (fd_ fo62_3 rfl rfl (lk_ sc60 0 rfl rfl rfl (wl_ov (ov_len es60 rfl) rfl (mv_ rfl (nn_ (gw_block ?_)))))))))
 refine gw_loop (γ := Nat) (fun (i : Nat) => i <= pn /\ platesE vl pl = plG vl (pl.take i) (pl.drop i)) (fun (i : Nat) => [(1, .pointer (some ⟨g1, 0, none⟩)), (59, .slice pA pn pc), (60, .int .i64 ((pn : Nat) : Int)), (61, .int .i64 ((i : Nat) : Int))]) (fun (i : Nat) => fun _ => True) (fun (i : Nat) => [(g1, 62, [.slice sA sn sc, .slice cA cn cc, .slice vA vn vc, .slice pA pn pc])]) (fun (i : Nat) => []) (fun (i : Nat) => [SlOld stEnc 15 152 w.heap.size none sA sn sl, SlOld csEnc 2 158 w.heap.size none cA cn cl, SlOld vhEnc 2 160 w.heap.size none vA vn vl, SlOld plEnc 3 162 w.heap.size none pA pn pl]) (fun (i : Nat) => pn - i) 0 ⟨Nat.zero_le _, by unfold platesE; rw [if_neg (by omega)]; rfl⟩ ⟨rfl, rfl, rfl, rfl, trivial⟩ (fun _ hm => hm.pick [0] [] [0, 1, 2, 3] rfl rfl) ?_
 intro i hinv
 replace hinv : i <= pn /\ platesE vl pl = plG vl (pl.take i) (pl.drop i) := hinv
 refine sr_ ?_
 obtain ⟨hi0, hpe⟩ := hinv
 refine wl_ov (ov_lss rfl rfl) rfl (nn_ (gw_seq ?_))
 refine gw_cond rfl (fun hh => ?_) (fun hh => ?_)
 ·have hi : ((i : Nat) : Int) < ((pn : Nat) : Int) := by simpa using hh
  clear hh
  refine gw_skip (nx_then (gw_seq (gw_block (sr_ ?_))))
  obtain ⟨bp, op, hA, _, _⟩ := hp.get (by omega)
  subst hA
  obtain ⟨x, hx⟩ : ∃ x, pl[i]? = some x := ⟨_, List.getElem?_eq_getElem (by omega)⟩
  obtain ⟨pf, pv, pp⟩ := x
  have hat := plG_at (vs := vl) hx
  obtain ⟨hpf, hpv, hpp⟩ := hpok _ (List.mem_of_getElem? hx)
  have hpv : pv.size <= 1000000 := hpv
  have hpp : pp.size <= 1000000 := hpp
  have hpf : -4000000000000000000 <= pf /\ pf <= 4000000000000000000 := hpf
  have hil : i < pl.length := by omega
  have hic : i <= pc := by omega
  refine mv_ rfl ?_
  refine wl_ov (ov_index (j := i) es60 rfl rfl (by omega)) rfl ?_
  refine wl_ov (ov_elem (vs := [.int .i64 pf, .string pv, .string pp]) rz162 rfl (fun _ hm => (hm.fact 3 rfl).1) hx rfl rfl) rfl ?_
  refine wl_alloc zc162 rfl fun g3 => ?_
  refine sg_ rfl ?_
  refine wl_stores (cs' := [.int .i64 pf, .string pv, .string pp]) 0 rz162 rfl rfl rfl rfl rfl rfl rfl rfl ?_
  refine nn_ (sr_ (fd_ fo62_3 rfl rfl (lk_ sc60 1 rfl rfl rfl (mv_ rfl ?_))))
  refine wl_ov (ov_sliceHi (hi := i) es60 rfl rfl rfl (by omega)) rfl ?_
  refine sg_ rfl (nn_ (gw_block (sr_ (fd_ fo162_0 rfl rfl (lk_ sc3 0 rfl rfl rfl ?_)))))
  refine wl_callw rfl cb198 rfl rfl (fun wx hm => (rmoment_any _ wx)) ?_
  refine wl_ov (ov_un_not rfl) rfl (sg_ rfl (nn_ ?_))
  refine gw_cond rfl (fun hh => ?_) (fun hh => ?_)
  ·have h8 : (inB pf 0 5761439) = false := by simpa using hh
   clear hh
   refine sr_ (sg_ rfl (nn_ ?_))
   refine gw_ret ?_
   refine nx_blk_ret (nx_blk_ret (nx_then_ret (nx_then_ret (nx_blk_ret (nx_then_ret ?_)))))
   have hE : plE vl (pl.take i) ⟨pf, pv, pp⟩ = 1 := plE_one (by simpa using h8)
   refine nx_ret1 rfl rfl fun wx hm => ?_
   exact ⟨ret_int (by rw [hT3, hpe, hat, if_neg (by rw [hE]; decide), hE]), hm.g⟩
  have h8 : (inB pf 0 5761439) = true := by simpa using hh
  clear hh
  refine sr_ ?_
  refine wl_ov (ov_loads rz62 rfl (fun _ hm => hm.blkI 1 rfl) rfl rfl) rfl ?_
  refine fd_ fo162_1 rfl rfl (lk_ sc9 0 rfl rfl rfl ?_)
  refine wl_callv rfl cb199 rfl rfl (fun wx hm => (rVehicleAt_any vl sA cA vA (some ⟨bp, op, none⟩) sn sc cn cc vn vc pn pc pv wx (hm.fact 2 rfl).1 (by omega))) ?_
  refine wl_ov (ov_lss rfl rfl) rfl (sg_ rfl (nn_ ?_))
  refine gw_cond rfl (fun hh => ?_) (fun hh => ?_)
  ·have h9 : ixP (vhP pv) vl 0 < 0 := by simpa using hh
   clear hh
   refine sr_ (sg_ rfl (nn_ ?_))
   refine gw_ret ?_
   refine nx_blk_ret (nx_blk_ret (nx_then_ret (nx_then_ret (nx_blk_ret (nx_then_ret ?_)))))
   have hE : plE vl (pl.take i) ⟨pf, pv, pp⟩ = 8 := plE_two (by simpa using h8) h9
   refine nx_ret1 rfl rfl fun wx hm => ?_
   exact ⟨ret_int (by rw [hT3, hpe, hat, if_neg (by rw [hE]; decide), hE]), hm.g⟩
  have h9 : ¬ (ixP (vhP pv) vl 0 < 0) := by simpa using hh
  clear hh
  refine sr_ (fd_ fo162_2 rfl rfl (lk_ sc9 0 rfl rfl rfl ?_))
  refine wl_callv rfl cb200 rfl rfl (fun wx hm => (plateForm_any pp wx hpp)) ?_
  refine wl_ov (ov_un_not rfl) rfl (sg_ rfl (nn_ ?_))
  refine gw_cond rfl (fun hh => ?_) (fun hh => ?_)
  ·have h10 : (plateB pp) = false := by simpa using hh
   clear hh
   refine sr_ (sg_ rfl (nn_ ?_))
   refine gw_ret ?_
   refine nx_blk_ret (nx_blk_ret (nx_then_ret (nx_then_ret (nx_blk_ret (nx_then_ret ?_)))))
   have hE : plE vl (pl.take i) ⟨pf, pv, pp⟩ = 3 := plE_three (by simpa using h8) h9 (by simpa using h10)
   refine nx_ret1 rfl rfl fun wx hm => ?_
   exact ⟨ret_int (by rw [hT3, hpe, hat, if_neg (by rw [hE]; decide), hE]), hm.g⟩
  have h10 : (plateB pp) = true := by simpa using hh
  clear hh
  refine gw_seq ?_
  have hfour := plE_four (vs := vl) (pre := pl.take i) (p := ⟨pf, pv, pp⟩) (by simpa using h8) h9 (by simpa using h10)
  by_cases h0 : i = 0
  ·have hO : plO (pl.take i) ⟨pf, pv, pp⟩ = false := by rw [h0]; exact plO_zero
   refine gd (fun wz => Blk wz g3 162 [.int .i64 pf, .string pv, .string pp] /\ Blk wz g1 62 [.slice sA sn sc, .slice cA cn cc, .slice vA vn vc, .slice (some ⟨bp, op, none⟩) pn pc] /\ (SlOld stEnc 15 152 w.heap.size none sA sn sl) wz /\ (SlOld csEnc 2 158 w.heap.size none cA cn cl) wz /\ (SlOld vhEnc 2 160 w.heap.size none vA vn vl) wz /\ (SlOld plEnc 3 162 w.heap.size none (some ⟨bp, op, none⟩) pn pl) wz /\ True) mixed (fun _ hm => ⟨hm.bl 0, hm.bl 1, hm.fa 0, hm.fa 1, hm.fa 2, hm.fa 3, trivial⟩) fun z => ?_
   refine wt 0 13 1 rfl z (ov_move rfl) ?_
   refine wt 1 13 3 rfl z (ov_gtr rfl rfl) ?_
   refine wa_set 88 (v' := .bool false) rfl (congrArg Value.bool (decide_eq_false (by omega))) ?_
   refine wt 2 13 7 rfl z (ov_move rfl) ?_
   refine wtf 3 13 15 rfl rfl rfl z ?_
   refine wtf 4 13 31 rfl rfl rfl z ?_
   refine wtf 5 13 63 rfl rfl rfl z ?_
   refine wtf 6 13 127 rfl rfl rfl z ?_
   refine wtf 7 13 255 rfl rfl rfl z ?_
   refine wtf 8 13 511 rfl rfl rfl z ?_
   refine wtf 9 13 1023 rfl rfl rfl z ?_
   refine wtf 10 13 2047 rfl rfl rfl z ?_
   refine wt 11 13 4095 rfl z (ov_pick_f rfl rfl) ?_
   refine wt 12 13 8191 rfl z (ov_assign rfl) ?_
   refine wa_done (by kernel_rfl) ?_
   refine nx_then (cf_ rfl (sr_ (mv_ rfl (wl_ov (ov_makeFunc rfl rfl) rfl ?_))))
   refine wl_callv rfl cb202 rfl rfl (fun wx hm => (twinHas_any (pl.take i) _ i pc pf pv pp _ wx (SlT.takeT (hm.fact 3 rfl).1 (by omega)) (by omega) (hm.blkI 0 rfl))) ?_
   refine sg_ rfl (nn_ ?_)
   refine gw_cond rfl (fun hh => ?_) (fun hh => ?_)
   ·have h12 : ((pl.take i).any (plTwin ⟨pf, pv, pp⟩)) = true := by simpa using hh
    clear hh
    refine sr_ (sg_ rfl (nn_ ?_))
    refine gw_ret ?_
    refine nx_blk_ret (nx_blk_ret (nx_then_ret (nx_then_ret (nx_blk_ret (nx_then_ret ?_)))))
    have hE : plE vl (pl.take i) ⟨pf, pv, pp⟩ = 6 := by rw [hfour, if_neg (by rw [hO]; decide), if_pos h12]
    refine nx_ret1 rfl rfl fun wx hm => ?_
    exact ⟨ret_int (by rw [hT3, hpe, hat, if_neg (by rw [hE]; decide), hE]), hm.g⟩
   have h12 : ((pl.take i).any (plTwin ⟨pf, pv, pp⟩)) = false := by simpa using hh
   clear hh
   refine gw_skip (nx_blk_nrm (nx_blk_nrm (nx_then (gw_region ?_))))
   have hE : plE vl (pl.take i) ⟨pf, pv, pp⟩ = 0 := by rw [hfour, if_neg (by rw [hO]; decide), if_neg (by rw [h12]; decide)]
   refine ad_ rfl rfl (mv_ rfl (wl_nil ?_))
   exact nx_round (i + 1) ⟨by omega, by rw [hpe, hat, if_pos hE]⟩ (by omega) ⟨rfl, rfl, rfl, (some_int (by omega)), trivial⟩ (fun _ hm => hm.pick [1] [] [0, 1, 2, 3] rfl rfl)
  obtain ⟨q, hq⟩ : ∃ x, pl[i - 1]? = some x := ⟨_, List.getElem?_eq_getElem (by omega)⟩
  obtain ⟨qf, qv, qp⟩ := q
  obtain ⟨hqf, _, _⟩ := hpok _ (List.mem_of_getElem? hq)
  have hqf : -4000000000000000000 <= qf /\ qf <= 4000000000000000000 := hqf
  have hOq := plO_pos (p := ⟨pf, pv, pp⟩) hil h0 hq
  refine gd (fun wz => Blk wz g3 162 [.int .i64 pf, .string pv, .string pp] /\ Blk wz g1 62 [.slice sA sn sc, .slice cA cn cc, .slice vA vn vc, .slice (some ⟨bp, op, none⟩) pn pc] /\ (SlOld stEnc 15 152 w.heap.size none sA sn sl) wz /\ (SlOld csEnc 2 158 w.heap.size none cA cn cl) wz /\ (SlOld vhEnc 2 160 w.heap.size none vA vn vl) wz /\ (SlOld plEnc 3 162 w.heap.size none (some ⟨bp, op, none⟩) pn pl) wz /\ True) mixed (fun _ hm => ⟨hm.bl 0, hm.bl 1, hm.fa 0, hm.fa 1, hm.fa 2, hm.fa 3, trivial⟩) fun z => ?_
  refine wt 0 13 1 rfl z (ov_move rfl) ?_
  refine wt 1 13 3 rfl z (ov_gtr rfl rfl) ?_
  refine wa_set 88 (v' := .bool true) rfl (congrArg Value.bool (decide_eq_true (by omega))) ?_
  refine wt 2 13 7 rfl z (ov_move rfl) ?_
  refine wto 3 13 15 rfl rfl rfl z (ov_move rfl) ?_
  refine wto 4 13 31 rfl rfl rfl z (ov_move rfl) ?_
  refine wto 5 13 63 rfl rfl rfl z (ov_sub rfl rfl (by omega) (by omega)) ?_
  refine wa_set 92 (v' := .int .i64 (((i - 1) : Nat) : Int)) rfl (congrArg (Value.int .i64) (by omega)) ?_
  refine wto 6 13 127 rfl rfl rfl z (ov_index (j := (i - 1)) es60 rfl rfl (by omega)) ?_
  refine wto 7 13 255 rfl rfl rfl z (ov_elem (vs := [.int .i64 qf, .string qv, .string qp]) rz162 rfl (fun _ hm => (hm.2.2.2.2.2.1).1) hq rfl rfl) ?_
  refine wto 8 13 511 rfl rfl rfl z (ov_loads rz162 rfl (fun _ hm => hm.1) rfl rfl) ?_
  refine wa1 9 rfl ?_
  refine wl_guard_on rfl rfl rfl ?_
  refine wl_callv rfl cb201 rfl rfl (fun wx hm => (plateOrder_any qf qv qp pf pv pp wx hqf hpf)) ?_
  refine wl_nil ?_
  refine nw 13 1023 (fun _ hm => ⟨hm.bl 0, hm.bl 1, hm.fa 0, hm.fa 1, hm.fa 2, hm.fa 3, trivial⟩) fun z => ?_
  refine wto 10 13 2047 rfl rfl rfl z (ov_geq rfl rfl) ?_
  refine wt 11 13 4095 rfl z (ov_pick_t rfl rfl) ?_
  refine wt 12 13 8191 rfl z (ov_assign rfl) ?_
  refine wa_done (by kernel_rfl) ?_
  refine nx_then ?_
  refine gw_cond rfl (fun hh => ?_) (fun hh => ?_)
  ·have h11 : 0 <= plOrd ⟨qf, qv, qp⟩ ⟨pf, pv, pp⟩ := by simpa using hh
   clear hh
   refine sr_ ?_
   have hO : plO (pl.take i) ⟨pf, pv, pp⟩ = true := by rw [hOq]; exact decide_eq_true h11
   refine sg_ rfl (nn_ ?_)
   refine gw_ret ?_
   refine nx_blk_ret (nx_blk_ret (nx_then_ret (nx_then_ret (nx_blk_ret (nx_then_ret ?_)))))
   have hE : plE vl (pl.take i) ⟨pf, pv, pp⟩ = 7 := by rw [hfour, if_pos hO]
   refine nx_ret1 rfl rfl fun wx hm => ?_
   exact ⟨ret_int (by rw [hT3, hpe, hat, if_neg (by rw [hE]; decide), hE]), hm.g⟩
  have h11 : ¬ (0 <= plOrd ⟨qf, qv, qp⟩ ⟨pf, pv, pp⟩) := by simpa using hh
  clear hh
  refine sr_ ?_
  have hO : plO (pl.take i) ⟨pf, pv, pp⟩ = false := by rw [hOq]; exact decide_eq_false h11
  refine mv_ rfl (wl_ov (ov_makeFunc rfl rfl) rfl ?_)
  refine wl_callv rfl cb202 rfl rfl (fun wx hm => (twinHas_any (pl.take i) _ i pc pf pv pp _ wx (SlT.takeT (hm.fact 3 rfl).1 (by omega)) (by omega) (hm.blkI 0 rfl))) ?_
  refine sg_ rfl (nn_ ?_)
  refine gw_cond rfl (fun hh => ?_) (fun hh => ?_)
  ·have h12 : ((pl.take i).any (plTwin ⟨pf, pv, pp⟩)) = true := by simpa using hh
   clear hh
   refine sr_ (sg_ rfl (nn_ ?_))
   refine gw_ret ?_
   refine nx_blk_ret (nx_blk_ret (nx_then_ret (nx_then_ret (nx_blk_ret (nx_then_ret ?_)))))
   have hE : plE vl (pl.take i) ⟨pf, pv, pp⟩ = 6 := by rw [hfour, if_neg (by rw [hO]; decide), if_pos h12]
   refine nx_ret1 rfl rfl fun wx hm => ?_
   exact ⟨ret_int (by rw [hT3, hpe, hat, if_neg (by rw [hE]; decide), hE]), hm.g⟩
  have h12 : ((pl.take i).any (plTwin ⟨pf, pv, pp⟩)) = false := by simpa using hh
  clear hh
  refine gw_skip (nx_blk_nrm (nx_blk_nrm (nx_then (gw_region ?_))))
  have hE : plE vl (pl.take i) ⟨pf, pv, pp⟩ = 0 := by rw [hfour, if_neg (by rw [hO]; decide), if_neg (by rw [h12]; decide)]
  refine ad_ rfl rfl (mv_ rfl (wl_nil ?_))
  exact nx_round (i + 1) ⟨by omega, by rw [hpe, hat, if_pos hE]⟩ (by omega) ⟨rfl, rfl, rfl, (some_int (by omega)), trivial⟩ (fun _ hm => hm.pick [1] [] [0, 1, 2, 3] rfl rfl)
 have hi : ¬ (((i : Nat) : Int) < ((pn : Nat) : Int)) := by simpa using hh
 clear hh
 refine gw_exit ?_
 refine nx_then_exit (nx_then_exit ?_)
 refine nx_blk_here ?_
 refine nx_then (sr_ (sg_ rfl (nn_ ?_)))
 refine gw_ret ?_
 refine nx_ret1 rfl rfl fun wx hm => ?_
 exact ⟨ret_int (by rw [hT3, plates_end (by omega) hpe]), hm.g⟩
end Go.Proofs.YtempjmpfdniecaaGreatDoor
namespace Go.Proofs.YtempjmpfdniecaaGreatDoor
open Go.RowKit
theorem pl_one (x : Pl) : ∀ v ∈ plEnc x, v.oneCell' = true := by
 intro v hv
 simp only [plEnc, List.mem_cons, List.not_mem_nil, or_false] at hv
 rcases hv with rfl | rfl | rfl <;> rfl
theorem plate_info : ∃ i z, Tryz.prog.info? 162 = some i /\ i.zero = some z /\ i.size = 3 /\ i.bytes = 40 /\ z.cells.size = 3 := info_parts (by kernel_rfl)
set_option maxRecDepth 100000 in
set_option maxHeartbeats 1000000 in
theorem clonePlates_pos (l : List Pl) (A : Option Addr) (n c : Nat) (w : World) (hl : SlT plEnc 3 162 w A n l) (hn0 : 0 < n) (hn : n <= 1000000) :
  Calls Tryz.prog 98 #[.slice A n c] w (fun e w' => ∃ A' c', e = .returned (.slice A' n c') /\ w'.ownsRow w.heap.size 162 3 (.slice A' n c') n (l.flatMap plEnc) /\ w.grownBy w' none) := by
 obtain ⟨b, off, rfl, hbl, hfl⟩ := hl.flat pl_len hn0
 have hlen := hl.len
 obtain ⟨i0, z0, hi, hz, hsz, hby, hzs⟩ := plate_info
 have hnews : ∀ (o : Obj) j u, (l.flatMap plEnc)[j]? = some u -> (w.alloc o).cell? ((⟨b, off, none⟩ : Addr).add j) = some u := fun o j u hj =>
  (World.cell?_of_block (Below.heap_alloc w o _ (by unfold Addr.add; split <;> exact hbl))).trans (hfl j u hj)
 have hone := flat_one plEnc pl_one l
 have hll := flat_len plEnc 3 pl_len l
 rw [hlen] at hll
 clear hfl hl
 have Hnews := Lib.hid hnews
 clear hnews
 have he : ∀ w : World, (binOp .eql 60 (.slice (some ⟨b, off, none⟩) n c) (.slice none 0 0)).run Tryz.prog w = .ok (.bool false) w := fun _ => rfl
 go_enter Tryz.func98, Tryz.ntmps98
 go_wp2_with (at_builtin; refine wpList_append_own_at _ rfl _ _ 60 rfl w.heap.size 162 i0 z0 3 40 Tryz.underlying60 hi hz hsz hby hzs (by decide) (.slice (some ⟨w.heap.size, 0, none⟩) 0 0) 0 [] rfl ⟨rfl, .inr ⟨w.heap.size, 0, #[], rfl, Nat.le_refl _, heap_alloc_new w _, Nat.le_refl _, by decide, rfl, rfl⟩⟩ ⟨b, off, none⟩ n c (l.flatMap plEnc) rfl hll (Hnews.out _) hone (by unfold maxLen; omega) (by omega) (by simp) ?_; intro v' w' hown hgrow hnil hat)
 rw [Nat.zero_add, List.nil_append] at hown
 have hown2 := hown
 obtain ⟨_, ho⟩ := hown2
 rcases ho with ⟨_, h0⟩ | ⟨g, cap, cur, rfl, hg, _⟩
 ·omega
 ·go_ret
  exact ⟨some ⟨g, 0, none⟩, cap, rfl, hown, grow_own (grow_alloc (World.grownBy.refl _ _) _) hgrow (fun k h => by cases h; exact Nat.le_refl _)⟩
set_option maxRecDepth 100000 in
set_option maxHeartbeats 1000000 in
theorem clonePlates_empty (b off c : Nat) (w : World) :
  Calls Tryz.prog 98 #[.slice (some ⟨b, off, none⟩) 0 c] w (fun e w' => ∃ A' c', e = .returned (.slice A' 0 c') /\ w'.ownsRow w.heap.size 162 3 (.slice A' 0 c') 0 [] /\ w.grownBy w' none) := by
 obtain ⟨i0, z0, hi, hz, hsz, hby, hzs⟩ := plate_info
 have he : ∀ w : World, (binOp .eql 60 (.slice (some ⟨b, off, none⟩) 0 c) (.slice none 0 0)).run Tryz.prog w = .ok (.bool false) w := fun _ => rfl
 go_enter Tryz.func98, Tryz.ntmps98
 go_wp2_with (at_builtin; refine wpList_append_own_at _ rfl _ _ 60 rfl w.heap.size 162 i0 z0 3 40 Tryz.underlying60 hi hz hsz hby hzs (by decide) (.slice (some ⟨w.heap.size, 0, none⟩) 0 0) 0 [] rfl ⟨rfl, .inr ⟨w.heap.size, 0, #[], rfl, Nat.le_refl _, heap_alloc_new w _, Nat.le_refl _, by decide, rfl, rfl⟩⟩ ⟨b, off, none⟩ 0 c [] rfl rfl (fun j u hj => by simp at hj) (fun v hv => by cases hv) (by unfold maxLen; omega) (by omega) (by simp) ?_; intro v' w' hown hgrow hnil hat)
 rw [Nat.zero_add, List.nil_append] at hown
 have hown2 := hown
 obtain ⟨_, ho⟩ := hown2
 rcases ho with ⟨rfl, _⟩ | ⟨g, cap, cur, rfl, hg, _⟩
 ·go_ret
  exact ⟨none, 0, rfl, hown, grow_own (grow_alloc (World.grownBy.refl _ _) _) hgrow (fun k h => by cases h; exact Nat.le_refl _)⟩
 ·go_ret
  exact ⟨some ⟨g, 0, none⟩, cap, rfl, hown, grow_own (grow_alloc (World.grownBy.refl _ _) _) hgrow (fun k h => by cases h; exact Nat.le_refl _)⟩
set_option maxRecDepth 100000 in
set_option maxHeartbeats 400000 in
theorem clonePlates_nil (w : World) : Calls Tryz.prog 98 #[.slice none 0 0] w (fun e w' => e = .returned (.slice none 0 0) /\ w = w') := by
 have he : ∀ w : World, (binOp .eql 60 (.slice none 0 0) (.slice none 0 0)).run Tryz.prog w = .ok (.bool true) w := fun _ => rfl
 go_enter Tryz.func98, Tryz.ntmps98
 go_wp2_with fail
 go_ret
 exact ⟨rfl, rfl⟩
theorem clonePlates_any (l : List Pl) (A : Option Addr) (n c : Nat) (w : World) (hl : SlT plEnc 3 162 w A n l) (hnil : n = 0 -> A = none /\ c = 0) (hn : n <= 1000000) :
  Calls Tryz.prog 98 #[.slice A n c] w (fun e w' => ∃ A' c', e = .returned (.slice A' n c') /\ w'.ownsRow w.heap.size 162 3 (.slice A' n c') n (l.flatMap plEnc) /\ w.grownBy w' none) := by
 by_cases h0 : n = 0
 ·obtain ⟨rfl, rfl⟩ := hnil h0
  subst h0
  have hl0 : l = [] := List.length_eq_zero_iff.1 hl.len
  subst hl0
  exact (clonePlates_nil w).mono fun e w' ⟨he, hw⟩ => ⟨none, 0, he, ⟨rfl, .inl ⟨rfl, rfl⟩⟩, hw ▸ World.grownBy.refl _ _⟩
 ·exact clonePlates_pos l A n c w hl (by omega) hn
end Go.Proofs.YtempjmpfdniecaaGreatDoor
namespace Go.Proofs.YtempjmpfdniecaaGreatDoor
open Go.RowKit
def ShapeA (A : Option Addr) (n c : Nat) : Prop := (A = none /\ n = 0 /\ c = 0) ∨ ∃ b off, A = some ⟨b, off, none⟩
theorem own_shape {w : World} {base sz n : Nat} {e : TypeId} {A : Option Addr} {c : Nat} {xs : List Value} (h : w.ownsRow base e sz (.slice A n c) n xs) : ShapeA A n c := by
 rcases h.2 with ⟨h1, h2⟩ | ⟨g, cap, cur, h1, _⟩
 ·injection h1 with h3 h4 h5
  exact .inl ⟨h3, h2, h5⟩
 ·injection h1 with h3 _ _
  exact .inr ⟨g, 0, h3⟩
theorem clonePlates_all (l : List Pl) (A : Option Addr) (n c : Nat) (w : World) (hl : SlT plEnc 3 162 w A n l) (hs : ShapeA A n c) (hn : n <= 1000000) :
  Calls Tryz.prog 98 #[.slice A n c] w (fun e w' => ∃ A' c', e = .returned (.slice A' n c') /\ w'.ownsRow w.heap.size 162 3 (.slice A' n c') n (l.flatMap plEnc) /\ w.grownBy w' none) := by
 rcases hs with ⟨rfl, rfl, rfl⟩ | ⟨b, off, rfl⟩
 ·exact clonePlates_any l none 0 0 w hl (fun _ => ⟨rfl, rfl⟩) hn
 ·rcases Nat.eq_zero_or_pos n with rfl | h0
  ·have hl0 : l = [] := List.length_eq_zero_iff.1 hl.len
   subst hl0
   exact clonePlates_empty b off c w
  ·exact clonePlates_pos l _ n c w hl h0 hn
end Go.Proofs.YtempjmpfdniecaaGreatDoor
namespace Go.Proofs.YtempjmpfdniecaaGreatDoor
open Go.RowKit
theorem stEnc_lenL {s : St} (h : StOk s) : (stEnc s).length = 15 := stEnc_len h
theorem flat_getL {enc : St -> List Value} {k : Nat} : ∀ (l : List St), (∀ x ∈ l, (enc x).length = k) -> ∀ (i : Nat) (x : St), l[i]? = some x -> ∀ (j : Nat) (v : Value), (enc x)[j]? = some v -> (l.flatMap enc)[i * k + j]? = some v
 | [], _, i, x, h, _, _, _ => by simp at h
 | y :: r, hk, 0, x, h, j, v, hv => by
  simp only [List.getElem?_cons_zero, Option.some.injEq] at h
  subst h
  rw [List.flatMap_cons, List.getElem?_append_left (by have := (List.getElem?_eq_some_iff.1 hv).1; omega), Nat.zero_mul, Nat.zero_add]; exact hv
 | y :: r, hk, i + 1, x, h, j, v, hv => by
  have h1 := hk y (List.mem_cons_self ..)
  rw [List.flatMap_cons, List.getElem?_append_right (by rw [h1, Nat.add_mul]; omega), h1, show (i + 1) * k + j - k = i * k + j by rw [Nat.add_mul]; omega]
  exact flat_getL r (fun z hz => hk z (List.mem_cons_of_mem _ hz)) i x (by simpa using h) j v hv
theorem SlT.ofOwnL {enc : St -> List Value} {base k n c : Nat} {T : TypeId} {w : World} {A : Option Addr} {l : List St} (hk : ∀ {x : St}, StOk x -> (enc x).length = k) (hl : ∀ x ∈ l, StOk x) (h : w.ownsRow base T k (.slice A n c) n (l.flatMap enc)) (hn : l.length = n) : SlT enc k T w A n l := by
 refine ⟨hn, fun hn0 => ?_⟩
 obtain ⟨h1, h2⟩ := h
 rcases h2 with ⟨h2, h3⟩ | ⟨g, cap, cur, hv, _, hh, hle, _, hcs, htk⟩
 ·omega
 ·injection hv with hA _ _
  refine ⟨g, 0, cur, _, hA, hh, fun i x hx j v hv => ?_⟩
  have := flat_getL l (fun x hx => hk (hl x hx)) i x hx j v hv
  rw [<- htk] at this
  rw [List.getElem?_take] at this
  split at this
  ·simpa using this
  ·cases this
def cat3 (a b : ByteArray) : ByteArray := a ++ (⟨#[32]⟩ : ByteArray) ++ b
def rfOrd (x y : Pl) : Int := if x.fr = y.fr then cmpS (cat3 x.veh x.plate) (cat3 y.veh y.plate) else x.fr - y.fr
def rfLt (x y : Pl) : Bool := decide (rfOrd x y < 0)
def PlB (x : Pl) : Prop := (-2000000000000000 <= x.fr /\ x.fr <= 2000000000000000) /\ x.veh.size <= 1000 /\ x.plate.size <= 1000
theorem plB_ok {x : Pl} (h : PlB x) : PlOk x := ⟨by have := h.1; omega, by have := h.2.1; omega, by have := h.2.2; omega⟩
theorem all_snoc {α : Type} {P : α -> Prop} {l : List α} {x : α} (h : ∀ y ∈ l, P y) (hx : P x) : ∀ y ∈ l ++ [x], P y := fun y hy => by
 rcases List.mem_append.1 hy with hy | hy
 ·exact h y hy
 ·rw [List.mem_singleton.1 hy]; exact hx
theorem s1_ok : StB ⟨⟨#[115, 49]⟩, [0, 0, 0, 0, 0, 0, 0, 0, 0, 0, 0, 0, 0, 0]⟩ := ⟨rfl, by decide, by decide⟩
theorem sz32 : (⟨#[32]⟩ : ByteArray).size = 1 := rfl
theorem rfOrd_any (x0 y0 : Int) (x1 x2 y1 y2 : ByteArray) (w : World) (hx : PlB ⟨x0, x1, x2⟩) (hy : PlB ⟨y0, y1, y2⟩) :
  Calls Tryz.prog 100 #[.agg #[.int .i64 x0, .string x1, .string x2], .agg #[.int .i64 y0, .string y1, .string y2]] w (GotE w (rfOrd ⟨x0, x1, x2⟩ ⟨y0, y1, y2⟩)) := by
 refine gw_enter ⟨28, w, none, []⟩ Tryz.func100 rfl Tryz.ntmps100 rfl (mem0 (X := []) allF_nil allL_nil) ?_
 refine sr_ ?_
 obtain ⟨⟨hx1, hx2⟩, hx3, hx4⟩ := hx
 obtain ⟨⟨hy1, hy2⟩, hy3, hy4⟩ := hy
 dsimp only at hx1 hx2 hx3 hx4 hy1 hy2 hy3 hy4
 have h32 := sz32
 refine wl_box rfl rfl rfl fun g1 => ?_
 refine wl_box rfl rfl rfl fun g2 => ?_
 refine sg_ rfl (nn_ (gw_seq (sr_ (fd_ fo162_0 rfl rfl (lk_ sc3 1 rfl rfl rfl (fd_ fo162_0 rfl rfl (lk_ sc3 0 rfl rfl rfl (wl_ov (ov_neq rfl rfl) rfl (nn_ ?_)))))))))
 refine gw_cond rfl (fun hh => ?_) (fun hh => ?_)
 ·have hne : ¬ (x0 = y0) := by simpa using hh
  clear hh
  refine sr_ (fd_ fo162_0 rfl rfl (lk_ sc3 1 rfl rfl rfl (fd_ fo162_0 rfl rfl (lk_ sc3 0 rfl rfl rfl ?_))))
  refine wl_ov (ov_sub rfl rfl (by omega) (by omega)) rfl ?_
  refine sg_ rfl (nn_ ?_)
  refine gw_ret ?_
  refine nx_then_ret ?_
  refine nx_ret1 rfl rfl fun wx hm => ?_
  exact ⟨ret_int (by unfold rfOrd; exact (if_neg hne).symm), hm.g⟩
 have hne : x0 = y0 := by simpa using hh
 clear hh
 refine gw_skip (nx_then (sr_ (fd_ fo162_1 rfl rfl (lk_ sc9 1 rfl rfl rfl ?_))))
 refine wl_ov (ov_sadd rfl rfl (by (try simp only [ByteArray.size_append]); omega)) rfl ?_
 refine fd_ fo162_2 rfl rfl (lk_ sc9 1 rfl rfl rfl ?_)
 refine wl_ov (ov_sadd rfl rfl (by (try simp only [ByteArray.size_append]); omega)) rfl ?_
 refine fd_ fo162_1 rfl rfl (lk_ sc9 0 rfl rfl rfl ?_)
 refine wl_ov (ov_sadd rfl rfl (by (try simp only [ByteArray.size_append]); omega)) rfl ?_
 refine fd_ fo162_2 rfl rfl (lk_ sc9 0 rfl rfl rfl ?_)
 refine wl_ov (ov_sadd rfl rfl (by (try simp only [ByteArray.size_append]); omega)) rfl ?_
 refine wl_callv rfl cb87 rfl rfl (fun wx hm => (strCompare_any _ _ wx)) ?_
 refine sg_ rfl (nn_ ?_)
 refine gw_ret ?_
 refine nx_ret1 rfl rfl fun wx hm => ?_
 exact ⟨ret_int (by unfold rfOrd; exact (if_pos hne).symm), hm.g⟩
theorem ins_rf  (l0 : List Pl) (br n cap base : Nat) (w : World) (h : w.ownsRow base 162 3 (.slice (some ⟨br, 0, none⟩) n cap) n (l0.flatMap plEnc)) (hl0 : l0.length = n) (hn : n <= 1000000) (hall : ∀ x ∈ l0, PlB x) :
  Calls Tryz.prog 254 #[.slice (some ⟨br, 0, none⟩) n cap, .int .i64 0, .int .i64 ((n : Nat) : Int), .func (.func 100) #[] #[]] w (fun e w' => e = .returned (.tuple #[]) /\ w'.ownsRow base 162 3 (.slice (some ⟨br, 0, none⟩) n cap) n ((isort (rfLt) l0).flatMap plEnc) /\ w.grownBy w' (some br)) := by
 obtain ⟨R, hR⟩ : ∃ z, z = isort (rfLt) l0 := ⟨_, rfl⟩
 rw [<- hR]
 refine gw_enter ⟨53, w, (some br), []⟩ Tryz.func254 rfl Tryz.ntmps254 rfl (memR (X := []) h allF_nil allL_nil) ?_
 refine sr_ (mv_ rfl (ad_ rfl rfl ?_))
 refine wl_set 11 (v' := .int .i64 1) rfl rfl ?_
 refine sg_ rfl (nn_ (gw_block ?_))
 refine gw_loop (γ := Nat × List Pl) (fun gg => (1 <= gg.1 /\ gg.1 <= n + 1) /\ gg.2.length = n /\ isortF (rfLt) (n - gg.1) gg.1 gg.2 = R) (fun gg => [(0, .slice (some ⟨br, 0, none⟩) n cap), (1, .int .i64 0), (2, .int .i64 ((n : Nat) : Int)), (3, .func (.func 100) #[] #[]), (8, .int .i64 ((gg.1 : Nat) : Int))]) (fun gg => RowK base 162 3 n cap br ((gg.2).flatMap plEnc)) (fun gg => []) (fun gg => []) (fun gg => []) (fun gg => n + 1 - gg.1) (1, l0) ⟨⟨Nat.le_refl _, by omega⟩, hl0, by rw [hR]; unfold isort; rw [hl0]⟩ ⟨rfl, rfl, rfl, rfl, (some_int (by omega)), trivial⟩ (fun _ hm => hm.pick [] [] [] rfl rfl) ?_
 rintro ⟨i, l⟩ hinv
 replace hinv : (1 <= i /\ i <= n + 1) /\ l.length = n /\ isortF (rfLt) (n - i) i l = R := hinv
 dsimp only
 refine gw_seq (sr_ ?_)
 obtain ⟨⟨hi1, hi2⟩, hl1, hR1⟩ := hinv
 refine mv_ rfl (mv_ rfl (wl_ov (ov_lss rfl rfl) rfl (nn_ ?_)))
 refine gw_cond rfl (fun hh => ?_) (fun hh => ?_)
 ·have hi : ((i : Nat) : Int) < ((n : Nat) : Int) := by simpa using hh
  clear hh
  refine gw_skip (nx_then (gw_seq (gw_block (sr_ ?_))))
  have hRi : isortF (rfLt) (n - (i + 1)) (i + 1) (sink (rfLt) i l) = R := by rw [<- hR1, show n - i = (n - (i + 1)) + 1 by omega]; rfl
  obtain ⟨S, hS⟩ : ∃ z, z = sink (rfLt) i l := ⟨_, rfl⟩
  rw [<- hS] at hRi
  have hSl : S.length = n := by rw [hS, sink_len]; exact hl1
  refine mv_ rfl (sg_ rfl (nn_ (gw_block ?_)))
  refine gw_loop (γ := Nat × List Pl) (fun gg => (gg.1 <= i) /\ gg.2.length = n /\ sink (rfLt) gg.1 gg.2 = S) (fun gg => [(0, .slice (some ⟨br, 0, none⟩) n cap), (1, .int .i64 0), (2, .int .i64 ((n : Nat) : Int)), (3, .func (.func 100) #[] #[]), (8, .int .i64 ((i : Nat) : Int)), (9, .int .i64 ((gg.1 : Nat) : Int))]) (fun gg => RowK base 162 3 n cap br ((gg.2).flatMap plEnc)) (fun gg => []) (fun gg => []) (fun gg => []) (fun gg => gg.1) (i, l) ⟨Nat.le_refl _, hl1, hS.symm⟩ ⟨rfl, rfl, rfl, rfl, rfl, rfl, trivial⟩ (fun _ hm => hm.pick [] [] [] rfl rfl) ?_
  rintro ⟨jj, m⟩ hinv
  replace hinv : (jj <= i) /\ m.length = n /\ sink (rfLt) jj m = S := hinv
  dsimp only
  refine gw_seq (gw_seq ?_)
  obtain ⟨hj1, hm1, hS1⟩ := hinv
  rcases jj with _ | j
  ·refine gd (fun wz => True) mixed (fun _ _ => trivial) fun z => ?_
   refine wt 0 17 1 rfl z (ov_move rfl) ?_
   refine wa_set 18 (v' := .int .i64 0) rfl rfl ?_
   refine wt 1 17 3 rfl z (ov_move rfl) ?_
   refine wt 2 17 7 rfl z (ov_gtr rfl rfl) ?_
   refine wa_set 20 (v' := .bool false) rfl (congrArg Value.bool (by decide)) ?_
   refine wt 3 17 15 rfl z (ov_move rfl) ?_
   refine wtf 4 17 31 rfl rfl rfl z ?_
   refine wtf 5 17 63 rfl rfl rfl z ?_
   refine wtf 6 17 127 rfl rfl rfl z ?_
   refine wtf 7 17 255 rfl rfl rfl z ?_
   refine wtf 8 17 511 rfl rfl rfl z ?_
   refine wtf 9 17 1023 rfl rfl rfl z ?_
   refine wtf 10 17 2047 rfl rfl rfl z ?_
   refine wtf 11 17 4095 rfl rfl rfl z ?_
   refine wtf 12 17 8191 rfl rfl rfl z ?_
   refine wtf 13 17 16383 rfl rfl rfl z ?_
   refine wtf 14 17 32767 rfl rfl rfl z ?_
   refine wtf 15 17 65535 rfl rfl rfl z ?_
   refine wt 16 17 131071 rfl z (ov_pick_f rfl rfl) ?_
   refine wa_done (by kernel_rfl) ?_
   refine nx_then (cf_ rfl ?_)
   refine gw_exit ?_
   refine nx_then_exit (nx_then_exit ?_)
   refine nx_blk_here ?_
   refine nx_blk_nrm (nx_then (gw_region (mv_ rfl (ad_ rfl rfl (sg_ rfl (wl_nil ?_))))))
   have hm2 : m = S := hS1
   exact nx_round (i + 1, m) ⟨⟨by dsimp only; omega, by dsimp only; omega⟩, by rw [hm2]; exact hSl, by rw [hm2]; exact hRi⟩ (by dsimp only; omega) ⟨rfl, rfl, rfl, rfl, (some_int (by omega)), trivial⟩ (fun _ hm => hm.pick [] [] [] rfl rfl)
  have hj2 : j + 1 < n := by omega
  have hin : ∀ z ∈ m, z ∈ l0 := fun z hz => mem_in hR hRi hS1 hz
  obtain ⟨xx, hx⟩ : ∃ x, m[j + 1]? = some x := ⟨_, List.getElem?_eq_getElem (by omega)⟩
  obtain ⟨x0, x1, x2⟩ := xx
  obtain ⟨yy, hy⟩ : ∃ x, m[j]? = some x := ⟨_, List.getElem?_eq_getElem (by omega)⟩
  obtain ⟨y0, y1, y2⟩ := yy
  refine gd (fun wz => (RowK base 162 3 n cap br ((m).flatMap plEnc)) wz /\ True) mixed (fun _ hm => ⟨hm.k, trivial⟩) fun z => ?_
  refine wt 0 17 1 rfl z (ov_move rfl) ?_
  refine wt 1 17 3 rfl z (ov_move rfl) ?_
  refine wt 2 17 7 rfl z (ov_gtr rfl rfl) ?_
  refine wa_set 20 (v' := .bool true) rfl (congrArg Value.bool (decide_eq_true (by omega))) ?_
  refine wt 3 17 15 rfl z (ov_move rfl) ?_
  refine wto 4 17 31 rfl rfl rfl z (ov_move rfl) ?_
  refine wto 5 17 63 rfl rfl rfl z (ov_move rfl) ?_
  refine wto 6 17 127 rfl rfl rfl z (ov_move rfl) ?_
  refine wto 7 17 255 rfl rfl rfl z (ov_index (j := (j + 1)) es60 rfl rfl (by omega)) ?_
  refine wto 8 17 511 rfl rfl rfl z (ov_elem (vs := [.int .i64 x0, .string x1, .string x2]) rz162 rfl (fun _ hm => (RowK.get (hm.1) pl_len hm1)) hx rfl rfl) ?_
  refine wto 9 17 1023 rfl rfl rfl z (ov_move rfl) ?_
  refine wto 10 17 2047 rfl rfl rfl z (ov_move rfl) ?_
  refine wto 11 17 4095 rfl rfl rfl z (ov_sub rfl rfl (by omega) (by omega)) ?_
  refine wa_set 29 (v' := .int .i64 ((j : Nat) : Int)) rfl (congrArg (Value.int .i64) (by omega)) ?_
  refine wto 12 17 8191 rfl rfl rfl z (ov_index (j := j) es60 rfl rfl (by omega)) ?_
  refine wto 13 17 16383 rfl rfl rfl z (ov_elem (vs := [.int .i64 y0, .string y1, .string y2]) rz162 rfl (fun _ hm => (RowK.get (hm.1) pl_len hm1)) hy rfl rfl) ?_
  refine wa1 14 rfl ?_
  refine wl_guard_on rfl rfl rfl ?_
  refine wl_callv rfl cb100 rfl rfl (fun wx hm => (rfOrd_any x0 y0 x1 x2 y1 y2 wx (hall _ (hin _ (List.mem_of_getElem? hx))) (hall _ (hin _ (List.mem_of_getElem? hy))))) ?_
  refine wl_nil ?_
  refine nw 17 32767 (fun _ hm => ⟨hm.k, trivial⟩) fun z => ?_
  refine wto 15 17 65535 rfl rfl rfl z (ov_lss rfl rfl) ?_
  refine wt 16 17 131071 rfl z (ov_pick_t rfl rfl) ?_
  refine wa_done (by kernel_rfl) ?_
  refine nx_then ?_
  refine gw_cond rfl (fun hh => ?_) (fun hh => ?_)
  ·have hlt : rfOrd ⟨x0, x1, x2⟩ ⟨y0, y1, y2⟩ < 0 := by simpa using hh
   clear hh
   refine gw_skip (nx_then (gw_seq (gw_block ?_)))
   have hlt2 : (rfLt) ⟨x0, x1, x2⟩ ⟨y0, y1, y2⟩ = true := decide_eq_true (show rfOrd ⟨x0, x1, x2⟩ ⟨y0, y1, y2⟩ < 0 from hlt)
   have hS2 := (sink_yes hx hy hlt2).symm.trans hS1
   refine gd (fun wz => True) mixed (fun _ _ => trivial) fun z => ?_
   refine wt 0 18 1 rfl z (ov_move rfl) ?_
   refine wt 1 18 3 rfl z (ov_move rfl) ?_
   refine wt 2 18 7 rfl z (ov_move rfl) ?_
   refine wt 3 18 15 rfl z (ov_move rfl) ?_
   refine wt 4 18 31 rfl z (ov_sub rfl rfl (by omega) (by omega)) ?_
   refine wa_set 41 (v' := .int .i64 ((j : Nat) : Int)) rfl (congrArg (Value.int .i64) (by omega)) ?_
   refine wt 5 18 63 rfl z (ov_move rfl) ?_
   refine wt 6 18 127 rfl z (ov_move rfl) ?_
   refine wt 7 18 255 rfl z (ov_sub rfl rfl (by omega) (by omega)) ?_
   refine wa_set 44 (v' := .int .i64 ((j : Nat) : Int)) rfl (congrArg (Value.int .i64) (by omega)) ?_
   refine wt 8 18 511 rfl z (ov_index (j := j) es60 rfl rfl (by omega)) ?_
   refine wt 10 18 1535 rfl z (ov_move rfl) ?_
   refine wt 11 18 3583 rfl z (ov_move rfl) ?_
   refine wt 12 18 7679 rfl z (ov_index (j := (j + 1)) es60 rfl rfl (by omega)) ?_
   refine wa_all [9, 13] (by kernel_rfl) rfl ⟨⟨_, rfl, ?_⟩, ⟨_, rfl, ?_⟩, trivial⟩
   ·refine wl_ov (ov_elem (vs := [.int .i64 y0, .string y1, .string y2]) rz162 rfl (fun _ hm => (RowK.get hm.k pl_len hm1)) hy rfl rfl) rfl ?_
    refine wl_nil ?_
    refine nw 18 8191 (fun _ _ => trivial) fun z => ?_
    refine wa1 13 rfl ?_
    refine wl_ov (ov_elem (vs := [.int .i64 x0, .string x1, .string x2]) rz162 rfl (fun _ hm => (RowK.get hm.k pl_len hm1)) hx rfl rfl) rfl ?_
    refine wl_nil ?_
    refine nw 18 16383 (fun _ _ => trivial) fun z => ?_
    refine wt 14 18 32767 rfl z (ov_index (j := (j + 1)) es60 rfl rfl (by omega)) ?_
    refine wa1 15 rfl ?_
    refine wl_storesRow (l := m) (j := j + 1) (r := 0) (el := ⟨x0, x1, x2⟩) (el' := ⟨y0, y1, y2⟩) rfl rz162 rfl rfl rfl rfl pl_len rfl hx hm1 (by decide) rfl rfl ?_
    refine wl_nil ?_
    refine nw 18 65535 (fun _ _ => trivial) fun z => ?_
    refine wt 16 18 131071 rfl z (ov_index (j := j) es60 rfl rfl (by omega)) ?_
    refine wa1 17 rfl ?_
    refine wl_storesRow (l := m.set (j + 1) ⟨y0, y1, y2⟩) (j := j) (r := 0) (el := ⟨y0, y1, y2⟩) (el' := ⟨x0, x1, x2⟩) rfl rz162 rfl rfl rfl rfl pl_len rfl (by rw [List.getElem?_set_ne (by omega)]; exact hy) (by rw [List.length_set]; exact hm1) (by decide) rfl rfl ?_
    refine wl_nil ?_
    refine nw 18 262143 (fun _ _ => trivial) fun z => ?_
    refine wa_done (by kernel_rfl) ?_
    refine nx_blk_nrm (nx_then (gw_region (mv_ rfl ?_)))
    refine wl_ov (ov_sub rfl rfl (by omega) (by omega)) rfl ?_
    refine wl_set 36 (v' := .int .i64 ((j : Nat) : Int)) rfl (congrArg (Value.int .i64) (by omega)) ?_
    refine sg_ rfl (wl_nil ?_)
    exact nx_round (j, (m.set (j + 1) ⟨y0, y1, y2⟩).set j ⟨x0, x1, x2⟩) ⟨by dsimp only; omega, by simp [hm1], hS2⟩ (by dsimp only; omega) ⟨rfl, rfl, rfl, rfl, rfl, (some_int (by omega)), trivial⟩ (fun _ hm => hm.pick [] [] [] rfl rfl)
   refine wl_ov (ov_elem (vs := [.int .i64 x0, .string x1, .string x2]) rz162 rfl (fun _ hm => (RowK.get hm.k pl_len hm1)) hx rfl rfl) rfl ?_
   refine wl_nil ?_
   refine nw 18 15871 (fun _ _ => trivial) fun z => ?_
   refine wa1 9 rfl ?_
   refine wl_ov (ov_elem (vs := [.int .i64 y0, .string y1, .string y2]) rz162 rfl (fun _ hm => (RowK.get hm.k pl_len hm1)) hy rfl rfl) rfl ?_
   refine wl_nil ?_
   refine nw 18 16383 (fun _ _ => trivial) fun z => ?_
   refine wt 14 18 32767 rfl z (ov_index (j := (j + 1)) es60 rfl rfl (by omega)) ?_
   refine wa1 15 rfl ?_
   refine wl_storesRow (l := m) (j := j + 1) (r := 0) (el := ⟨x0, x1, x2⟩) (el' := ⟨y0, y1, y2⟩) rfl rz162 rfl rfl rfl rfl pl_len rfl hx hm1 (by decide) rfl rfl ?_
   refine wl_nil ?_
   refine nw 18 65535 (fun _ _ => trivial) fun z => ?_
   refine wt 16 18 131071 rfl z (ov_index (j := j) es60 rfl rfl (by omega)) ?_
   refine wa1 17 rfl ?_
   refine wl_storesRow (l := m.set (j + 1) ⟨y0, y1, y2⟩) (j := j) (r := 0) (el := ⟨y0, y1, y2⟩) (el' := ⟨x0, x1, x2⟩) rfl rz162 rfl rfl rfl rfl pl_len rfl (by rw [List.getElem?_set_ne (by omega)]; exact hy) (by rw [List.length_set]; exact hm1) (by decide) rfl rfl ?_
   refine wl_nil ?_
   refine nw 18 262143 (fun _ _ => trivial) fun z => ?_
   refine wa_done (by kernel_rfl) ?_
   refine nx_blk_nrm (nx_then (gw_region (mv_ rfl ?_)))
   refine wl_ov (ov_sub rfl rfl (by omega) (by omega)) rfl ?_
   refine wl_set 36 (v' := .int .i64 ((j : Nat) : Int)) rfl (congrArg (Value.int .i64) (by omega)) ?_
   refine sg_ rfl (wl_nil ?_)
   exact nx_round (j, (m.set (j + 1) ⟨y0, y1, y2⟩).set j ⟨x0, x1, x2⟩) ⟨by dsimp only; omega, by simp [hm1], hS2⟩ (by dsimp only; omega) ⟨rfl, rfl, rfl, rfl, rfl, (some_int (by omega)), trivial⟩ (fun _ hm => hm.pick [] [] [] rfl rfl)
  have hlt : ¬ (rfOrd ⟨x0, x1, x2⟩ ⟨y0, y1, y2⟩ < 0) := by simpa using hh
  clear hh
  refine gw_exit ?_
  refine nx_then_exit (nx_then_exit ?_)
  refine nx_blk_here ?_
  refine nx_blk_nrm (nx_then (gw_region ?_))
  have hlt2 : (rfLt) ⟨x0, x1, x2⟩ ⟨y0, y1, y2⟩ = false := decide_eq_false (show ¬ rfOrd ⟨x0, x1, x2⟩ ⟨y0, y1, y2⟩ < 0 from hlt)
  have hS2 := (sink_no hx hy hlt2).symm.trans hS1
  refine mv_ rfl (ad_ rfl rfl (sg_ rfl (wl_nil ?_)))
  have hm2 : m = S := hS2
  exact nx_round (i + 1, m) ⟨⟨by dsimp only; omega, by dsimp only; omega⟩, by rw [hm2]; exact hSl, by rw [hm2]; exact hRi⟩ (by dsimp only; omega) ⟨rfl, rfl, rfl, rfl, (some_int (by omega)), trivial⟩ (fun _ hm => hm.pick [] [] [] rfl rfl)
 have hi : ¬ (((i : Nat) : Int) < ((n : Nat) : Int)) := by simpa using hh
 clear hh
 refine gw_exit ?_
 refine nx_then_exit (nx_then_exit ?_)
 refine nx_blk_here ?_
 obtain rfl : l = R := by rw [<- hR1, show n - i = 0 by omega]; rfl
 refine nx_ret0 rfl fun wx hm => ?_
 exact ⟨rfl, fin_row hm.k hm.g⟩
theorem pdq_rf  (l0 : List Pl) (br n cap base : Nat) (lim : Int) (w : World) (h : w.ownsRow base 162 3 (.slice (some ⟨br, 0, none⟩) n cap) n (l0.flatMap plEnc)) (hl0 : l0.length = n) (hn : n <= 12) (hall : ∀ x ∈ l0, PlB x) :
  Calls Tryz.prog 194 #[.slice (some ⟨br, 0, none⟩) n cap, .int .i64 0, .int .i64 ((n : Nat) : Int), .int .i64 lim, .func (.func 100) #[] #[]] w (fun e w' => e = .returned (.tuple #[]) /\ w'.ownsRow base 162 3 (.slice (some ⟨br, 0, none⟩) n cap) n ((isort (rfLt) l0).flatMap plEnc) /\ w.grownBy w' (some br)) := by
 refine gw_enter ⟨148, w, (some br), []⟩ Tryz.func194 rfl Tryz.ntmps194 rfl (memR (X := []) h allF_nil allL_nil) ?_
 refine sr_ (sg_ rfl (nn_ (sr_ (sg_ rfl (nn_ (gw_block ?_))))))
 refine gw_rounds 1 ?_
 refine gr_next ?_
 refine gw_block (sr_ (mv_ rfl (mv_ rfl ?_)))
 refine wl_ov (ov_sub rfl rfl (by omega) (by omega)) rfl ?_
 refine sg_ rfl (nn_ (gw_seq (sr_ (mv_ rfl (wl_ov (ov_leq rfl rfl) rfl ?_)))))
 refine wl_set 25 (v' := .bool true) rfl (congrArg Value.bool (decide_eq_true (by omega))) ?_
 refine nn_ (ct_ rfl (sr_ (mv_ rfl (mv_ rfl (mv_ rfl (mv_ rfl ?_))))))
 refine wl_callK rfl rfl rfl cb254 rfl rfl (fun wx hm => (ins_rf  l0 br n cap base wx hm.k hl0 (by omega) hall)) ?_
 refine nn_ ?_
 refine gw_ret ?_
 refine nx_then_ret (nx_blk_ret (nx_then_ret (nx_blk_ret ?_)))
 refine nx_ret0' rfl fun wx hm => ?_
 exact ⟨rfl, fin_row hm.k hm.g⟩
theorem sort_rf  (l0 : List Pl) (br n cap base : Nat) (w : World) (h : w.ownsRow base 162 3 (.slice (some ⟨br, 0, none⟩) n cap) n (l0.flatMap plEnc)) (hl0 : l0.length = n) (hn : n <= 12) (hall : ∀ x ∈ l0, PlB x) :
  Calls Tryz.prog 99 #[.slice (some ⟨br, 0, none⟩) n cap, .func (.func 100) #[] #[]] w (fun e w' => e = .returned (.tuple #[]) /\ w'.ownsRow base 162 3 (.slice (some ⟨br, 0, none⟩) n cap) n ((isort (rfLt) l0).flatMap plEnc) /\ w.grownBy w' (some br)) := by
 refine gw_enter ⟨14, w, (some br), []⟩ Tryz.func99 rfl Tryz.ntmps99 rfl (memR (X := []) h allF_nil allL_nil) ?_
 refine sr_ (mv_ rfl (wl_ov (ov_len es60 rfl) rfl (sg_ rfl (nn_ (gw_region (mv_ rfl (mv_ rfl (mv_ rfl ?_))))))))
 refine wl_ov (ov_u64 (a := n) (by kernel_rfl) (by kernel_rfl) rfl (by omega)) rfl ?_
 refine wl_callx (γ := Int) (val := (fun g => .int .i64 g)) (φ := (fun g => True)) (Y := (fun g => fun _ => True)) rfl cb195 rfl rfl (fun wx hm => (bitsLen_any n wx (by omega)).mono fun _ _ ⟨v, he, hg⟩ => ⟨v, he, trivial, hg, trivial⟩) (fun _ => Lasts2.true_) ?_
 rintro lim hphi
 clear hphi
 refine mv_ rfl ?_
 refine wl_callK rfl rfl rfl cb194 rfl rfl (fun wx hm => (pdq_rf  l0 br n cap base _ wx hm.k hl0 hn hall)) ?_
 refine wl_nil ?_
 refine nx_ret0 rfl fun wx hm => ?_
 exact ⟨rfl, fin_row hm.k hm.g⟩
def VhB (x : Vh) : Prop := x.key.size <= 1000 /\ x.cls.size <= 1000000
theorem vhB_ok {x : Vh} (h : VhB x) : VhOk x := ⟨by have := h.1; omega, h.2⟩
def RfOk (sl : List St) (cl : List Cs) (vl : List Vh) (pl : List Pl) (sn vn pn : Nat) : Prop := (sl.length = sn /\ (∀ x ∈ sl, StB x) /\ (1 <= sn /\ sn <= 3)) /\ (cl.length = 4 /\ ∀ x ∈ cl, CsOk x) /\ (vl.length = vn /\ (∀ x ∈ vl, VhB x) /\ vn <= 4) /\ pl.length = pn /\ (∀ x ∈ pl, PlB x) /\ pn <= 5
theorem rightFleet_anyF (w : World) (B sb m : Nat) (hS : Strm 25 w B sb m) (hm : m <= 100000000) :
  Calls Tryz.prog 24 #[.pointer (some ⟨sb, 0, none⟩)] w (fun e w' => ∃ (sA cA vA pA : Option Addr) (sn sc cc vn vc pn pc : Nat) (sl : List St) (cl : List Cs) (vl : List Vh) (pl : List Pl), e = .returned (.agg #[.slice sA sn sc, .slice cA 4 cc, .slice vA vn vc, .slice pA pn pc]) /\ (RfOk sl cl vl pl sn vn pn /\ fleetE sl cl vl pl = 0) /\ Strm 25 w' B sb (m + 300) /\ w.grownBy w' (some sb) /\ w'.ownsRow w.heap.size 152 15 (.slice sA sn sc) sn (sl.flatMap stEnc) /\ w'.ownsRow w.heap.size 160 2 (.slice vA vn vc) vn (vl.flatMap vhEnc) /\ w'.ownsRow w.heap.size 162 3 (.slice pA pn pc) pn (pl.flatMap plEnc) /\ SlT csEnc 2 158 w' cA 4 cl) := by
 refine gw_enter ⟨90, w, (some sb), [158]⟩ Tryz.func24 rfl Tryz.ntmps24 rfl (memS (X := []) hS allF_nil allL_nil) ?_
 refine sr_ ?_
 refine wl_alloc zc62 rfl fun g1 => ?_
 refine nn_ (sr_ (mv_ rfl ?_))
 refine wl_callgs (γ := Option Addr × Nat × Nat × List St) (val := (fun g => .slice g.1 g.2.1 g.2.2.1)) (φ := (fun g => g.2.2.2.length = g.2.1 /\ (∀ x ∈ g.2.2.2, StB x) /\ g.2.1 <= 3 /\ stationsE g.2.2.2 = 0)) (m' := m + 100) (fun g => ⟨.slice g.1 g.2.1 g.2.2.1, 152, 15, g.2.1, g.2.2.2.flatMap stEnc⟩) rfl cb97 rfl rfl rfl rfl (fun wx hm => (gstations_anyF wx B sb _ hm.k (by omega)).mono fun _ _ ⟨A, n, c, l, he, ho, ⟨hl, hz⟩, hok, hn, hS, hg⟩ => ⟨(A, n, c, l), he, ⟨hl, hok, hn, hz⟩, hS, hg, ho⟩) ?_
 rintro ⟨sA0, sn0, sc0, sl0⟩ hphi
 dsimp only at hphi ⊢
 obtain ⟨hsl0, hsB0, hs30, hsz0⟩ := hphi
 refine mv_ rfl ?_
 refine wl_calls (γ := Option Addr × Nat × List Cs) (val := (fun g => .slice g.1 4 g.2.1)) (φ := (fun g => g.2.2.length = 4 /\ (∀ x ∈ g.2.2, CsOk x) /\ classesE g.2.2 = 0)) (Y := (fun g => fun wy => SlT csEnc 2 158 wy g.1 4 g.2.2)) (m' := m + 100 + 20) rfl cb56 rfl rfl rfl rfl (fun wx hm => (gclasses_anyF wx B sb _ hm.k (by omega)).mono fun _ _ ⟨A, c, l, he, ho, ⟨hl, hz⟩, hok, hS, hg⟩ => ⟨(A, c, l), he, ⟨hl, hok, hz⟩, hS, hg, SlT.ofOwn cs_len ho hl⟩) (fun _ => SlT.lasts2 rfl) ?_
 rintro ⟨cA, cc, cl⟩ hphi
 dsimp only at hphi ⊢
 obtain ⟨hcl4, hcok, hcz⟩ := hphi
 refine wl_ov (ov_build (cs := [.slice sA0 sn0 sc0, .slice cA 4 cc, .slice none 0 0, .slice none 0 0]) rfl (by kernel_rfl)) rfl ?_
 refine wl_alloc zc62 rfl fun g2 => ?_
 refine wl_stores (cs' := [.slice sA0 sn0 sc0, .slice cA 4 cc, .slice none 0 0, .slice none 0 0]) 0 rz62 rfl rfl rfl rfl rfl rfl rfl rfl ?_
 refine nn_ ?_
 refine gw_cut (γ := Option Addr × Nat × Nat × List St) (I := (fun g => g.2.2.2.length = g.2.1 /\ (∀ x ∈ g.2.2.2, StB x) /\ (1 <= g.2.1 /\ g.2.1 <= 3) /\ stationsE g.2.2.2 = 0)) (S' := (fun g => [(0, .pointer (some ⟨sb, 0, none⟩)), (2, .pointer (some ⟨g1, 0, none⟩)), (3, .pointer (some ⟨g2, 0, none⟩))])) (K' := (fun g => fun w => Strm 25 w B sb (m + 120))) (L' := (fun g => [(g2, 62, [.slice g.1 g.2.1 g.2.2.1, .slice cA 4 cc, .slice none 0 0, .slice none 0 0]), (g1, 62, [.slice none 0 0, .slice none 0 0, .slice none 0 0, .slice none 0 0])])) (O' := (fun g => [⟨.slice g.1 g.2.1 g.2.2.1, 152, 15, g.2.1, g.2.2.2.flatMap stEnc⟩])) (X' := (fun g => [fun wy => SlT csEnc 2 158 wy cA 4 cl])) ?_ ?_
 ·refine sr_ (fd_ fo62_0 rfl rfl (lk_ sc57 0 rfl rfl rfl (wl_ov (ov_len es57 rfl) rfl (wl_ov (ov_eql rfl rfl) rfl (nn_ ?_)))))
  refine gw_cond rfl (fun hh => ?_) (fun hh => ?_)
  ·have h0 : ((sn0 : Nat) : Int) = 0 := by simpa using hh
   clear hh
   refine gw_region ?_
   refine wl_ov (ov_build (cs := [.string ⟨#[115, 49]⟩, .int .i64 0, .int .i64 0, .int .i64 0, .int .i64 0, .int .i64 0, .int .i64 0, .int .i64 0, .int .i64 0, .int .i64 0, .int .i64 0, .int .i64 0, .int .i64 0, .int .i64 0, .int .i64 0]) rfl (by kernel_rfl)) rfl ?_
   refine wl_buildSlice (e := 152) (cs := [.string ⟨#[115, 49]⟩, .int .i64 0, .int .i64 0, .int .i64 0, .int .i64 0, .int .i64 0, .int .i64 0, .int .i64 0, .int .i64 0, .int .i64 0, .int .i64 0, .int .i64 0, .int .i64 0, .int .i64 0, .int .i64 0]) rfl (by kernel_rfl) rfl fun g3 => ?_
   refine fd_ fo62_0 rfl rfl ?_
   refine wl_store 1 sc57 rfl rfl rfl rfl rfl rfl ?_
   refine wl_nil ?_
   refine nx_toOwn (sz := 15) (n := 1) 0 [1, 2] rfl rfl rfl (by unfold maxLen; omega) ?_
   exact nx_meet ((some ⟨g3, 0, none⟩), 1, 1, [⟨⟨#[115, 49]⟩, [0, 0, 0, 0, 0, 0, 0, 0, 0, 0, 0, 0, 0, 0]⟩]) ⟨rfl, (fun x hx => List.mem_singleton.1 hx ▸ s1_ok), ⟨by dsimp only; decide, by dsimp only; decide⟩, s1_right⟩ ⟨rfl, rfl, rfl, trivial⟩ (fun _ hm => (hm.more rfl (by first | omega | (dsimp only; omega))).pick [0, 1] [0] [0] rfl rfl)
  have h0 : ¬ (((sn0 : Nat) : Int) = 0) := by simpa using hh
  clear hh
  refine gw_skip ?_
  exact nx_meet (sA0, sn0, sc0, sl0) ⟨hsl0, hsB0, ⟨by dsimp only; omega, by dsimp only; omega⟩, hsz0⟩ ⟨rfl, rfl, rfl, trivial⟩ (fun _ hm => (hm.more rfl (by first | omega | (dsimp only; omega))).pick [0, 1] [0] [0] rfl rfl)
 rintro ⟨sA, sn, sc, sl⟩ hinv
 replace hinv : sl.length = sn /\ (∀ x ∈ sl, StB x) /\ (1 <= sn /\ sn <= 3) /\ stationsE sl = 0 := hinv
 dsimp only
 refine gw_seq (sr_ ?_)
 obtain ⟨hsl, hsB, ⟨hs1, hs3⟩, hsz⟩ := hinv
 refine wl_nilOwn 160 2 ?_
 refine wl_buildSlice (e := 9) (cs := [.string ⟨#[118, 49]⟩, .string ⟨#[118, 50]⟩, .string ⟨#[118, 51]⟩, .string ⟨#[118, 52]⟩]) rfl (by kernel_rfl) rfl fun g4 => ?_
 refine wl_ov (ov_len es103 rfl) rfl ?_
 refine wl_set 22 (v' := .int .i64 4) rfl rfl ?_
 refine mv_ rfl (nn_ (gw_block ?_))
 refine gw_loop (γ := Nat × Nat × Option Addr × Nat × List Vh) (fun g => g.1 <= 4 /\ g.2.1 <= g.1 /\ g.2.2.2.2.length = g.2.1 /\ (∀ x ∈ g.2.2.2.2, VhB x) /\ VhG cl g.1 g.2.2.2.2) (fun g => [(0, .pointer (some ⟨sb, 0, none⟩)), (2, .pointer (some ⟨g1, 0, none⟩)), (3, .pointer (some ⟨g2, 0, none⟩)), (21, .slice (some ⟨g4, 0, none⟩) 4 4), (22, .int .i64 4), (23, .int .i64 ((g.1 : Nat) : Int))]) (fun g => fun w => Strm 25 w B sb (m + 120 + 2 * g.1)) (fun g => [(g2, 62, [.slice sA sn sc, .slice cA 4 cc, .slice g.2.2.1 g.2.1 g.2.2.2.1, .slice none 0 0]), (g4, 9, [.string ⟨#[118, 49]⟩, .string ⟨#[118, 50]⟩, .string ⟨#[118, 51]⟩, .string ⟨#[118, 52]⟩]), (g1, 62, [.slice none 0 0, .slice none 0 0, .slice none 0 0, .slice none 0 0])]) (fun g => [⟨.slice g.2.2.1 g.2.1 g.2.2.2.1, 160, 2, g.2.1, g.2.2.2.2.flatMap vhEnc⟩, ⟨.slice sA sn sc, 152, 15, sn, sl.flatMap stEnc⟩]) (fun g => [fun wy => SlT csEnc 2 158 wy cA 4 cl]) (fun g => 4 - g.1) (0, 0, none, 0, []) ⟨Nat.zero_le _, Nat.le_refl _, rfl, (fun _ h => by cases h), vhG_nil⟩ ⟨rfl, rfl, rfl, rfl, rfl, rfl, trivial⟩ (fun _ hm => (hm.more rfl (by first | omega | (dsimp only; omega))).pick [1, 0, 2] [0, 1] [0] rfl rfl) ?_
 rintro ⟨i, k, vA, vc, vl⟩ hinv
 replace hinv : i <= 4 /\ k <= i /\ vl.length = k /\ (∀ x ∈ vl, VhB x) /\ VhG cl i vl := hinv
 dsimp only
 refine sr_ ?_
 obtain ⟨hi0, hki, hvl, hvB, hvg⟩ := hinv
 refine wl_ov (ov_lss rfl rfl) rfl (nn_ (gw_seq ?_))
 refine gw_cond rfl (fun hh => ?_) (fun hh => ?_)
 ·have hi : ((i : Nat) : Int) < 4 := by simpa using hh
  clear hh
  refine gw_skip (nx_then (gw_seq (gw_block (sr_ ?_))))
  obtain ⟨nm, hx⟩ : ∃ x, ([⟨#[118, 49]⟩, ⟨#[118, 50]⟩, ⟨#[118, 51]⟩, ⟨#[118, 52]⟩] : List ByteArray)[i]? = some x := ⟨_, List.getElem?_eq_getElem (by simp; omega)⟩
  have hnm : nm.size <= 100 := mem_sz (List.mem_of_getElem? hx) (by decide)
  refine wl_ov (ov_index (j := i) es103 rfl rfl (by omega)) rfl ?_
  refine wl_ov (ov_elem1 (k := 0) (v := .string nm) sc9 rfl (fun _ hm => (SlT.ofBlk (l := [⟨#[118, 49]⟩, ⟨#[118, 50]⟩, ⟨#[118, 51]⟩, ⟨#[118, 52]⟩]) sg_len (hm.blkI 1 rfl))) hx rfl rfl) rfl ?_
  refine sg_ rfl (nn_ (sr_ (mv_ rfl ?_)))
  refine wl_got (γ := Bool) (val := fun v => .bool v) (φ := fun v => True) rfl cb64 rfl rfl rfl rfl (fun wx hm => ((flip_any _ wx B sb _ hm.k (by omega) (by omega) (by omega)).mono fun _ _ ⟨v, he, hS, hg⟩ => ⟨v, trivial, he, hS, hg⟩)) fun f5 _ => ?_
  refine wl_ov (ov_un_not rfl) rfl (nn_ ?_)
  refine gw_cond rfl (fun hh => ?_) (fun hh => ?_)
  ·have hf : f5 = false := by simpa using hh
   clear hh
   have hcl0 : 0 < cl.length := by omega
   refine gw_look (R := ∃ bc oc, cA = some ⟨bc, oc, none⟩) (fun wx hm => by obtain ⟨b, off, hA, _, _⟩ := SlT.get (hm.fact 0 rfl) (by omega); exact ⟨b, off, hA⟩) ?_
   rintro ⟨bc, oc, rfl⟩
   refine gd (fun wz => Blk wz g4 9 [.string ⟨#[118, 49]⟩, .string ⟨#[118, 50]⟩, .string ⟨#[118, 51]⟩, .string ⟨#[118, 52]⟩] /\ Blk wz g1 62 [.slice none 0 0, .slice none 0 0, .slice none 0 0, .slice none 0 0] /\ (fun wy => SlT csEnc 2 158 wy (some ⟨bc, oc, none⟩) 4 cl) wz /\ True) mixed (fun _ hm => ⟨hm.bl 1, hm.bl 2, hm.fa 0, trivial⟩) fun z => ?_
   refine wt 0 18 1 rfl z (ov_field fo62_2 rfl rfl) ?_
   refine wt 2 18 5 rfl z (ov_move rfl) ?_
   refine wt 3 18 13 rfl z (ov_field fo62_1 rfl rfl) ?_
   refine wt 5 18 45 rfl z (ov_move rfl) ?_
   refine wt 6 18 109 rfl z (ov_field fo62_1 rfl rfl) ?_
   refine wa_open fun W hW => ?_
   have T127 : W 11 (lb 18 127) [(0, .pointer (some ⟨sb, 0, none⟩)), (2, .pointer (some ⟨g1, 0, none⟩)), (3, .pointer (some ⟨g2, 0, none⟩)), (21, .slice (some ⟨g4, 0, none⟩) 4 4), (22, .int .i64 4), (23, .int .i64 ((i : Nat) : Int)), (31, .slice vA k vc), (32, .string nm), (34, .slice (some ⟨bc, oc, none⟩) 4 cc), (35, .pointer (some ⟨sb, 0, none⟩)), (36, .pointer (some ⟨g2, 1, none⟩))] (fun w => Strm 25 w B sb (m + 120 + 2 * i + 1)) [(g1, 62, [.slice none 0 0, .slice none 0 0, .slice none 0 0, .slice none 0 0]), (g2, 62, [.slice sA sn sc, .slice (some ⟨bc, oc, none⟩) 4 cc, .slice vA k vc, .slice none 0 0]), (g4, 9, [.string ⟨#[118, 49]⟩, .string ⟨#[118, 50]⟩, .string ⟨#[118, 51]⟩, .string ⟨#[118, 52]⟩])] [⟨.slice vA k vc, 160, 2, k, vl.flatMap vhEnc⟩, ⟨.slice sA sn sc, 152, 15, sn, sl.flatMap stEnc⟩] [fun wy => SlT csEnc 2 158 wy (some ⟨bc, oc, none⟩) 4 cl] := by
    skip
    rw [hW]
    refine wa1 7 rfl ?_
    refine lk_ sc58 1 rfl rfl rfl (wl_nil ?_)
    refine nw 18 255 (fun _ hm => ⟨hm.bl 2, hm.bl 0, hm.fa 0, trivial⟩) fun z => ?_
    refine wt 8 18 511 rfl z (ov_len es58 rfl) ?_
    refine wa_set 38 (v' := .int .i64 4) rfl rfl ?_
    refine wa1 9 rfl ?_
    refine wl_got (γ := Int) (val := fun v => .int .i64 v) (φ := fun v => IsBelow 4 v) rfl cb66 rfl rfl rfl rfl (fun wx hm => (next_any _ wx B sb _ hm.k (by omega) (by omega) (by omega))) fun vj hvj => ?_
    have hj := isBelow_lt hvj (by omega)
    obtain ⟨j, rfl⟩ := Int.eq_ofNat_of_zero_le hj.1
    have hji : j < 4 := by omega
    obtain ⟨q, hq⟩ : ∃ q, cl[j]? = some q := ⟨_, List.getElem?_eq_getElem (by omega)⟩
    obtain ⟨u0, u1⟩ := q
    obtain ⟨hq0, hq1⟩ := hcok _ (List.mem_of_getElem? hq)
    have hq0 : u0.size <= 1000000 := hq0
    refine wl_nil ?_
    refine nw 18 1023 (fun _ hm => ⟨hm.bl 2, hm.bl 0, hm.fa 0, trivial⟩) fun z => ?_
    refine wt 10 18 2047 rfl z (ov_index (j := j) es58 rfl rfl (by omega)) ?_
    refine wt 11 18 4095 rfl z (ov_field fo158_0 rfl rfl) ?_
    refine wt 12 18 8191 rfl z (ov_elem1 (k := 0) (v := .string u0) sc9 rfl (fun _ hm => (hm.2.2.1)) hq rfl rfl) ?_
    refine wt 13 18 16383 rfl z (ov_build (cs := [.string nm, .string u0]) rfl (by kernel_rfl)) ?_
    refine wa1 14 rfl ?_
    refine wl_buildSlice (e := 160) (cs := [.string nm, .string u0]) rfl (by kernel_rfl) rfl fun g6 => ?_
    refine wl_nil ?_
    refine nw 18 32767 (fun _ hm => ⟨hm.bl 3, hm.bl 1, hm.fa 0, trivial⟩) fun z => ?_
    refine wa1 15 rfl ?_
    refine wl_append (news := [.string nm, .string u0]) 0 0 ap59 rfl rfl rfl rfl rfl rfl rfl (by omega) (by unfold maxLen; omega) rfl rfl fun v2 hv2 => ?_
    refine wl_look (R := ∃ A cc, v2 = .slice A (k + 1) cc) (fun wx hm => own_slice (hm.ownI 0 rfl)) ?_
    rintro ⟨vA2, vc2, rfl⟩
    refine wl_nil ?_
    refine nw 18 65535 (fun _ hm => ⟨hm.bl 3, hm.bl 1, hm.fa 0, trivial⟩) fun z => ?_
    refine wt 16 18 131071 rfl z (ov_field fo62_2 rfl rfl) ?_
    refine wa1 17 rfl ?_
    refine wl_store 2 sc59 rfl rfl rfl rfl rfl rfl ?_
    refine wl_nil ?_
    refine nw 18 262143 (fun _ hm => ⟨hm.bl 3, hm.bl 1, hm.fa 0, trivial⟩) fun z => ?_
    refine wa_done (by kernel_rfl) ?_
    refine nx_blk_nrm (nx_then (gw_region (ad_ rfl rfl (mv_ rfl (wl_nil ?_)))))
    have hxs : vl.flatMap vhEnc ++ ([.string nm, .string u0] : List Value) = (vl ++ [(⟨nm, u0⟩ : Vh)]).flatMap vhEnc := by simp [vhEnc]
    rw [hxs]
    exact nx_round (i + 1, k + 1, vA2, vc2, vl ++ [(⟨nm, u0⟩ : Vh)]) ⟨by dsimp only; omega, by dsimp only; omega, by simp [hvl], all_snoc hvB ⟨(show nm.size <= 1000 by omega), hq0⟩, vhG_snoc hvg hx hq⟩ (by dsimp only; omega) ⟨rfl, rfl, rfl, rfl, rfl, (some_int (by omega)), trivial⟩ (fun _ hm => (hm.more rfl (by first | omega | (dsimp only; omega))).pick [2, 3, 1] [0, 1] [0] rfl rfl)
   have T511 : W 9 (lb 18 511) [(0, .pointer (some ⟨sb, 0, none⟩)), (2, .pointer (some ⟨g1, 0, none⟩)), (3, .pointer (some ⟨g2, 0, none⟩)), (21, .slice (some ⟨g4, 0, none⟩) 4 4), (22, .int .i64 4), (23, .int .i64 ((i : Nat) : Int)), (31, .slice vA k vc), (32, .string nm), (34, .slice (some ⟨bc, oc, none⟩) 4 cc), (35, .pointer (some ⟨sb, 0, none⟩)), (38, .int .i64 4)] (fun w => Strm 25 w B sb (m + 120 + 2 * i + 1)) [(g1, 62, [.slice none 0 0, .slice none 0 0, .slice none 0 0, .slice none 0 0]), (g2, 62, [.slice sA sn sc, .slice (some ⟨bc, oc, none⟩) 4 cc, .slice vA k vc, .slice none 0 0]), (g4, 9, [.string ⟨#[118, 49]⟩, .string ⟨#[118, 50]⟩, .string ⟨#[118, 51]⟩, .string ⟨#[118, 52]⟩])] [⟨.slice vA k vc, 160, 2, k, vl.flatMap vhEnc⟩, ⟨.slice sA sn sc, 152, 15, sn, sl.flatMap stEnc⟩] [fun wy => SlT csEnc 2 158 wy (some ⟨bc, oc, none⟩) 4 cl] := by
    skip
    rw [hW]
    refine wa1 9 rfl ?_
    refine wl_got (γ := Int) (val := fun v => .int .i64 v) (φ := fun v => IsBelow 4 v) rfl cb66 rfl rfl rfl rfl (fun wx hm => (next_any _ wx B sb _ hm.k (by omega) (by omega) (by omega))) fun vj hvj => ?_
    have hj := isBelow_lt hvj (by omega)
    obtain ⟨j, rfl⟩ := Int.eq_ofNat_of_zero_le hj.1
    have hji : j < 4 := by omega
    obtain ⟨q, hq⟩ : ∃ q, cl[j]? = some q := ⟨_, List.getElem?_eq_getElem (by omega)⟩
    obtain ⟨u0, u1⟩ := q
    obtain ⟨hq0, hq1⟩ := hcok _ (List.mem_of_getElem? hq)
    have hq0 : u0.size <= 1000000 := hq0
    refine wl_nil ?_
    refine nw 18 1023 (fun _ hm => ⟨hm.bl 2, hm.bl 0, hm.fa 0, trivial⟩) fun z => ?_
    refine wt 10 18 2047 rfl z (ov_index (j := j) es58 rfl rfl (by omega)) ?_
    refine wt 11 18 4095 rfl z (ov_field fo158_0 rfl rfl) ?_
    refine wt 12 18 8191 rfl z (ov_elem1 (k := 0) (v := .string u0) sc9 rfl (fun _ hm => (hm.2.2.1)) hq rfl rfl) ?_
    refine wt 13 18 16383 rfl z (ov_build (cs := [.string nm, .string u0]) rfl (by kernel_rfl)) ?_
    refine wa1 14 rfl ?_
    refine wl_buildSlice (e := 160) (cs := [.string nm, .string u0]) rfl (by kernel_rfl) rfl fun g7 => ?_
    refine wl_nil ?_
    refine nw 18 32767 (fun _ hm => ⟨hm.bl 3, hm.bl 1, hm.fa 0, trivial⟩) fun z => ?_
    refine wa1 15 rfl ?_
    refine wl_append (news := [.string nm, .string u0]) 0 0 ap59 rfl rfl rfl rfl rfl rfl rfl (by omega) (by unfold maxLen; omega) rfl rfl fun v2 hv2 => ?_
    refine wl_look (R := ∃ A cc, v2 = .slice A (k + 1) cc) (fun wx hm => own_slice (hm.ownI 0 rfl)) ?_
    rintro ⟨vA2, vc2, rfl⟩
    refine wl_nil ?_
    refine nw 18 65535 (fun _ hm => ⟨hm.bl 3, hm.bl 1, hm.fa 0, trivial⟩) fun z => ?_
    refine wt 16 18 131071 rfl z (ov_field fo62_2 rfl rfl) ?_
    refine wa1 17 rfl ?_
    refine wl_store 2 sc59 rfl rfl rfl rfl rfl rfl ?_
    refine wl_nil ?_
    refine nw 18 262143 (fun _ hm => ⟨hm.bl 3, hm.bl 1, hm.fa 0, trivial⟩) fun z => ?_
    refine wa_done (by kernel_rfl) ?_
    refine nx_blk_nrm (nx_then (gw_region (ad_ rfl rfl (mv_ rfl (wl_nil ?_)))))
    have hxs : vl.flatMap vhEnc ++ ([.string nm, .string u0] : List Value) = (vl ++ [(⟨nm, u0⟩ : Vh)]).flatMap vhEnc := by simp [vhEnc]
    rw [hxs]
    exact nx_round (i + 1, k + 1, vA2, vc2, vl ++ [(⟨nm, u0⟩ : Vh)]) ⟨by dsimp only; omega, by dsimp only; omega, by simp [hvl], all_snoc hvB ⟨(show nm.size <= 1000 by omega), hq0⟩, vhG_snoc hvg hx hq⟩ (by dsimp only; omega) ⟨rfl, rfl, rfl, rfl, rfl, (some_int (by omega)), trivial⟩ (fun _ hm => (hm.more rfl (by first | omega | (dsimp only; omega))).pick [2, 3, 1] [0, 1] [0] rfl rfl)
   have T1007 : ∀ (j : Nat) (hji : j < 4) (u0 : ByteArray) (u1 : ByteArray) (hq : cl[j]? = some ⟨u0, u1⟩) (hq0 : u0.size <= 1000000), W 9 (lb 18 1007) [(0, .pointer (some ⟨sb, 0, none⟩)), (2, .pointer (some ⟨g1, 0, none⟩)), (3, .pointer (some ⟨g2, 0, none⟩)), (21, .slice (some ⟨g4, 0, none⟩) 4 4), (22, .int .i64 4), (23, .int .i64 ((i : Nat) : Int)), (31, .slice vA k vc), (32, .string nm), (33, .pointer (some ⟨g2, 1, none⟩)), (39, .int .i64 ((j : Nat) : Int))] (fun w => Strm 25 w B sb (m + 120 + 2 * i + 1 + 1)) [(g1, 62, [.slice none 0 0, .slice none 0 0, .slice none 0 0, .slice none 0 0]), (g2, 62, [.slice sA sn sc, .slice (some ⟨bc, oc, none⟩) 4 cc, .slice vA k vc, .slice none 0 0]), (g4, 9, [.string ⟨#[118, 49]⟩, .string ⟨#[118, 50]⟩, .string ⟨#[118, 51]⟩, .string ⟨#[118, 52]⟩])] [⟨.slice vA k vc, 160, 2, k, vl.flatMap vhEnc⟩, ⟨.slice sA sn sc, 152, 15, sn, sl.flatMap stEnc⟩] [fun wy => SlT csEnc 2 158 wy (some ⟨bc, oc, none⟩) 4 cl] := by
    intro j hji u0 u1 hq hq0
    rw [hW]
    refine wa1 4 rfl ?_
    refine lk_ sc58 1 rfl rfl rfl (wl_nil ?_)
    refine nw 18 1023 (fun _ hm => ⟨hm.bl 2, hm.bl 0, hm.fa 0, trivial⟩) fun z => ?_
    refine wt 10 18 2047 rfl z (ov_index (j := j) es58 rfl rfl (by omega)) ?_
    refine wt 11 18 4095 rfl z (ov_field fo158_0 rfl rfl) ?_
    refine wt 12 18 8191 rfl z (ov_elem1 (k := 0) (v := .string u0) sc9 rfl (fun _ hm => (hm.2.2.1)) hq rfl rfl) ?_
    refine wt 13 18 16383 rfl z (ov_build (cs := [.string nm, .string u0]) rfl (by kernel_rfl)) ?_
    refine wa1 14 rfl ?_
    refine wl_buildSlice (e := 160) (cs := [.string nm, .string u0]) rfl (by kernel_rfl) rfl fun g8 => ?_
    refine wl_nil ?_
    refine nw 18 32767 (fun _ hm => ⟨hm.bl 3, hm.bl 1, hm.fa 0, trivial⟩) fun z => ?_
    refine wa1 15 rfl ?_
    refine wl_append (news := [.string nm, .string u0]) 0 0 ap59 rfl rfl rfl rfl rfl rfl rfl (by omega) (by unfold maxLen; omega) rfl rfl fun v2 hv2 => ?_
    refine wl_look (R := ∃ A cc, v2 = .slice A (k + 1) cc) (fun wx hm => own_slice (hm.ownI 0 rfl)) ?_
    rintro ⟨vA2, vc2, rfl⟩
    refine wl_nil ?_
    refine nw 18 65535 (fun _ hm => ⟨hm.bl 3, hm.bl 1, hm.fa 0, trivial⟩) fun z => ?_
    refine wt 16 18 131071 rfl z (ov_field fo62_2 rfl rfl) ?_
    refine wa1 17 rfl ?_
    refine wl_store 2 sc59 rfl rfl rfl rfl rfl rfl ?_
    refine wl_nil ?_
    refine nw 18 262143 (fun _ hm => ⟨hm.bl 3, hm.bl 1, hm.fa 0, trivial⟩) fun z => ?_
    refine wa_done (by kernel_rfl) ?_
    refine nx_blk_nrm (nx_then (gw_region (ad_ rfl rfl (mv_ rfl (wl_nil ?_)))))
    have hxs : vl.flatMap vhEnc ++ ([.string nm, .string u0] : List Value) = (vl ++ [(⟨nm, u0⟩ : Vh)]).flatMap vhEnc := by simp [vhEnc]
    rw [hxs]
    exact nx_round (i + 1, k + 1, vA2, vc2, vl ++ [(⟨nm, u0⟩ : Vh)]) ⟨by dsimp only; omega, by dsimp only; omega, by simp [hvl], all_snoc hvB ⟨(show nm.size <= 1000 by omega), hq0⟩, vhG_snoc hvg hx hq⟩ (by dsimp only; omega) ⟨rfl, rfl, rfl, rfl, rfl, (some_int (by omega)), trivial⟩ (fun _ hm => (hm.more rfl (by first | omega | (dsimp only; omega))).pick [2, 3, 1] [0, 1] [0] rfl rfl)
   have J495 : W 10 (lb 18 495) [(0, .pointer (some ⟨sb, 0, none⟩)), (2, .pointer (some ⟨g1, 0, none⟩)), (3, .pointer (some ⟨g2, 0, none⟩)), (21, .slice (some ⟨g4, 0, none⟩) 4 4), (22, .int .i64 4), (23, .int .i64 ((i : Nat) : Int)), (31, .slice vA k vc), (32, .string nm), (33, .pointer (some ⟨g2, 1, none⟩)), (35, .pointer (some ⟨sb, 0, none⟩)), (38, .int .i64 4)] (fun w => Strm 25 w B sb (m + 120 + 2 * i + 1)) [(g1, 62, [.slice none 0 0, .slice none 0 0, .slice none 0 0, .slice none 0 0]), (g2, 62, [.slice sA sn sc, .slice (some ⟨bc, oc, none⟩) 4 cc, .slice vA k vc, .slice none 0 0]), (g4, 9, [.string ⟨#[118, 49]⟩, .string ⟨#[118, 50]⟩, .string ⟨#[118, 51]⟩, .string ⟨#[118, 52]⟩])] [⟨.slice vA k vc, 160, 2, k, vl.flatMap vhEnc⟩, ⟨.slice sA sn sc, 152, 15, sn, sl.flatMap stEnc⟩] [fun wy => SlT csEnc 2 158 wy (some ⟨bc, oc, none⟩) 4 cl] := by
    skip
    rw [hW]
    refine wa_all [4, 9] (by kernel_rfl) rfl ⟨⟨_, rfl, ?_⟩, ⟨_, rfl, ?_⟩, trivial⟩
    ·refine lk_ sc58 1 rfl rfl rfl (wl_nil ?_)
     refine nw 18 511 (fun _ hm => ⟨hm.bl 2, hm.bl 0, hm.fa 0, trivial⟩) fun z => ?_
     have h := T511 
     rw [hW] at h
     refine wa_weak ?_ ?_ h
     ·exact ⟨rfl, rfl, rfl, rfl, rfl, rfl, rfl, rfl, rfl, rfl, rfl, trivial⟩
     exact fun _ hm => hm.pick [0, 1, 2] [0, 1] [0] rfl rfl
    refine wl_got (γ := Int) (val := fun v => .int .i64 v) (φ := fun v => IsBelow 4 v) rfl cb66 rfl rfl rfl rfl (fun wx hm => (next_any _ wx B sb _ hm.k (by omega) (by omega) (by omega))) fun vj hvj => ?_
    have hj := isBelow_lt hvj (by omega)
    obtain ⟨j, rfl⟩ := Int.eq_ofNat_of_zero_le hj.1
    have hji : j < 4 := by omega
    obtain ⟨q, hq⟩ : ∃ q, cl[j]? = some q := ⟨_, List.getElem?_eq_getElem (by omega)⟩
    obtain ⟨u0, u1⟩ := q
    obtain ⟨hq0, hq1⟩ := hcok _ (List.mem_of_getElem? hq)
    have hq0 : u0.size <= 1000000 := hq0
    refine wl_nil ?_
    refine nw 18 1007 (fun _ hm => ⟨hm.bl 2, hm.bl 0, hm.fa 0, trivial⟩) fun z => ?_
    have h := T1007 j hji u0 u1 hq hq0
    rw [hW] at h
    refine wa_weak ?_ ?_ h
    ·exact ⟨rfl, rfl, rfl, rfl, rfl, rfl, rfl, rfl, rfl, rfl, trivial⟩
    exact fun _ hm => hm.pick [0, 1, 2] [0, 1] [0] rfl rfl
   have J111 : W 12 (lb 18 111) [(0, .pointer (some ⟨sb, 0, none⟩)), (2, .pointer (some ⟨g1, 0, none⟩)), (3, .pointer (some ⟨g2, 0, none⟩)), (21, .slice (some ⟨g4, 0, none⟩) 4 4), (22, .int .i64 4), (23, .int .i64 ((i : Nat) : Int)), (31, .slice vA k vc), (32, .string nm), (33, .pointer (some ⟨g2, 1, none⟩)), (35, .pointer (some ⟨sb, 0, none⟩)), (36, .pointer (some ⟨g2, 1, none⟩))] (fun w => Strm 25 w B sb (m + 120 + 2 * i + 1)) [(g1, 62, [.slice none 0 0, .slice none 0 0, .slice none 0 0, .slice none 0 0]), (g2, 62, [.slice sA sn sc, .slice (some ⟨bc, oc, none⟩) 4 cc, .slice vA k vc, .slice none 0 0]), (g4, 9, [.string ⟨#[118, 49]⟩, .string ⟨#[118, 50]⟩, .string ⟨#[118, 51]⟩, .string ⟨#[118, 52]⟩])] [⟨.slice vA k vc, 160, 2, k, vl.flatMap vhEnc⟩, ⟨.slice sA sn sc, 152, 15, sn, sl.flatMap stEnc⟩] [fun wy => SlT csEnc 2 158 wy (some ⟨bc, oc, none⟩) 4 cl] := by
    skip
    rw [hW]
    refine wa_all [4, 7] (by kernel_rfl) rfl ⟨⟨_, rfl, ?_⟩, ⟨_, rfl, ?_⟩, trivial⟩
    ·refine lk_ sc58 1 rfl rfl rfl (wl_nil ?_)
     refine nw 18 127 (fun _ hm => ⟨hm.bl 2, hm.bl 0, hm.fa 0, trivial⟩) fun z => ?_
     have h := T127 
     rw [hW] at h
     refine wa_weak ?_ ?_ h
     ·exact ⟨rfl, rfl, rfl, rfl, rfl, rfl, rfl, rfl, rfl, rfl, rfl, trivial⟩
     exact fun _ hm => hm.pick [0, 1, 2] [0, 1] [0] rfl rfl
    refine lk_ sc58 1 rfl rfl rfl (wl_nil ?_)
    refine nw 18 239 (fun _ hm => ⟨hm.bl 2, hm.bl 0, hm.fa 0, trivial⟩) fun z => ?_
    refine wt 8 18 495 rfl z (ov_len es58 rfl) ?_
    refine wa_set 38 (v' := .int .i64 4) rfl rfl ?_
    have h := J495 
    rw [hW] at h
    refine wa_weak ?_ ?_ h
    ·exact ⟨rfl, rfl, rfl, rfl, rfl, rfl, rfl, rfl, rfl, rfl, rfl, trivial⟩
    exact fun _ hm => hm.pick [0, 1, 2] [0, 1] [0] rfl rfl
   have T16383 : ∀ (j : Nat) (hji : j < 4) (u0 : ByteArray) (u1 : ByteArray) (hq : cl[j]? = some ⟨u0, u1⟩) (hq0 : u0.size <= 1000000), W 4 (lb 18 16383) [(0, .pointer (some ⟨sb, 0, none⟩)), (2, .pointer (some ⟨g1, 0, none⟩)), (3, .pointer (some ⟨g2, 0, none⟩)), (21, .slice (some ⟨g4, 0, none⟩) 4 4), (22, .int .i64 4), (23, .int .i64 ((i : Nat) : Int)), (31, .slice vA k vc), (43, .agg #[.string nm, .string u0])] (fun w => Strm 25 w B sb (m + 120 + 2 * i + 1 + 1)) [(g1, 62, [.slice none 0 0, .slice none 0 0, .slice none 0 0, .slice none 0 0]), (g2, 62, [.slice sA sn sc, .slice (some ⟨bc, oc, none⟩) 4 cc, .slice vA k vc, .slice none 0 0]), (g4, 9, [.string ⟨#[118, 49]⟩, .string ⟨#[118, 50]⟩, .string ⟨#[118, 51]⟩, .string ⟨#[118, 52]⟩])] [⟨.slice vA k vc, 160, 2, k, vl.flatMap vhEnc⟩, ⟨.slice sA sn sc, 152, 15, sn, sl.flatMap stEnc⟩] [fun wy => SlT csEnc 2 158 wy (some ⟨bc, oc, none⟩) 4 cl] := by
    intro j hji u0 u1 hq hq0
    rw [hW]
    refine wa1 14 rfl ?_
    refine wl_buildSlice (e := 160) (cs := [.string nm, .string u0]) rfl (by kernel_rfl) rfl fun g9 => ?_
    refine wl_nil ?_
    refine nw 18 32767 (fun _ hm => ⟨hm.bl 3, hm.bl 1, hm.fa 0, trivial⟩) fun z => ?_
    refine wa1 15 rfl ?_
    refine wl_append (news := [.string nm, .string u0]) 0 0 ap59 rfl rfl rfl rfl rfl rfl rfl (by omega) (by unfold maxLen; omega) rfl rfl fun v2 hv2 => ?_
    refine wl_look (R := ∃ A cc, v2 = .slice A (k + 1) cc) (fun wx hm => own_slice (hm.ownI 0 rfl)) ?_
    rintro ⟨vA2, vc2, rfl⟩
    refine wl_nil ?_
    refine nw 18 65535 (fun _ hm => ⟨hm.bl 3, hm.bl 1, hm.fa 0, trivial⟩) fun z => ?_
    refine wt 16 18 131071 rfl z (ov_field fo62_2 rfl rfl) ?_
    refine wa1 17 rfl ?_
    refine wl_store 2 sc59 rfl rfl rfl rfl rfl rfl ?_
    refine wl_nil ?_
    refine nw 18 262143 (fun _ hm => ⟨hm.bl 3, hm.bl 1, hm.fa 0, trivial⟩) fun z => ?_
    refine wa_done (by kernel_rfl) ?_
    refine nx_blk_nrm (nx_then (gw_region (ad_ rfl rfl (mv_ rfl (wl_nil ?_)))))
    have hxs : vl.flatMap vhEnc ++ ([.string nm, .string u0] : List Value) = (vl ++ [(⟨nm, u0⟩ : Vh)]).flatMap vhEnc := by simp [vhEnc]
    rw [hxs]
    exact nx_round (i + 1, k + 1, vA2, vc2, vl ++ [(⟨nm, u0⟩ : Vh)]) ⟨by dsimp only; omega, by dsimp only; omega, by simp [hvl], all_snoc hvB ⟨(show nm.size <= 1000 by omega), hq0⟩, vhG_snoc hvg hx hq⟩ (by dsimp only; omega) ⟨rfl, rfl, rfl, rfl, rfl, (some_int (by omega)), trivial⟩ (fun _ hm => (hm.more rfl (by first | omega | (dsimp only; omega))).pick [2, 3, 1] [0, 1] [0] rfl rfl)
   have T32765 : ∀ (j : Nat) (hji : j < 4) (u0 : ByteArray) (u1 : ByteArray) (hq : cl[j]? = some ⟨u0, u1⟩) (hq0 : u0.size <= 1000000) (q14 : Nat), W 4 (lb 18 32765) [(0, .pointer (some ⟨sb, 0, none⟩)), (2, .pointer (some ⟨g1, 0, none⟩)), (3, .pointer (some ⟨g2, 0, none⟩)), (21, .slice (some ⟨g4, 0, none⟩) 4 4), (22, .int .i64 4), (23, .int .i64 ((i : Nat) : Int)), (30, .pointer (some ⟨g2, 2, none⟩)), (44, .slice (some ⟨q14, 0, none⟩) 1 1)] (fun w => Strm 25 w B sb (m + 120 + 2 * i + 1 + 1)) [(g1, 62, [.slice none 0 0, .slice none 0 0, .slice none 0 0, .slice none 0 0]), (g2, 62, [.slice sA sn sc, .slice (some ⟨bc, oc, none⟩) 4 cc, .slice vA k vc, .slice none 0 0]), (g4, 9, [.string ⟨#[118, 49]⟩, .string ⟨#[118, 50]⟩, .string ⟨#[118, 51]⟩, .string ⟨#[118, 52]⟩]), (q14, 160, [.string nm, .string u0])] [⟨.slice vA k vc, 160, 2, k, vl.flatMap vhEnc⟩, ⟨.slice sA sn sc, 152, 15, sn, sl.flatMap stEnc⟩] [fun wy => SlT csEnc 2 158 wy (some ⟨bc, oc, none⟩) 4 cl] := by
    intro j hji u0 u1 hq hq0 q14
    rw [hW]
    refine wa1 1 rfl ?_
    refine lk_ sc59 1 rfl rfl rfl (wl_nil ?_)
    refine nw 18 32767 (fun _ hm => ⟨hm.bl 2, hm.bl 0, hm.fa 0, trivial⟩) fun z => ?_
    refine wa1 15 rfl ?_
    refine wl_append (news := [.string nm, .string u0]) 0 3 ap59 rfl rfl rfl rfl rfl rfl rfl (by omega) (by unfold maxLen; omega) rfl rfl fun v2 hv2 => ?_
    refine wl_look (R := ∃ A cc, v2 = .slice A (k + 1) cc) (fun wx hm => own_slice (hm.ownI 0 rfl)) ?_
    rintro ⟨vA2, vc2, rfl⟩
    refine wl_nil ?_
    refine nw 18 65535 (fun _ hm => ⟨hm.bl 2, hm.bl 0, hm.fa 0, trivial⟩) fun z => ?_
    refine wt 16 18 131071 rfl z (ov_field fo62_2 rfl rfl) ?_
    refine wa1 17 rfl ?_
    refine wl_store 1 sc59 rfl rfl rfl rfl rfl rfl ?_
    refine wl_nil ?_
    refine nw 18 262143 (fun _ hm => ⟨hm.bl 2, hm.bl 0, hm.fa 0, trivial⟩) fun z => ?_
    refine wa_done (by kernel_rfl) ?_
    refine nx_blk_nrm (nx_then (gw_region (ad_ rfl rfl (mv_ rfl (wl_nil ?_)))))
    have hxs : vl.flatMap vhEnc ++ ([.string nm, .string u0] : List Value) = (vl ++ [(⟨nm, u0⟩ : Vh)]).flatMap vhEnc := by simp [vhEnc]
    rw [hxs]
    exact nx_round (i + 1, k + 1, vA2, vc2, vl ++ [(⟨nm, u0⟩ : Vh)]) ⟨by dsimp only; omega, by dsimp only; omega, by simp [hvl], all_snoc hvB ⟨(show nm.size <= 1000 by omega), hq0⟩, vhG_snoc hvg hx hq⟩ (by dsimp only; omega) ⟨rfl, rfl, rfl, rfl, rfl, (some_int (by omega)), trivial⟩ (fun _ hm => (hm.more rfl (by first | omega | (dsimp only; omega))).pick [1, 2, 0] [0, 1] [0] rfl rfl)
   have J16381 : ∀ (j : Nat) (hji : j < 4) (u0 : ByteArray) (u1 : ByteArray) (hq : cl[j]? = some ⟨u0, u1⟩) (hq0 : u0.size <= 1000000), W 5 (lb 18 16381) [(0, .pointer (some ⟨sb, 0, none⟩)), (2, .pointer (some ⟨g1, 0, none⟩)), (3, .pointer (some ⟨g2, 0, none⟩)), (21, .slice (some ⟨g4, 0, none⟩) 4 4), (22, .int .i64 4), (23, .int .i64 ((i : Nat) : Int)), (30, .pointer (some ⟨g2, 2, none⟩)), (43, .agg #[.string nm, .string u0])] (fun w => Strm 25 w B sb (m + 120 + 2 * i + 1 + 1)) [(g1, 62, [.slice none 0 0, .slice none 0 0, .slice none 0 0, .slice none 0 0]), (g2, 62, [.slice sA sn sc, .slice (some ⟨bc, oc, none⟩) 4 cc, .slice vA k vc, .slice none 0 0]), (g4, 9, [.string ⟨#[118, 49]⟩, .string ⟨#[118, 50]⟩, .string ⟨#[118, 51]⟩, .string ⟨#[118, 52]⟩])] [⟨.slice vA k vc, 160, 2, k, vl.flatMap vhEnc⟩, ⟨.slice sA sn sc, 152, 15, sn, sl.flatMap stEnc⟩] [fun wy => SlT csEnc 2 158 wy (some ⟨bc, oc, none⟩) 4 cl] := by
    intro j hji u0 u1 hq hq0
    rw [hW]
    refine wa_all [1, 14] (by kernel_rfl) rfl ⟨⟨_, rfl, ?_⟩, ⟨_, rfl, ?_⟩, trivial⟩
    ·refine lk_ sc59 1 rfl rfl rfl (wl_nil ?_)
     refine nw 18 16383 (fun _ hm => ⟨hm.bl 2, hm.bl 0, hm.fa 0, trivial⟩) fun z => ?_
     have h := T16383 j hji u0 u1 hq hq0
     rw [hW] at h
     refine wa_weak ?_ ?_ h
     ·exact ⟨rfl, rfl, rfl, rfl, rfl, rfl, rfl, rfl, trivial⟩
     exact fun _ hm => hm.pick [0, 1, 2] [0, 1] [0] rfl rfl
    refine wl_buildSlice (e := 160) (cs := [.string nm, .string u0]) rfl (by kernel_rfl) rfl fun q14 => ?_
    refine wl_nil ?_
    refine nw 18 32765 (fun _ hm => ⟨hm.bl 3, hm.bl 1, hm.fa 0, trivial⟩) fun z => ?_
    have h := T32765 j hji u0 u1 hq hq0 q14
    rw [hW] at h
    refine wa_weak ?_ ?_ h
    ·exact ⟨rfl, rfl, rfl, rfl, rfl, rfl, rfl, rfl, trivial⟩
    exact fun _ hm => hm.pick [1, 2, 3, 0] [0, 1] [0] rfl rfl
   have J509 : W 10 (lb 18 509) [(0, .pointer (some ⟨sb, 0, none⟩)), (2, .pointer (some ⟨g1, 0, none⟩)), (3, .pointer (some ⟨g2, 0, none⟩)), (21, .slice (some ⟨g4, 0, none⟩) 4 4), (22, .int .i64 4), (23, .int .i64 ((i : Nat) : Int)), (30, .pointer (some ⟨g2, 2, none⟩)), (32, .string nm), (34, .slice (some ⟨bc, oc, none⟩) 4 cc), (35, .pointer (some ⟨sb, 0, none⟩)), (38, .int .i64 4)] (fun w => Strm 25 w B sb (m + 120 + 2 * i + 1)) [(g1, 62, [.slice none 0 0, .slice none 0 0, .slice none 0 0, .slice none 0 0]), (g2, 62, [.slice sA sn sc, .slice (some ⟨bc, oc, none⟩) 4 cc, .slice vA k vc, .slice none 0 0]), (g4, 9, [.string ⟨#[118, 49]⟩, .string ⟨#[118, 50]⟩, .string ⟨#[118, 51]⟩, .string ⟨#[118, 52]⟩])] [⟨.slice vA k vc, 160, 2, k, vl.flatMap vhEnc⟩, ⟨.slice sA sn sc, 152, 15, sn, sl.flatMap stEnc⟩] [fun wy => SlT csEnc 2 158 wy (some ⟨bc, oc, none⟩) 4 cl] := by
    skip
    rw [hW]
    refine wa_all [1, 9] (by kernel_rfl) rfl ⟨⟨_, rfl, ?_⟩, ⟨_, rfl, ?_⟩, trivial⟩
    ·refine lk_ sc59 1 rfl rfl rfl (wl_nil ?_)
     refine nw 18 511 (fun _ hm => ⟨hm.bl 2, hm.bl 0, hm.fa 0, trivial⟩) fun z => ?_
     have h := T511 
     rw [hW] at h
     refine wa_weak ?_ ?_ h
     ·exact ⟨rfl, rfl, rfl, rfl, rfl, rfl, rfl, rfl, rfl, rfl, rfl, trivial⟩
     exact fun _ hm => hm.pick [0, 1, 2] [0, 1] [0] rfl rfl
    refine wl_got (γ := Int) (val := fun v => .int .i64 v) (φ := fun v => IsBelow 4 v) rfl cb66 rfl rfl rfl rfl (fun wx hm => (next_any _ wx B sb _ hm.k (by omega) (by omega) (by omega))) fun vj hvj => ?_
    have hj := isBelow_lt hvj (by omega)
    obtain ⟨j, rfl⟩ := Int.eq_ofNat_of_zero_le hj.1
    have hji : j < 4 := by omega
    obtain ⟨q, hq⟩ : ∃ q, cl[j]? = some q := ⟨_, List.getElem?_eq_getElem (by omega)⟩
    obtain ⟨u0, u1⟩ := q
    obtain ⟨hq0, hq1⟩ := hcok _ (List.mem_of_getElem? hq)
    have hq0 : u0.size <= 1000000 := hq0
    refine wl_nil ?_
    refine nw 18 1021 (fun _ hm => ⟨hm.bl 2, hm.bl 0, hm.fa 0, trivial⟩) fun z => ?_
    refine wt 10 18 2045 rfl z (ov_index (j := j) es58 rfl rfl (by omega)) ?_
    refine wt 11 18 4093 rfl z (ov_field fo158_0 rfl rfl) ?_
    refine wt 12 18 8189 rfl z (ov_elem1 (k := 0) (v := .string u0) sc9 rfl (fun _ hm => (hm.2.2.1)) hq rfl rfl) ?_
    refine wt 13 18 16381 rfl z (ov_build (cs := [.string nm, .string u0]) rfl (by kernel_rfl)) ?_
    have h := J16381 j hji u0 u1 hq hq0
    rw [hW] at h
    refine wa_weak ?_ ?_ h
    ·exact ⟨rfl, rfl, rfl, rfl, rfl, rfl, rfl, rfl, trivial⟩
    exact fun _ hm => hm.pick [0, 1, 2] [0, 1] [0] rfl rfl
   have J125 : W 12 (lb 18 125) [(0, .pointer (some ⟨sb, 0, none⟩)), (2, .pointer (some ⟨g1, 0, none⟩)), (3, .pointer (some ⟨g2, 0, none⟩)), (21, .slice (some ⟨g4, 0, none⟩) 4 4), (22, .int .i64 4), (23, .int .i64 ((i : Nat) : Int)), (30, .pointer (some ⟨g2, 2, none⟩)), (32, .string nm), (34, .slice (some ⟨bc, oc, none⟩) 4 cc), (35, .pointer (some ⟨sb, 0, none⟩)), (36, .pointer (some ⟨g2, 1, none⟩))] (fun w => Strm 25 w B sb (m + 120 + 2 * i + 1)) [(g1, 62, [.slice none 0 0, .slice none 0 0, .slice none 0 0, .slice none 0 0]), (g2, 62, [.slice sA sn sc, .slice (some ⟨bc, oc, none⟩) 4 cc, .slice vA k vc, .slice none 0 0]), (g4, 9, [.string ⟨#[118, 49]⟩, .string ⟨#[118, 50]⟩, .string ⟨#[118, 51]⟩, .string ⟨#[118, 52]⟩])] [⟨.slice vA k vc, 160, 2, k, vl.flatMap vhEnc⟩, ⟨.slice sA sn sc, 152, 15, sn, sl.flatMap stEnc⟩] [fun wy => SlT csEnc 2 158 wy (some ⟨bc, oc, none⟩) 4 cl] := by
    skip
    rw [hW]
    refine wa_all [1, 7] (by kernel_rfl) rfl ⟨⟨_, rfl, ?_⟩, ⟨_, rfl, ?_⟩, trivial⟩
    ·refine lk_ sc59 1 rfl rfl rfl (wl_nil ?_)
     refine nw 18 127 (fun _ hm => ⟨hm.bl 2, hm.bl 0, hm.fa 0, trivial⟩) fun z => ?_
     have h := T127 
     rw [hW] at h
     refine wa_weak ?_ ?_ h
     ·exact ⟨rfl, rfl, rfl, rfl, rfl, rfl, rfl, rfl, rfl, rfl, rfl, trivial⟩
     exact fun _ hm => hm.pick [0, 1, 2] [0, 1] [0] rfl rfl
    refine lk_ sc58 1 rfl rfl rfl (wl_nil ?_)
    refine nw 18 253 (fun _ hm => ⟨hm.bl 2, hm.bl 0, hm.fa 0, trivial⟩) fun z => ?_
    refine wt 8 18 509 rfl z (ov_len es58 rfl) ?_
    refine wa_set 38 (v' := .int .i64 4) rfl rfl ?_
    have h := J509 
    rw [hW] at h
    refine wa_weak ?_ ?_ h
    ·exact ⟨rfl, rfl, rfl, rfl, rfl, rfl, rfl, rfl, rfl, rfl, rfl, trivial⟩
    exact fun _ hm => hm.pick [0, 1, 2] [0, 1] [0] rfl rfl
   have J1005 : ∀ (j : Nat) (hji : j < 4) (u0 : ByteArray) (u1 : ByteArray) (hq : cl[j]? = some ⟨u0, u1⟩) (hq0 : u0.size <= 1000000), W 10 (lb 18 1005) [(0, .pointer (some ⟨sb, 0, none⟩)), (2, .pointer (some ⟨g1, 0, none⟩)), (3, .pointer (some ⟨g2, 0, none⟩)), (21, .slice (some ⟨g4, 0, none⟩) 4 4), (22, .int .i64 4), (23, .int .i64 ((i : Nat) : Int)), (30, .pointer (some ⟨g2, 2, none⟩)), (32, .string nm), (33, .pointer (some ⟨g2, 1, none⟩)), (39, .int .i64 ((j : Nat) : Int))] (fun w => Strm 25 w B sb (m + 120 + 2 * i + 1 + 1)) [(g1, 62, [.slice none 0 0, .slice none 0 0, .slice none 0 0, .slice none 0 0]), (g2, 62, [.slice sA sn sc, .slice (some ⟨bc, oc, none⟩) 4 cc, .slice vA k vc, .slice none 0 0]), (g4, 9, [.string ⟨#[118, 49]⟩, .string ⟨#[118, 50]⟩, .string ⟨#[118, 51]⟩, .string ⟨#[118, 52]⟩])] [⟨.slice vA k vc, 160, 2, k, vl.flatMap vhEnc⟩, ⟨.slice sA sn sc, 152, 15, sn, sl.flatMap stEnc⟩] [fun wy => SlT csEnc 2 158 wy (some ⟨bc, oc, none⟩) 4 cl] := by
    intro j hji u0 u1 hq hq0
    rw [hW]
    refine wa_all [1, 4] (by kernel_rfl) rfl ⟨⟨_, rfl, ?_⟩, ⟨_, rfl, ?_⟩, trivial⟩
    ·refine lk_ sc59 1 rfl rfl rfl (wl_nil ?_)
     refine nw 18 1007 (fun _ hm => ⟨hm.bl 2, hm.bl 0, hm.fa 0, trivial⟩) fun z => ?_
     have h := T1007 j hji u0 u1 hq hq0
     rw [hW] at h
     refine wa_weak ?_ ?_ h
     ·exact ⟨rfl, rfl, rfl, rfl, rfl, rfl, rfl, rfl, rfl, rfl, trivial⟩
     exact fun _ hm => hm.pick [0, 1, 2] [0, 1] [0] rfl rfl
    refine lk_ sc58 1 rfl rfl rfl (wl_nil ?_)
    refine nw 18 1021 (fun _ hm => ⟨hm.bl 2, hm.bl 0, hm.fa 0, trivial⟩) fun z => ?_
    refine wt 10 18 2045 rfl z (ov_index (j := j) es58 rfl rfl (by omega)) ?_
    refine wt 11 18 4093 rfl z (ov_field fo158_0 rfl rfl) ?_
    refine wt 12 18 8189 rfl z (ov_elem1 (k := 0) (v := .string u0) sc9 rfl (fun _ hm => (hm.2.2.1)) hq rfl rfl) ?_
    refine wt 13 18 16381 rfl z (ov_build (cs := [.string nm, .string u0]) rfl (by kernel_rfl)) ?_
    have h := J16381 j hji u0 u1 hq hq0
    rw [hW] at h
    refine wa_weak ?_ ?_ h
    ·exact ⟨rfl, rfl, rfl, rfl, rfl, rfl, rfl, rfl, trivial⟩
    exact fun _ hm => hm.pick [0, 1, 2] [0, 1] [0] rfl rfl
   have J493 : W 11 (lb 18 493) [(0, .pointer (some ⟨sb, 0, none⟩)), (2, .pointer (some ⟨g1, 0, none⟩)), (3, .pointer (some ⟨g2, 0, none⟩)), (21, .slice (some ⟨g4, 0, none⟩) 4 4), (22, .int .i64 4), (23, .int .i64 ((i : Nat) : Int)), (30, .pointer (some ⟨g2, 2, none⟩)), (32, .string nm), (33, .pointer (some ⟨g2, 1, none⟩)), (35, .pointer (some ⟨sb, 0, none⟩)), (38, .int .i64 4)] (fun w => Strm 25 w B sb (m + 120 + 2 * i + 1)) [(g1, 62, [.slice none 0 0, .slice none 0 0, .slice none 0 0, .slice none 0 0]), (g2, 62, [.slice sA sn sc, .slice (some ⟨bc, oc, none⟩) 4 cc, .slice vA k vc, .slice none 0 0]), (g4, 9, [.string ⟨#[118, 49]⟩, .string ⟨#[118, 50]⟩, .string ⟨#[118, 51]⟩, .string ⟨#[118, 52]⟩])] [⟨.slice vA k vc, 160, 2, k, vl.flatMap vhEnc⟩, ⟨.slice sA sn sc, 152, 15, sn, sl.flatMap stEnc⟩] [fun wy => SlT csEnc 2 158 wy (some ⟨bc, oc, none⟩) 4 cl] := by
    skip
    rw [hW]
    refine wa_all [1, 4, 9] (by kernel_rfl) rfl ⟨⟨_, rfl, ?_⟩, ⟨_, rfl, ?_⟩, ⟨_, rfl, ?_⟩, trivial⟩
    ·refine lk_ sc59 1 rfl rfl rfl (wl_nil ?_)
     refine nw 18 495 (fun _ hm => ⟨hm.bl 2, hm.bl 0, hm.fa 0, trivial⟩) fun z => ?_
     have h := J495 
     rw [hW] at h
     refine wa_weak ?_ ?_ h
     ·exact ⟨rfl, rfl, rfl, rfl, rfl, rfl, rfl, rfl, rfl, rfl, rfl, trivial⟩
     exact fun _ hm => hm.pick [0, 1, 2] [0, 1] [0] rfl rfl
    ·refine lk_ sc58 1 rfl rfl rfl (wl_nil ?_)
     refine nw 18 509 (fun _ hm => ⟨hm.bl 2, hm.bl 0, hm.fa 0, trivial⟩) fun z => ?_
     have h := J509 
     rw [hW] at h
     refine wa_weak ?_ ?_ h
     ·exact ⟨rfl, rfl, rfl, rfl, rfl, rfl, rfl, rfl, rfl, rfl, rfl, trivial⟩
     exact fun _ hm => hm.pick [0, 1, 2] [0, 1] [0] rfl rfl
    refine wl_got (γ := Int) (val := fun v => .int .i64 v) (φ := fun v => IsBelow 4 v) rfl cb66 rfl rfl rfl rfl (fun wx hm => (next_any _ wx B sb _ hm.k (by omega) (by omega) (by omega))) fun vj hvj => ?_
    have hj := isBelow_lt hvj (by omega)
    obtain ⟨j, rfl⟩ := Int.eq_ofNat_of_zero_le hj.1
    have hji : j < 4 := by omega
    obtain ⟨q, hq⟩ : ∃ q, cl[j]? = some q := ⟨_, List.getElem?_eq_getElem (by omega)⟩
    obtain ⟨u0, u1⟩ := q
    obtain ⟨hq0, hq1⟩ := hcok _ (List.mem_of_getElem? hq)
    have hq0 : u0.size <= 1000000 := hq0
    refine wl_nil ?_
    refine nw 18 1005 (fun _ hm => ⟨hm.bl 2, hm.bl 0, hm.fa 0, trivial⟩) fun z => ?_
    have h := J1005 j hji u0 u1 hq hq0
    rw [hW] at h
    refine wa_weak ?_ ?_ h
    ·exact ⟨rfl, rfl, rfl, rfl, rfl, rfl, rfl, rfl, rfl, rfl, trivial⟩
    exact fun _ hm => hm.pick [0, 1, 2] [0, 1] [0] rfl rfl
   have J109 : W 13 (lb 18 109) [(0, .pointer (some ⟨sb, 0, none⟩)), (2, .pointer (some ⟨g1, 0, none⟩)), (3, .pointer (some ⟨g2, 0, none⟩)), (21, .slice (some ⟨g4, 0, none⟩) 4 4), (22, .int .i64 4), (23, .int .i64 ((i : Nat) : Int)), (30, .pointer (some ⟨g2, 2, none⟩)), (32, .string nm), (33, .pointer (some ⟨g2, 1, none⟩)), (35, .pointer (some ⟨sb, 0, none⟩)), (36, .pointer (some ⟨g2, 1, none⟩))] (fun w => Strm 25 w B sb (m + 120 + 2 * i + 1)) [(g1, 62, [.slice none 0 0, .slice none 0 0, .slice none 0 0, .slice none 0 0]), (g2, 62, [.slice sA sn sc, .slice (some ⟨bc, oc, none⟩) 4 cc, .slice vA k vc, .slice none 0 0]), (g4, 9, [.string ⟨#[118, 49]⟩, .string ⟨#[118, 50]⟩, .string ⟨#[118, 51]⟩, .string ⟨#[118, 52]⟩])] [⟨.slice vA k vc, 160, 2, k, vl.flatMap vhEnc⟩, ⟨.slice sA sn sc, 152, 15, sn, sl.flatMap stEnc⟩] [fun wy => SlT csEnc 2 158 wy (some ⟨bc, oc, none⟩) 4 cl] := by
    skip
    rw [hW]
    refine wa_all [1, 4, 7] (by kernel_rfl) rfl ⟨⟨_, rfl, ?_⟩, ⟨_, rfl, ?_⟩, ⟨_, rfl, ?_⟩, trivial⟩
    ·refine lk_ sc59 1 rfl rfl rfl (wl_nil ?_)
     refine nw 18 111 (fun _ hm => ⟨hm.bl 2, hm.bl 0, hm.fa 0, trivial⟩) fun z => ?_
     have h := J111 
     rw [hW] at h
     refine wa_weak ?_ ?_ h
     ·exact ⟨rfl, rfl, rfl, rfl, rfl, rfl, rfl, rfl, rfl, rfl, rfl, trivial⟩
     exact fun _ hm => hm.pick [0, 1, 2] [0, 1] [0] rfl rfl
    ·refine lk_ sc58 1 rfl rfl rfl (wl_nil ?_)
     refine nw 18 125 (fun _ hm => ⟨hm.bl 2, hm.bl 0, hm.fa 0, trivial⟩) fun z => ?_
     have h := J125 
     rw [hW] at h
     refine wa_weak ?_ ?_ h
     ·exact ⟨rfl, rfl, rfl, rfl, rfl, rfl, rfl, rfl, rfl, rfl, rfl, trivial⟩
     exact fun _ hm => hm.pick [0, 1, 2] [0, 1] [0] rfl rfl
    refine lk_ sc58 1 rfl rfl rfl (wl_nil ?_)
    refine nw 18 237 (fun _ hm => ⟨hm.bl 2, hm.bl 0, hm.fa 0, trivial⟩) fun z => ?_
    refine wt 8 18 493 rfl z (ov_len es58 rfl) ?_
    refine wa_set 38 (v' := .int .i64 4) rfl rfl ?_
    have h := J493 
    rw [hW] at h
    refine wa_weak ?_ ?_ h
    ·exact ⟨rfl, rfl, rfl, rfl, rfl, rfl, rfl, rfl, rfl, rfl, rfl, trivial⟩
    exact fun _ hm => hm.pick [0, 1, 2] [0, 1] [0] rfl rfl
   rw [hW]
   have h := J109 
   rw [hW] at h
   refine wa_weak ?_ ?_ h
   ·exact ⟨rfl, rfl, rfl, rfl, rfl, rfl, rfl, rfl, rfl, rfl, rfl, trivial⟩
   exact fun _ hm => hm.pick [2, 0, 1] [0, 1] [0] rfl rfl
  have hf : f5 = true := by simpa using hh
  clear hh
  refine gw_skip (nx_blk_nrm (nx_then (gw_region (ad_ rfl rfl (mv_ rfl (wl_nil ?_))))))
  exact nx_round (i + 1, k, vA, vc, vl) ⟨by dsimp only; omega, by dsimp only; omega, hvl, hvB, vhG_more hvg⟩ (by dsimp only; omega) ⟨rfl, rfl, rfl, rfl, rfl, (some_int (by omega)), trivial⟩ (fun _ hm => (hm.more rfl (by first | omega | (dsimp only; omega))).pick [0, 1, 2] [0, 1] [0] rfl rfl)
 have hi : ¬ (((i : Nat) : Int) < 4) := by simpa using hh
 clear hh
 refine gw_exit ?_
 refine nx_then_exit (nx_then_exit ?_)
 refine nx_blk_here ?_
 refine nx_then (gw_seq (sr_ (mv_ rfl ?_)))
 refine wl_got (γ := Int) (val := fun v => .int .i64 v) (φ := fun v => 0 <= v /\ (v <= 5 ∨ v = 0)) rfl cb26 rfl rfl rfl rfl (fun wx hm => (range_any _ _ wx B sb _ hm.k (by omega) (by omega) (by omega) (by omega) (by omega))) fun v10 hv10 => ?_
 refine mv_ rfl (nn_ (gw_block ?_))
 have hk4 : k <= 4 := by omega
 obtain ⟨R, hRR⟩ := Int.eq_ofNat_of_zero_le (show 0 <= v10 by omega)
 have hR5 : R <= 5 := by omega
 subst hRR
 refine gw_nilOwn 162 3 ?_
 refine gw_loop (γ := Nat × Option Addr × Nat × Nat × List Pl) (fun g => g.1 <= R /\ g.2.2.1 <= g.1 /\ g.2.2.2.2.length = g.2.2.1 /\ (∀ x ∈ g.2.2.2.2, PlB x) /\ fleetE sl cl vl g.2.2.2.2 = 0) (fun g => [(0, .pointer (some ⟨sb, 0, none⟩)), (2, .pointer (some ⟨g1, 0, none⟩)), (3, .pointer (some ⟨g2, 0, none⟩)), (49, .int .i64 ((R : Nat) : Int)), (50, .int .i64 ((g.1 : Nat) : Int))]) (fun g => fun w => Strm 25 w B sb (m + 140 + 10 * g.1)) (fun g => [(g2, 62, [.slice sA sn sc, .slice cA 4 cc, .slice vA k vc, .slice g.2.1 g.2.2.1 g.2.2.2.1]), (g1, 62, [.slice none 0 0, .slice none 0 0, .slice none 0 0, .slice none 0 0])]) (fun g => [⟨.slice g.2.1 g.2.2.1 g.2.2.2.1, 162, 3, g.2.2.1, g.2.2.2.2.flatMap plEnc⟩, ⟨.slice vA k vc, 160, 2, k, vl.flatMap vhEnc⟩, ⟨.slice sA sn sc, 152, 15, sn, sl.flatMap stEnc⟩]) (fun g => [fun wy => SlT csEnc 2 158 wy cA 4 cl]) (fun g => R - g.1) (0, none, 0, 0, []) ⟨Nat.zero_le _, Nat.le_refl _, rfl, (fun _ h => by cases h), fleet_start hsz hcz hvg (by omega)⟩ ⟨rfl, rfl, rfl, rfl, rfl, trivial⟩ (fun _ hm => (hm.more rfl (by first | omega | (dsimp only; omega))).pick [0, 2] [0, 1, 2] [0] rfl rfl) ?_
 rintro ⟨j, pA, pn, pc, pl⟩ hinv
 replace hinv : j <= R /\ pn <= j /\ pl.length = pn /\ (∀ x ∈ pl, PlB x) /\ fleetE sl cl vl pl = 0 := hinv
 dsimp only
 refine sr_ ?_
 obtain ⟨hj0, hpj, hpl, hpB, hfz⟩ := hinv
 refine wl_ov (ov_lss rfl rfl) rfl (nn_ (gw_seq ?_))
 refine gw_cond rfl (fun hh => ?_) (fun hh => ?_)
 ·have hj : ((j : Nat) : Int) < ((R : Nat) : Int) := by simpa using hh
  clear hh
  refine gw_skip (nx_then (gw_seq (gw_block (gw_seq (sr_ (fd_ fo62_2 rfl rfl (lk_ sc59 0 rfl rfl rfl (wl_ov (ov_len es59 rfl) rfl (wl_ov (ov_eql rfl rfl) rfl (nn_ ?_))))))))))
  refine gw_cond rfl (fun hh => ?_) (fun hh => ?_)
  ·have hk0 : ((k : Nat) : Int) = 0 := by simpa using hh
   clear hh
   refine gw_exit ?_
   refine nx_then_exit ?_
   refine nx_blk_on rfl ?_
   refine nx_then_exit (nx_then_exit ?_)
   refine nx_blk_here ?_
   refine nx_then (sr_ ?_)
   refine wl_ov (ov_loads rz62 rfl (fun _ hm => hm.blkI 0 rfl) rfl rfl) rfl ?_
   refine wl_stores (cs' := [.slice sA sn sc, .slice cA 4 cc, .slice vA k vc, .slice pA pn pc]) 1 rz62 rfl rfl rfl rfl rfl rfl rfl rfl ?_
   refine nn_ ?_
   refine gw_ret ?_
   refine nx_retc 1 rfl rz62 rfl rfl rfl fun wx hm => ?_
   exact ⟨sA, cA, vA, pA, sn, sc, cc, k, vc, pn, pc, sl, cl, vl, pl, rfl, ⟨⟨⟨hsl, hsB, hs1, hs3⟩, ⟨hcl4, hcok⟩, ⟨hvl, hvB, by omega⟩, ⟨hpl, hpB, by omega⟩⟩, hfz⟩, hm.k.more (by omega), hm.g, (hm.ownI 2 rfl), (hm.ownI 1 rfl), (hm.ownI 0 rfl), (hm.fact 0 rfl)⟩
  have hk0 : ¬ (((k : Nat) : Int) = 0) := by simpa using hh
  clear hh
  refine gw_skip (nx_then ?_)
  refine gw_look (R := ∃ g, vA = some ⟨g, 0, none⟩) (fun wx hm => own_addr (hm.ownI 1 rfl) (by omega)) ?_
  rintro ⟨bv, rfl⟩
  refine gw_cut (γ := Nat × Int × ByteArray × ByteArray) (I := (fun g => PlB ⟨g.2.1, g.2.2.1, g.2.2.2⟩)) (S' := (fun g => [(0, .pointer (some ⟨sb, 0, none⟩)), (2, .pointer (some ⟨g1, 0, none⟩)), (3, .pointer (some ⟨g2, 0, none⟩)), (6, .pointer (some ⟨g.1, 0, none⟩)), (49, .int .i64 ((R : Nat) : Int)), (50, .int .i64 ((j : Nat) : Int))])) (K' := (fun g => fun w => Strm 25 w B sb (m + 140 + 10 * j + 9))) (L' := (fun g => [(g.1, 162, [.int .i64 g.2.1, .string g.2.2.1, .string g.2.2.2]), (g2, 62, [.slice sA sn sc, .slice cA 4 cc, .slice (some ⟨bv, 0, none⟩) k vc, .slice pA pn pc]), (g1, 62, [.slice none 0 0, .slice none 0 0, .slice none 0 0, .slice none 0 0])])) (O' := (fun g => [⟨.slice pA pn pc, 162, 3, pn, pl.flatMap plEnc⟩, ⟨.slice (some ⟨bv, 0, none⟩) k vc, 160, 2, k, vl.flatMap vhEnc⟩, ⟨.slice sA sn sc, 152, 15, sn, sl.flatMap stEnc⟩])) (X' := (fun g => [fun wy => SlT csEnc 2 158 wy cA 4 cl])) ?_ ?_
  ·refine gd (fun wz => Blk wz g2 62 [.slice sA sn sc, .slice cA 4 cc, .slice (some ⟨bv, 0, none⟩) k vc, .slice pA pn pc] /\ Blk wz g1 62 [.slice none 0 0, .slice none 0 0, .slice none 0 0, .slice none 0 0] /\ (fun wy => SlT csEnc 2 158 wy cA 4 cl) wz /\ wz.ownsRow w.heap.size 162 3 (.slice pA pn pc) pn (pl.flatMap plEnc) /\ wz.ownsRow w.heap.size 160 2 (.slice (some ⟨bv, 0, none⟩) k vc) k (vl.flatMap vhEnc) /\ wz.ownsRow w.heap.size 152 15 (.slice sA sn sc) sn (sl.flatMap stEnc) /\ True) mixed (fun _ hm => ⟨hm.bl 0, hm.bl 1, hm.fa 0, hm.ownI 0 rfl, hm.ownI 1 rfl, hm.ownI 2 rfl, trivial⟩) fun z => ?_
   refine wt 0 19 1 rfl z (ov_move rfl) ?_
   refine wt 3 19 9 rfl z (ov_field fo62_2 rfl rfl) ?_
   refine wt 4 19 25 rfl z (ov_load sc59 rfl (fun _ hm => hm.1) rfl) ?_
   refine wt 5 19 57 rfl z (ov_move rfl) ?_
   refine wt 6 19 121 rfl z (ov_field fo62_2 rfl rfl) ?_
   refine wt 7 19 249 rfl z (ov_load sc59 rfl (fun _ hm => hm.1) rfl) ?_
   refine wt 8 19 505 rfl z (ov_len es59 rfl) ?_
   refine wt 13 19 8697 rfl z (ov_move rfl) ?_
   refine wa_open fun W hW => ?_
   have T131071 : ∀ (q1 : Nat) (k2 : Int) (bk20 : 0 <= k2) (bk21 : k2 <= 1000) (u0 : ByteArray) (hq0 : u0.size <= 1000) (q14 : Nat) (k15 : ByteArray) (zk15 : k15.size <= 100), W 2 (lb 19 131071) [(0, .pointer (some ⟨sb, 0, none⟩)), (2, .pointer (some ⟨g1, 0, none⟩)), (3, .pointer (some ⟨g2, 0, none⟩)), (49, .int .i64 ((R : Nat) : Int)), (50, .int .i64 ((j : Nat) : Int)), (72, .agg #[.int .i64 k2, .string u0, .string k15])] (fun w => Strm 25 w B sb (m + 140 + 10 * j + 1 + 1 + 1)) [(g1, 62, [.slice none 0 0, .slice none 0 0, .slice none 0 0, .slice none 0 0]), (g2, 62, [.slice sA sn sc, .slice cA 4 cc, .slice (some ⟨bv, 0, none⟩) k vc, .slice pA pn pc]), (q1, 3, [.int .i64 0, .int .i64 0, .int .i64 50, .int .i64 100, .int .i64 200, .int .i64 1000]), (q14, 9, [.string ⟨#[65, 66, 49]⟩, .string ⟨#[65, 66, 50]⟩, .string ⟨#[90, 90, 57]⟩])] [⟨.slice pA pn pc, 162, 3, pn, pl.flatMap plEnc⟩, ⟨.slice (some ⟨bv, 0, none⟩) k vc, 160, 2, k, vl.flatMap vhEnc⟩, ⟨.slice sA sn sc, 152, 15, sn, sl.flatMap stEnc⟩] [fun wy => SlT csEnc 2 158 wy cA 4 cl] := by
    intro q1 k2 bk20 bk21 u0 hq0 q14 k15 zk15
    rw [hW]
    refine wa1 17 rfl ?_
    refine wl_alloc zc162 rfl fun g11 => ?_
    refine wl_nil ?_
    refine nw 19 262143 (fun _ hm => ⟨hm.bl 2, hm.bl 1, hm.fa 0, hm.ownI 0 rfl, hm.ownI 1 rfl, hm.ownI 2 rfl, trivial⟩) fun z => ?_
    refine wa1 18 rfl ?_
    refine wl_stores (cs' := [.int .i64 k2, .string u0, .string k15]) 0 rz162 rfl rfl rfl rfl rfl rfl rfl rfl ?_
    refine wl_nil ?_
    refine nw 19 524287 (fun _ hm => ⟨hm.bl 2, hm.bl 1, hm.fa 0, hm.ownI 0 rfl, hm.ownI 1 rfl, hm.ownI 2 rfl, trivial⟩) fun z => ?_
    refine wa_done (by kernel_rfl) ?_
    exact nx_meet (g11, k2, u0, k15) ⟨⟨by dsimp only; omega, by dsimp only; omega⟩, by dsimp only; omega, by dsimp only; omega⟩ ⟨rfl, rfl, rfl, rfl, rfl, rfl, trivial⟩ (fun _ hm => (hm.more rfl (by first | omega | (dsimp only; omega))).pick [0, 2, 1] [0, 1, 2] [0] rfl rfl)
   have T163839 : ∀ (q1 : Nat) (k2 : Int) (bk20 : 0 <= k2) (bk21 : k2 <= 1000) (u0 : ByteArray) (hq0 : u0.size <= 1000) (q14 : Nat) (q17 : Nat), W 3 (lb 19 163839) [(0, .pointer (some ⟨sb, 0, none⟩)), (2, .pointer (some ⟨g1, 0, none⟩)), (3, .pointer (some ⟨g2, 0, none⟩)), (6, .pointer (some ⟨q17, 0, none⟩)), (49, .int .i64 ((R : Nat) : Int)), (50, .int .i64 ((j : Nat) : Int)), (58, .int .i64 k2), (68, .string u0), (69, .pointer (some ⟨sb, 0, none⟩)), (70, .slice (some ⟨q14, 0, none⟩) 3 3)] (fun w => Strm 25 w B sb (m + 140 + 10 * j + 1 + 1)) [(g1, 62, [.slice none 0 0, .slice none 0 0, .slice none 0 0, .slice none 0 0]), (g2, 62, [.slice sA sn sc, .slice cA 4 cc, .slice (some ⟨bv, 0, none⟩) k vc, .slice pA pn pc]), (q1, 3, [.int .i64 0, .int .i64 0, .int .i64 50, .int .i64 100, .int .i64 200, .int .i64 1000]), (q14, 9, [.string ⟨#[65, 66, 49]⟩, .string ⟨#[65, 66, 50]⟩, .string ⟨#[90, 90, 57]⟩]), (q17, 162, [.int .i64 0, .string ⟨#[]⟩, .string ⟨#[]⟩])] [⟨.slice pA pn pc, 162, 3, pn, pl.flatMap plEnc⟩, ⟨.slice (some ⟨bv, 0, none⟩) k vc, 160, 2, k, vl.flatMap vhEnc⟩, ⟨.slice sA sn sc, 152, 15, sn, sl.flatMap stEnc⟩] [fun wy => SlT csEnc 2 158 wy cA 4 cl] := by
    intro q1 k2 bk20 bk21 u0 hq0 q14 q17
    rw [hW]
    refine wa1 15 rfl ?_
    refine wl_got (γ := ByteArray) (val := fun v => .string v) (φ := fun v => v ∈ ([⟨#[65, 66, 49]⟩, ⟨#[65, 66, 50]⟩, ⟨#[90, 90, 57]⟩] : List ByteArray)) rfl cb49 rfl rfl rfl rfl (fun wx hm => (some_any [⟨#[65, 66, 49]⟩, ⟨#[65, 66, 50]⟩, ⟨#[90, 90, 57]⟩] _ _ _ wx B sb _ hm.k (by omega) (by simp) (by simp) (hm.blkI 3 rfl) (hm.neRow 3 rfl rfl))) fun k15 hk15 => ?_
    have zk15 : k15.size <= 100 := mem_sz hk15 (by decide)
    refine wl_nil ?_
    refine nw 19 196607 (fun _ hm => ⟨hm.bl 1, hm.bl 0, hm.fa 0, hm.ownI 0 rfl, hm.ownI 1 rfl, hm.ownI 2 rfl, trivial⟩) fun z => ?_
    refine wt 16 19 262143 rfl z (ov_build (cs := [.int .i64 k2, .string u0, .string k15]) rfl (by kernel_rfl)) ?_
    refine wa1 18 rfl ?_
    refine wl_stores (cs' := [.int .i64 k2, .string u0, .string k15]) 4 rz162 rfl rfl rfl rfl rfl rfl rfl rfl ?_
    refine wl_nil ?_
    refine nw 19 524287 (fun _ hm => ⟨hm.bl 1, hm.bl 0, hm.fa 0, hm.ownI 0 rfl, hm.ownI 1 rfl, hm.ownI 2 rfl, trivial⟩) fun z => ?_
    refine wa_done (by kernel_rfl) ?_
    exact nx_meet (q17, k2, u0, k15) ⟨⟨by dsimp only; omega, by dsimp only; omega⟩, by dsimp only; omega, by dsimp only; omega⟩ ⟨rfl, rfl, rfl, rfl, rfl, rfl, trivial⟩ (fun _ hm => (hm.more rfl (by first | omega | (dsimp only; omega))).pick [4, 1, 0] [0, 1, 2] [0] rfl rfl)
   have J32767 : ∀ (q1 : Nat) (k2 : Int) (bk20 : 0 <= k2) (bk21 : k2 <= 1000) (u0 : ByteArray) (hq0 : u0.size <= 1000) (q14 : Nat), W 4 (lb 19 32767) [(0, .pointer (some ⟨sb, 0, none⟩)), (2, .pointer (some ⟨g1, 0, none⟩)), (3, .pointer (some ⟨g2, 0, none⟩)), (49, .int .i64 ((R : Nat) : Int)), (50, .int .i64 ((j : Nat) : Int)), (58, .int .i64 k2), (68, .string u0), (69, .pointer (some ⟨sb, 0, none⟩)), (70, .slice (some ⟨q14, 0, none⟩) 3 3)] (fun w => Strm 25 w B sb (m + 140 + 10 * j + 1 + 1)) [(g1, 62, [.slice none 0 0, .slice none 0 0, .slice none 0 0, .slice none 0 0]), (g2, 62, [.slice sA sn sc, .slice cA 4 cc, .slice (some ⟨bv, 0, none⟩) k vc, .slice pA pn pc]), (q1, 3, [.int .i64 0, .int .i64 0, .int .i64 50, .int .i64 100, .int .i64 200, .int .i64 1000]), (q14, 9, [.string ⟨#[65, 66, 49]⟩, .string ⟨#[65, 66, 50]⟩, .string ⟨#[90, 90, 57]⟩])] [⟨.slice pA pn pc, 162, 3, pn, pl.flatMap plEnc⟩, ⟨.slice (some ⟨bv, 0, none⟩) k vc, 160, 2, k, vl.flatMap vhEnc⟩, ⟨.slice sA sn sc, 152, 15, sn, sl.flatMap stEnc⟩] [fun wy => SlT csEnc 2 158 wy cA 4 cl] := by
    intro q1 k2 bk20 bk21 u0 hq0 q14
    rw [hW]
    refine wa_all [15, 17] (by kernel_rfl) rfl ⟨⟨_, rfl, ?_⟩, ⟨_, rfl, ?_⟩, trivial⟩
    ·refine wl_got (γ := ByteArray) (val := fun v => .string v) (φ := fun v => v ∈ ([⟨#[65, 66, 49]⟩, ⟨#[65, 66, 50]⟩, ⟨#[90, 90, 57]⟩] : List ByteArray)) rfl cb49 rfl rfl rfl rfl (fun wx hm => (some_any [⟨#[65, 66, 49]⟩, ⟨#[65, 66, 50]⟩, ⟨#[90, 90, 57]⟩] _ _ _ wx B sb _ hm.k (by omega) (by simp) (by simp) (hm.blkI 3 rfl) (hm.neRow 3 rfl rfl))) fun k15 hk15 => ?_
     have zk15 : k15.size <= 100 := mem_sz hk15 (by decide)
     refine wl_nil ?_
     refine nw 19 65535 (fun _ hm => ⟨hm.bl 1, hm.bl 0, hm.fa 0, hm.ownI 0 rfl, hm.ownI 1 rfl, hm.ownI 2 rfl, trivial⟩) fun z => ?_
     refine wt 16 19 131071 rfl z (ov_build (cs := [.int .i64 k2, .string u0, .string k15]) rfl (by kernel_rfl)) ?_
     have h := T131071 q1 k2 bk20 bk21 u0 hq0 q14 k15 zk15
     rw [hW] at h
     refine wa_weak ?_ ?_ h
     ·exact ⟨rfl, rfl, rfl, rfl, rfl, rfl, trivial⟩
     exact fun _ hm => hm.pick [0, 1, 2, 3] [0, 1, 2] [0] rfl rfl
    refine wl_alloc zc162 rfl fun q17 => ?_
    refine wl_nil ?_
    refine nw 19 163839 (fun _ hm => ⟨hm.bl 2, hm.bl 1, hm.fa 0, hm.ownI 0 rfl, hm.ownI 1 rfl, hm.ownI 2 rfl, trivial⟩) fun z => ?_
    have h := T163839 q1 k2 bk20 bk21 u0 hq0 q14 q17
    rw [hW] at h
    refine wa_weak ?_ ?_ h
    ·exact ⟨rfl, rfl, rfl, rfl, rfl, rfl, rfl, rfl, rfl, rfl, trivial⟩
    exact fun _ hm => hm.pick [1, 2, 3, 4, 0] [0, 1, 2] [0] rfl rfl
   have T147455 : ∀ (q1 : Nat) (k2 : Int) (bk20 : 0 <= k2) (bk21 : k2 <= 1000) (u0 : ByteArray) (hq0 : u0.size <= 1000) (q17 : Nat), W 4 (lb 19 147455) [(0, .pointer (some ⟨sb, 0, none⟩)), (2, .pointer (some ⟨g1, 0, none⟩)), (3, .pointer (some ⟨g2, 0, none⟩)), (6, .pointer (some ⟨q17, 0, none⟩)), (49, .int .i64 ((R : Nat) : Int)), (50, .int .i64 ((j : Nat) : Int)), (58, .int .i64 k2), (68, .string u0), (69, .pointer (some ⟨sb, 0, none⟩))] (fun w => Strm 25 w B sb (m + 140 + 10 * j + 1 + 1)) [(g1, 62, [.slice none 0 0, .slice none 0 0, .slice none 0 0, .slice none 0 0]), (g2, 62, [.slice sA sn sc, .slice cA 4 cc, .slice (some ⟨bv, 0, none⟩) k vc, .slice pA pn pc]), (q1, 3, [.int .i64 0, .int .i64 0, .int .i64 50, .int .i64 100, .int .i64 200, .int .i64 1000]), (q17, 162, [.int .i64 0, .string ⟨#[]⟩, .string ⟨#[]⟩])] [⟨.slice pA pn pc, 162, 3, pn, pl.flatMap plEnc⟩, ⟨.slice (some ⟨bv, 0, none⟩) k vc, 160, 2, k, vl.flatMap vhEnc⟩, ⟨.slice sA sn sc, 152, 15, sn, sl.flatMap stEnc⟩] [fun wy => SlT csEnc 2 158 wy cA 4 cl] := by
    intro q1 k2 bk20 bk21 u0 hq0 q17
    rw [hW]
    refine wa1 14 rfl ?_
    refine wl_buildSlice (e := 9) (cs := [.string ⟨#[65, 66, 49]⟩, .string ⟨#[65, 66, 50]⟩, .string ⟨#[90, 90, 57]⟩]) rfl (by kernel_rfl) rfl fun g12 => ?_
    refine wl_nil ?_
    refine nw 19 163839 (fun _ hm => ⟨hm.bl 2, hm.bl 1, hm.fa 0, hm.ownI 0 rfl, hm.ownI 1 rfl, hm.ownI 2 rfl, trivial⟩) fun z => ?_
    refine wa1 15 rfl ?_
    refine wl_got (γ := ByteArray) (val := fun v => .string v) (φ := fun v => v ∈ ([⟨#[65, 66, 49]⟩, ⟨#[65, 66, 50]⟩, ⟨#[90, 90, 57]⟩] : List ByteArray)) rfl cb49 rfl rfl rfl rfl (fun wx hm => (some_any [⟨#[65, 66, 49]⟩, ⟨#[65, 66, 50]⟩, ⟨#[90, 90, 57]⟩] _ _ _ wx B sb _ hm.k (by omega) (by simp) (by simp) (hm.blkI 0 rfl) (hm.neRow 0 rfl rfl))) fun k15 hk15 => ?_
    have zk15 : k15.size <= 100 := mem_sz hk15 (by decide)
    refine wl_nil ?_
    refine nw 19 196607 (fun _ hm => ⟨hm.bl 2, hm.bl 1, hm.fa 0, hm.ownI 0 rfl, hm.ownI 1 rfl, hm.ownI 2 rfl, trivial⟩) fun z => ?_
    refine wt 16 19 262143 rfl z (ov_build (cs := [.int .i64 k2, .string u0, .string k15]) rfl (by kernel_rfl)) ?_
    refine wa1 18 rfl ?_
    refine wl_stores (cs' := [.int .i64 k2, .string u0, .string k15]) 4 rz162 rfl rfl rfl rfl rfl rfl rfl rfl ?_
    refine wl_nil ?_
    refine nw 19 524287 (fun _ hm => ⟨hm.bl 2, hm.bl 1, hm.fa 0, hm.ownI 0 rfl, hm.ownI 1 rfl, hm.ownI 2 rfl, trivial⟩) fun z => ?_
    refine wa_done (by kernel_rfl) ?_
    exact nx_meet (q17, k2, u0, k15) ⟨⟨by dsimp only; omega, by dsimp only; omega⟩, by dsimp only; omega, by dsimp only; omega⟩ ⟨rfl, rfl, rfl, rfl, rfl, rfl, trivial⟩ (fun _ hm => (hm.more rfl (by first | omega | (dsimp only; omega))).pick [4, 2, 1] [0, 1, 2] [0] rfl rfl)
   have J16383 : ∀ (q1 : Nat) (k2 : Int) (bk20 : 0 <= k2) (bk21 : k2 <= 1000) (u0 : ByteArray) (hq0 : u0.size <= 1000), W 5 (lb 19 16383) [(0, .pointer (some ⟨sb, 0, none⟩)), (2, .pointer (some ⟨g1, 0, none⟩)), (3, .pointer (some ⟨g2, 0, none⟩)), (49, .int .i64 ((R : Nat) : Int)), (50, .int .i64 ((j : Nat) : Int)), (58, .int .i64 k2), (68, .string u0), (69, .pointer (some ⟨sb, 0, none⟩))] (fun w => Strm 25 w B sb (m + 140 + 10 * j + 1 + 1)) [(g1, 62, [.slice none 0 0, .slice none 0 0, .slice none 0 0, .slice none 0 0]), (g2, 62, [.slice sA sn sc, .slice cA 4 cc, .slice (some ⟨bv, 0, none⟩) k vc, .slice pA pn pc]), (q1, 3, [.int .i64 0, .int .i64 0, .int .i64 50, .int .i64 100, .int .i64 200, .int .i64 1000])] [⟨.slice pA pn pc, 162, 3, pn, pl.flatMap plEnc⟩, ⟨.slice (some ⟨bv, 0, none⟩) k vc, 160, 2, k, vl.flatMap vhEnc⟩, ⟨.slice sA sn sc, 152, 15, sn, sl.flatMap stEnc⟩] [fun wy => SlT csEnc 2 158 wy cA 4 cl] := by
    intro q1 k2 bk20 bk21 u0 hq0
    rw [hW]
    refine wa_all [14, 17] (by kernel_rfl) rfl ⟨⟨_, rfl, ?_⟩, ⟨_, rfl, ?_⟩, trivial⟩
    ·refine wl_buildSlice (e := 9) (cs := [.string ⟨#[65, 66, 49]⟩, .string ⟨#[65, 66, 50]⟩, .string ⟨#[90, 90, 57]⟩]) rfl (by kernel_rfl) rfl fun q14 => ?_
     refine wl_nil ?_
     refine nw 19 32767 (fun _ hm => ⟨hm.bl 2, hm.bl 1, hm.fa 0, hm.ownI 0 rfl, hm.ownI 1 rfl, hm.ownI 2 rfl, trivial⟩) fun z => ?_
     have h := J32767 q1 k2 bk20 bk21 u0 hq0 q14
     rw [hW] at h
     refine wa_weak ?_ ?_ h
     ·exact ⟨rfl, rfl, rfl, rfl, rfl, rfl, rfl, rfl, rfl, trivial⟩
     exact fun _ hm => hm.pick [1, 2, 3, 0] [0, 1, 2] [0] rfl rfl
    refine wl_alloc zc162 rfl fun q17 => ?_
    refine wl_nil ?_
    refine nw 19 147455 (fun _ hm => ⟨hm.bl 2, hm.bl 1, hm.fa 0, hm.ownI 0 rfl, hm.ownI 1 rfl, hm.ownI 2 rfl, trivial⟩) fun z => ?_
    have h := T147455 q1 k2 bk20 bk21 u0 hq0 q17
    rw [hW] at h
    refine wa_weak ?_ ?_ h
    ·exact ⟨rfl, rfl, rfl, rfl, rfl, rfl, rfl, rfl, rfl, trivial⟩
    exact fun _ hm => hm.pick [1, 2, 3, 0] [0, 1, 2] [0] rfl rfl
   have T156159 : ∀ (q1 : Nat) (k2 : Int) (bk20 : 0 <= k2) (bk21 : k2 <= 1000) (q14 : Nat) (q17 : Nat), W 7 (lb 19 156159) [(0, .pointer (some ⟨sb, 0, none⟩)), (2, .pointer (some ⟨g1, 0, none⟩)), (3, .pointer (some ⟨g2, 0, none⟩)), (6, .pointer (some ⟨q17, 0, none⟩)), (49, .int .i64 ((R : Nat) : Int)), (50, .int .i64 ((j : Nat) : Int)), (58, .int .i64 k2), (60, .slice (some ⟨bv, 0, none⟩) k vc), (61, .pointer (some ⟨sb, 0, none⟩)), (64, .int .i64 ((k : Nat) : Int)), (69, .pointer (some ⟨sb, 0, none⟩)), (70, .slice (some ⟨q14, 0, none⟩) 3 3)] (fun w => Strm 25 w B sb (m + 140 + 10 * j + 1)) [(g1, 62, [.slice none 0 0, .slice none 0 0, .slice none 0 0, .slice none 0 0]), (g2, 62, [.slice sA sn sc, .slice cA 4 cc, .slice (some ⟨bv, 0, none⟩) k vc, .slice pA pn pc]), (q1, 3, [.int .i64 0, .int .i64 0, .int .i64 50, .int .i64 100, .int .i64 200, .int .i64 1000]), (q14, 9, [.string ⟨#[65, 66, 49]⟩, .string ⟨#[65, 66, 50]⟩, .string ⟨#[90, 90, 57]⟩]), (q17, 162, [.int .i64 0, .string ⟨#[]⟩, .string ⟨#[]⟩])] [⟨.slice pA pn pc, 162, 3, pn, pl.flatMap plEnc⟩, ⟨.slice (some ⟨bv, 0, none⟩) k vc, 160, 2, k, vl.flatMap vhEnc⟩, ⟨.slice sA sn sc, 152, 15, sn, sl.flatMap stEnc⟩] [fun wy => SlT csEnc 2 158 wy cA 4 cl] := by
    intro q1 k2 bk20 bk21 q14 q17
    rw [hW]
    refine wa1 9 rfl ?_
    refine wl_got (γ := Int) (val := fun v => .int .i64 v) (φ := fun v => IsBelow ((k : Nat) : Int) v) rfl cb66 rfl rfl rfl rfl (fun wx hm => (next_any _ wx B sb _ hm.k (by omega) (by omega) (by omega))) fun vj hvj => ?_
    have hj3 := isBelow_lt hvj (by omega)
    obtain ⟨j2, rfl⟩ := Int.eq_ofNat_of_zero_le hj3.1
    have hj2 : j2 < k := by omega
    obtain ⟨q, hq⟩ : ∃ q, vl[j2]? = some q := ⟨_, List.getElem?_eq_getElem (by omega)⟩
    obtain ⟨u0, u1⟩ := q
    have hqB := hvB _ (List.mem_of_getElem? hq)
    have hq0 : u0.size <= 1000 := hqB.1
    refine wl_nil ?_
    refine nw 19 156671 (fun _ hm => ⟨hm.bl 1, hm.bl 0, hm.fa 0, hm.ownI 0 rfl, hm.ownI 1 rfl, hm.ownI 2 rfl, trivial⟩) fun z => ?_
    refine wt 10 19 157695 rfl z (ov_index (j := j2) es59 rfl rfl (by omega)) ?_
    refine wt 11 19 159743 rfl z (ov_field fo160_0 rfl rfl) ?_
    refine wt 12 19 163839 rfl z (ov_elem1 (k := 0) (v := .string u0) sc9 rfl (fun _ hm => (SlT.ofOwn vh_len (hm.2.2.2.2.1) hvl)) hq rfl rfl) ?_
    refine wa1 15 rfl ?_
    refine wl_got (γ := ByteArray) (val := fun v => .string v) (φ := fun v => v ∈ ([⟨#[65, 66, 49]⟩, ⟨#[65, 66, 50]⟩, ⟨#[90, 90, 57]⟩] : List ByteArray)) rfl cb49 rfl rfl rfl rfl (fun wx hm => (some_any [⟨#[65, 66, 49]⟩, ⟨#[65, 66, 50]⟩, ⟨#[90, 90, 57]⟩] _ _ _ wx B sb _ hm.k (by omega) (by simp) (by simp) (hm.blkI 3 rfl) (hm.neRow 3 rfl rfl))) fun k15 hk15 => ?_
    have zk15 : k15.size <= 100 := mem_sz hk15 (by decide)
    refine wl_nil ?_
    refine nw 19 196607 (fun _ hm => ⟨hm.bl 1, hm.bl 0, hm.fa 0, hm.ownI 0 rfl, hm.ownI 1 rfl, hm.ownI 2 rfl, trivial⟩) fun z => ?_
    refine wt 16 19 262143 rfl z (ov_build (cs := [.int .i64 k2, .string u0, .string k15]) rfl (by kernel_rfl)) ?_
    refine wa1 18 rfl ?_
    refine wl_stores (cs' := [.int .i64 k2, .string u0, .string k15]) 4 rz162 rfl rfl rfl rfl rfl rfl rfl rfl ?_
    refine wl_nil ?_
    refine nw 19 524287 (fun _ hm => ⟨hm.bl 1, hm.bl 0, hm.fa 0, hm.ownI 0 rfl, hm.ownI 1 rfl, hm.ownI 2 rfl, trivial⟩) fun z => ?_
    refine wa_done (by kernel_rfl) ?_
    exact nx_meet (q17, k2, u0, k15) ⟨⟨by dsimp only; omega, by dsimp only; omega⟩, by dsimp only; omega, by dsimp only; omega⟩ ⟨rfl, rfl, rfl, rfl, rfl, rfl, trivial⟩ (fun _ hm => (hm.more rfl (by first | omega | (dsimp only; omega))).pick [4, 1, 0] [0, 1, 2] [0] rfl rfl)
   have J25087 : ∀ (q1 : Nat) (k2 : Int) (bk20 : 0 <= k2) (bk21 : k2 <= 1000) (q14 : Nat), W 8 (lb 19 25087) [(0, .pointer (some ⟨sb, 0, none⟩)), (2, .pointer (some ⟨g1, 0, none⟩)), (3, .pointer (some ⟨g2, 0, none⟩)), (49, .int .i64 ((R : Nat) : Int)), (50, .int .i64 ((j : Nat) : Int)), (58, .int .i64 k2), (60, .slice (some ⟨bv, 0, none⟩) k vc), (61, .pointer (some ⟨sb, 0, none⟩)), (64, .int .i64 ((k : Nat) : Int)), (69, .pointer (some ⟨sb, 0, none⟩)), (70, .slice (some ⟨q14, 0, none⟩) 3 3)] (fun w => Strm 25 w B sb (m + 140 + 10 * j + 1)) [(g1, 62, [.slice none 0 0, .slice none 0 0, .slice none 0 0, .slice none 0 0]), (g2, 62, [.slice sA sn sc, .slice cA 4 cc, .slice (some ⟨bv, 0, none⟩) k vc, .slice pA pn pc]), (q1, 3, [.int .i64 0, .int .i64 0, .int .i64 50, .int .i64 100, .int .i64 200, .int .i64 1000]), (q14, 9, [.string ⟨#[65, 66, 49]⟩, .string ⟨#[65, 66, 50]⟩, .string ⟨#[90, 90, 57]⟩])] [⟨.slice pA pn pc, 162, 3, pn, pl.flatMap plEnc⟩, ⟨.slice (some ⟨bv, 0, none⟩) k vc, 160, 2, k, vl.flatMap vhEnc⟩, ⟨.slice sA sn sc, 152, 15, sn, sl.flatMap stEnc⟩] [fun wy => SlT csEnc 2 158 wy cA 4 cl] := by
    intro q1 k2 bk20 bk21 q14
    rw [hW]
    refine wa_all [9, 17] (by kernel_rfl) rfl ⟨⟨_, rfl, ?_⟩, ⟨_, rfl, ?_⟩, trivial⟩
    ·refine wl_got (γ := Int) (val := fun v => .int .i64 v) (φ := fun v => IsBelow ((k : Nat) : Int) v) rfl cb66 rfl rfl rfl rfl (fun wx hm => (next_any _ wx B sb _ hm.k (by omega) (by omega) (by omega))) fun vj hvj => ?_
     have hj3 := isBelow_lt hvj (by omega)
     obtain ⟨j2, rfl⟩ := Int.eq_ofNat_of_zero_le hj3.1
     have hj2 : j2 < k := by omega
     obtain ⟨q, hq⟩ : ∃ q, vl[j2]? = some q := ⟨_, List.getElem?_eq_getElem (by omega)⟩
     obtain ⟨u0, u1⟩ := q
     have hqB := hvB _ (List.mem_of_getElem? hq)
     have hq0 : u0.size <= 1000 := hqB.1
     refine wl_nil ?_
     refine nw 19 25599 (fun _ hm => ⟨hm.bl 1, hm.bl 0, hm.fa 0, hm.ownI 0 rfl, hm.ownI 1 rfl, hm.ownI 2 rfl, trivial⟩) fun z => ?_
     refine wt 10 19 26623 rfl z (ov_index (j := j2) es59 rfl rfl (by omega)) ?_
     refine wt 11 19 28671 rfl z (ov_field fo160_0 rfl rfl) ?_
     refine wt 12 19 32767 rfl z (ov_elem1 (k := 0) (v := .string u0) sc9 rfl (fun _ hm => (SlT.ofOwn vh_len (hm.2.2.2.2.1) hvl)) hq rfl rfl) ?_
     have h := J32767 q1 k2 bk20 bk21 u0 hq0 q14
     rw [hW] at h
     refine wa_weak ?_ ?_ h
     ·exact ⟨rfl, rfl, rfl, rfl, rfl, rfl, rfl, rfl, rfl, trivial⟩
     exact fun _ hm => hm.pick [0, 1, 2, 3] [0, 1, 2] [0] rfl rfl
    refine wl_alloc zc162 rfl fun q17 => ?_
    refine wl_nil ?_
    refine nw 19 156159 (fun _ hm => ⟨hm.bl 2, hm.bl 1, hm.fa 0, hm.ownI 0 rfl, hm.ownI 1 rfl, hm.ownI 2 rfl, trivial⟩) fun z => ?_
    have h := T156159 q1 k2 bk20 bk21 q14 q17
    rw [hW] at h
    refine wa_weak ?_ ?_ h
    ·exact ⟨rfl, rfl, rfl, rfl, rfl, rfl, rfl, rfl, rfl, rfl, rfl, rfl, trivial⟩
    exact fun _ hm => hm.pick [1, 2, 3, 4, 0] [0, 1, 2] [0] rfl rfl
   have J139775 : ∀ (q1 : Nat) (k2 : Int) (bk20 : 0 <= k2) (bk21 : k2 <= 1000) (q17 : Nat), W 8 (lb 19 139775) [(0, .pointer (some ⟨sb, 0, none⟩)), (2, .pointer (some ⟨g1, 0, none⟩)), (3, .pointer (some ⟨g2, 0, none⟩)), (6, .pointer (some ⟨q17, 0, none⟩)), (49, .int .i64 ((R : Nat) : Int)), (50, .int .i64 ((j : Nat) : Int)), (58, .int .i64 k2), (60, .slice (some ⟨bv, 0, none⟩) k vc), (61, .pointer (some ⟨sb, 0, none⟩)), (64, .int .i64 ((k : Nat) : Int)), (69, .pointer (some ⟨sb, 0, none⟩))] (fun w => Strm 25 w B sb (m + 140 + 10 * j + 1)) [(g1, 62, [.slice none 0 0, .slice none 0 0, .slice none 0 0, .slice none 0 0]), (g2, 62, [.slice sA sn sc, .slice cA 4 cc, .slice (some ⟨bv, 0, none⟩) k vc, .slice pA pn pc]), (q1, 3, [.int .i64 0, .int .i64 0, .int .i64 50, .int .i64 100, .int .i64 200, .int .i64 1000]), (q17, 162, [.int .i64 0, .string ⟨#[]⟩, .string ⟨#[]⟩])] [⟨.slice pA pn pc, 162, 3, pn, pl.flatMap plEnc⟩, ⟨.slice (some ⟨bv, 0, none⟩) k vc, 160, 2, k, vl.flatMap vhEnc⟩, ⟨.slice sA sn sc, 152, 15, sn, sl.flatMap stEnc⟩] [fun wy => SlT csEnc 2 158 wy cA 4 cl] := by
    intro q1 k2 bk20 bk21 q17
    rw [hW]
    refine wa_all [9, 14] (by kernel_rfl) rfl ⟨⟨_, rfl, ?_⟩, ⟨_, rfl, ?_⟩, trivial⟩
    ·refine wl_got (γ := Int) (val := fun v => .int .i64 v) (φ := fun v => IsBelow ((k : Nat) : Int) v) rfl cb66 rfl rfl rfl rfl (fun wx hm => (next_any _ wx B sb _ hm.k (by omega) (by omega) (by omega))) fun vj hvj => ?_
     have hj3 := isBelow_lt hvj (by omega)
     obtain ⟨j2, rfl⟩ := Int.eq_ofNat_of_zero_le hj3.1
     have hj2 : j2 < k := by omega
     obtain ⟨q, hq⟩ : ∃ q, vl[j2]? = some q := ⟨_, List.getElem?_eq_getElem (by omega)⟩
     obtain ⟨u0, u1⟩ := q
     have hqB := hvB _ (List.mem_of_getElem? hq)
     have hq0 : u0.size <= 1000 := hqB.1
     refine wl_nil ?_
     refine nw 19 140287 (fun _ hm => ⟨hm.bl 1, hm.bl 0, hm.fa 0, hm.ownI 0 rfl, hm.ownI 1 rfl, hm.ownI 2 rfl, trivial⟩) fun z => ?_
     refine wt 10 19 141311 rfl z (ov_index (j := j2) es59 rfl rfl (by omega)) ?_
     refine wt 11 19 143359 rfl z (ov_field fo160_0 rfl rfl) ?_
     refine wt 12 19 147455 rfl z (ov_elem1 (k := 0) (v := .string u0) sc9 rfl (fun _ hm => (SlT.ofOwn vh_len (hm.2.2.2.2.1) hvl)) hq rfl rfl) ?_
     have h := T147455 q1 k2 bk20 bk21 u0 hq0 q17
     rw [hW] at h
     refine wa_weak ?_ ?_ h
     ·exact ⟨rfl, rfl, rfl, rfl, rfl, rfl, rfl, rfl, rfl, trivial⟩
     exact fun _ hm => hm.pick [0, 1, 2, 3] [0, 1, 2] [0] rfl rfl
    refine wl_buildSlice (e := 9) (cs := [.string ⟨#[65, 66, 49]⟩, .string ⟨#[65, 66, 50]⟩, .string ⟨#[90, 90, 57]⟩]) rfl (by kernel_rfl) rfl fun q14 => ?_
    refine wl_nil ?_
    refine nw 19 156159 (fun _ hm => ⟨hm.bl 2, hm.bl 1, hm.fa 0, hm.ownI 0 rfl, hm.ownI 1 rfl, hm.ownI 2 rfl, trivial⟩) fun z => ?_
    have h := T156159 q1 k2 bk20 bk21 q14 q17
    rw [hW] at h
    refine wa_weak ?_ ?_ h
    ·exact ⟨rfl, rfl, rfl, rfl, rfl, rfl, rfl, rfl, rfl, rfl, rfl, rfl, trivial⟩
    exact fun _ hm => hm.pick [1, 2, 3, 0, 4] [0, 1, 2] [0] rfl rfl
   have J8703 : ∀ (q1 : Nat) (k2 : Int) (bk20 : 0 <= k2) (bk21 : k2 <= 1000), W 9 (lb 19 8703) [(0, .pointer (some ⟨sb, 0, none⟩)), (2, .pointer (some ⟨g1, 0, none⟩)), (3, .pointer (some ⟨g2, 0, none⟩)), (49, .int .i64 ((R : Nat) : Int)), (50, .int .i64 ((j : Nat) : Int)), (58, .int .i64 k2), (60, .slice (some ⟨bv, 0, none⟩) k vc), (61, .pointer (some ⟨sb, 0, none⟩)), (64, .int .i64 ((k : Nat) : Int)), (69, .pointer (some ⟨sb, 0, none⟩))] (fun w => Strm 25 w B sb (m + 140 + 10 * j + 1)) [(g1, 62, [.slice none 0 0, .slice none 0 0, .slice none 0 0, .slice none 0 0]), (g2, 62, [.slice sA sn sc, .slice cA 4 cc, .slice (some ⟨bv, 0, none⟩) k vc, .slice pA pn pc]), (q1, 3, [.int .i64 0, .int .i64 0, .int .i64 50, .int .i64 100, .int .i64 200, .int .i64 1000])] [⟨.slice pA pn pc, 162, 3, pn, pl.flatMap plEnc⟩, ⟨.slice (some ⟨bv, 0, none⟩) k vc, 160, 2, k, vl.flatMap vhEnc⟩, ⟨.slice sA sn sc, 152, 15, sn, sl.flatMap stEnc⟩] [fun wy => SlT csEnc 2 158 wy cA 4 cl] := by
    intro q1 k2 bk20 bk21
    rw [hW]
    refine wa_all [9, 14, 17] (by kernel_rfl) rfl ⟨⟨_, rfl, ?_⟩, ⟨_, rfl, ?_⟩, ⟨_, rfl, ?_⟩, trivial⟩
    ·refine wl_got (γ := Int) (val := fun v => .int .i64 v) (φ := fun v => IsBelow ((k : Nat) : Int) v) rfl cb66 rfl rfl rfl rfl (fun wx hm => (next_any _ wx B sb _ hm.k (by omega) (by omega) (by omega))) fun vj hvj => ?_
     have hj3 := isBelow_lt hvj (by omega)
     obtain ⟨j2, rfl⟩ := Int.eq_ofNat_of_zero_le hj3.1
     have hj2 : j2 < k := by omega
     obtain ⟨q, hq⟩ : ∃ q, vl[j2]? = some q := ⟨_, List.getElem?_eq_getElem (by omega)⟩
     obtain ⟨u0, u1⟩ := q
     have hqB := hvB _ (List.mem_of_getElem? hq)
     have hq0 : u0.size <= 1000 := hqB.1
     refine wl_nil ?_
     refine nw 19 9215 (fun _ hm => ⟨hm.bl 1, hm.bl 0, hm.fa 0, hm.ownI 0 rfl, hm.ownI 1 rfl, hm.ownI 2 rfl, trivial⟩) fun z => ?_
     refine wt 10 19 10239 rfl z (ov_index (j := j2) es59 rfl rfl (by omega)) ?_
     refine wt 11 19 12287 rfl z (ov_field fo160_0 rfl rfl) ?_
     refine wt 12 19 16383 rfl z (ov_elem1 (k := 0) (v := .string u0) sc9 rfl (fun _ hm => (SlT.ofOwn vh_len (hm.2.2.2.2.1) hvl)) hq rfl rfl) ?_
     have h := J16383 q1 k2 bk20 bk21 u0 hq0
     rw [hW] at h
     refine wa_weak ?_ ?_ h
     ·exact ⟨rfl, rfl, rfl, rfl, rfl, rfl, rfl, rfl, trivial⟩
     exact fun _ hm => hm.pick [0, 1, 2] [0, 1, 2] [0] rfl rfl
    ·refine wl_buildSlice (e := 9) (cs := [.string ⟨#[65, 66, 49]⟩, .string ⟨#[65, 66, 50]⟩, .string ⟨#[90, 90, 57]⟩]) rfl (by kernel_rfl) rfl fun q14 => ?_
     refine wl_nil ?_
     refine nw 19 25087 (fun _ hm => ⟨hm.bl 2, hm.bl 1, hm.fa 0, hm.ownI 0 rfl, hm.ownI 1 rfl, hm.ownI 2 rfl, trivial⟩) fun z => ?_
     have h := J25087 q1 k2 bk20 bk21 q14
     rw [hW] at h
     refine wa_weak ?_ ?_ h
     ·exact ⟨rfl, rfl, rfl, rfl, rfl, rfl, rfl, rfl, rfl, rfl, rfl, trivial⟩
     exact fun _ hm => hm.pick [1, 2, 3, 0] [0, 1, 2] [0] rfl rfl
    refine wl_alloc zc162 rfl fun q17 => ?_
    refine wl_nil ?_
    refine nw 19 139775 (fun _ hm => ⟨hm.bl 2, hm.bl 1, hm.fa 0, hm.ownI 0 rfl, hm.ownI 1 rfl, hm.ownI 2 rfl, trivial⟩) fun z => ?_
    have h := J139775 q1 k2 bk20 bk21 q17
    rw [hW] at h
    refine wa_weak ?_ ?_ h
    ·exact ⟨rfl, rfl, rfl, rfl, rfl, rfl, rfl, rfl, rfl, rfl, rfl, trivial⟩
    exact fun _ hm => hm.pick [1, 2, 3, 0] [0, 1, 2] [0] rfl rfl
   have T156155 : ∀ (q1 : Nat) (q14 : Nat) (q17 : Nat), W 8 (lb 19 156155) [(0, .pointer (some ⟨sb, 0, none⟩)), (2, .pointer (some ⟨g1, 0, none⟩)), (3, .pointer (some ⟨g2, 0, none⟩)), (6, .pointer (some ⟨q17, 0, none⟩)), (49, .int .i64 ((R : Nat) : Int)), (50, .int .i64 ((j : Nat) : Int)), (56, .pointer (some ⟨sb, 0, none⟩)), (57, .slice (some ⟨q1, 0, none⟩) 6 6), (60, .slice (some ⟨bv, 0, none⟩) k vc), (61, .pointer (some ⟨sb, 0, none⟩)), (64, .int .i64 ((k : Nat) : Int)), (69, .pointer (some ⟨sb, 0, none⟩)), (70, .slice (some ⟨q14, 0, none⟩) 3 3)] (fun w => Strm 25 w B sb (m + 140 + 10 * j)) [(g1, 62, [.slice none 0 0, .slice none 0 0, .slice none 0 0, .slice none 0 0]), (g2, 62, [.slice sA sn sc, .slice cA 4 cc, .slice (some ⟨bv, 0, none⟩) k vc, .slice pA pn pc]), (q1, 3, [.int .i64 0, .int .i64 0, .int .i64 50, .int .i64 100, .int .i64 200, .int .i64 1000]), (q14, 9, [.string ⟨#[65, 66, 49]⟩, .string ⟨#[65, 66, 50]⟩, .string ⟨#[90, 90, 57]⟩]), (q17, 162, [.int .i64 0, .string ⟨#[]⟩, .string ⟨#[]⟩])] [⟨.slice pA pn pc, 162, 3, pn, pl.flatMap plEnc⟩, ⟨.slice (some ⟨bv, 0, none⟩) k vc, 160, 2, k, vl.flatMap vhEnc⟩, ⟨.slice sA sn sc, 152, 15, sn, sl.flatMap stEnc⟩] [fun wy => SlT csEnc 2 158 wy cA 4 cl] := by
    intro q1 q14 q17
    rw [hW]
    refine wa1 2 rfl ?_
    refine wl_got (γ := Int) (val := fun v => .int .i64 v) (φ := fun v => v ∈ ([0, 0, 50, 100, 200, 1000] : List Int)) rfl cb11 rfl rfl rfl rfl (fun wx hm => (pick_any [0, 0, 50, 100, 200, 1000] _ _ _ wx B sb _ hm.k (by omega) (by simp) (by simp) (hm.blkI 2 rfl) (hm.neRow 2 rfl rfl))) fun k2 hk2 => ?_
    have bk2 : 0 <= k2 /\ k2 <= 1000 := mem_rng hk2 (by decide)
    have bk20 := bk2.1
    have bk21 := bk2.2
    clear bk2
    refine wl_nil ?_
    refine nw 19 156159 (fun _ hm => ⟨hm.bl 1, hm.bl 0, hm.fa 0, hm.ownI 0 rfl, hm.ownI 1 rfl, hm.ownI 2 rfl, trivial⟩) fun z => ?_
    refine wa1 9 rfl ?_
    refine wl_got (γ := Int) (val := fun v => .int .i64 v) (φ := fun v => IsBelow ((k : Nat) : Int) v) rfl cb66 rfl rfl rfl rfl (fun wx hm => (next_any _ wx B sb _ hm.k (by omega) (by omega) (by omega))) fun vj hvj => ?_
    have hj3 := isBelow_lt hvj (by omega)
    obtain ⟨j2, rfl⟩ := Int.eq_ofNat_of_zero_le hj3.1
    have hj2 : j2 < k := by omega
    obtain ⟨q, hq⟩ : ∃ q, vl[j2]? = some q := ⟨_, List.getElem?_eq_getElem (by omega)⟩
    obtain ⟨u0, u1⟩ := q
    have hqB := hvB _ (List.mem_of_getElem? hq)
    have hq0 : u0.size <= 1000 := hqB.1
    refine wl_nil ?_
    refine nw 19 156671 (fun _ hm => ⟨hm.bl 1, hm.bl 0, hm.fa 0, hm.ownI 0 rfl, hm.ownI 1 rfl, hm.ownI 2 rfl, trivial⟩) fun z => ?_
    refine wt 10 19 157695 rfl z (ov_index (j := j2) es59 rfl rfl (by omega)) ?_
    refine wt 11 19 159743 rfl z (ov_field fo160_0 rfl rfl) ?_
    refine wt 12 19 163839 rfl z (ov_elem1 (k := 0) (v := .string u0) sc9 rfl (fun _ hm => (SlT.ofOwn vh_len (hm.2.2.2.2.1) hvl)) hq rfl rfl) ?_
    refine wa1 15 rfl ?_
    refine wl_got (γ := ByteArray) (val := fun v => .string v) (φ := fun v => v ∈ ([⟨#[65, 66, 49]⟩, ⟨#[65, 66, 50]⟩, ⟨#[90, 90, 57]⟩] : List ByteArray)) rfl cb49 rfl rfl rfl rfl (fun wx hm => (some_any [⟨#[65, 66, 49]⟩, ⟨#[65, 66, 50]⟩, ⟨#[90, 90, 57]⟩] _ _ _ wx B sb _ hm.k (by omega) (by simp) (by simp) (hm.blkI 3 rfl) (hm.neRow 3 rfl rfl))) fun k15 hk15 => ?_
    have zk15 : k15.size <= 100 := mem_sz hk15 (by decide)
    refine wl_nil ?_
    refine nw 19 196607 (fun _ hm => ⟨hm.bl 1, hm.bl 0, hm.fa 0, hm.ownI 0 rfl, hm.ownI 1 rfl, hm.ownI 2 rfl, trivial⟩) fun z => ?_
    refine wt 16 19 262143 rfl z (ov_build (cs := [.int .i64 k2, .string u0, .string k15]) rfl (by kernel_rfl)) ?_
    refine wa1 18 rfl ?_
    refine wl_stores (cs' := [.int .i64 k2, .string u0, .string k15]) 4 rz162 rfl rfl rfl rfl rfl rfl rfl rfl ?_
    refine wl_nil ?_
    refine nw 19 524287 (fun _ hm => ⟨hm.bl 1, hm.bl 0, hm.fa 0, hm.ownI 0 rfl, hm.ownI 1 rfl, hm.ownI 2 rfl, trivial⟩) fun z => ?_
    refine wa_done (by kernel_rfl) ?_
    exact nx_meet (q17, k2, u0, k15) ⟨⟨by dsimp only; omega, by dsimp only; omega⟩, by dsimp only; omega, by dsimp only; omega⟩ ⟨rfl, rfl, rfl, rfl, rfl, rfl, trivial⟩ (fun _ hm => (hm.more rfl (by first | omega | (dsimp only; omega))).pick [4, 1, 0] [0, 1, 2] [0] rfl rfl)
   have J25083 : ∀ (q1 : Nat) (q14 : Nat), W 9 (lb 19 25083) [(0, .pointer (some ⟨sb, 0, none⟩)), (2, .pointer (some ⟨g1, 0, none⟩)), (3, .pointer (some ⟨g2, 0, none⟩)), (49, .int .i64 ((R : Nat) : Int)), (50, .int .i64 ((j : Nat) : Int)), (56, .pointer (some ⟨sb, 0, none⟩)), (57, .slice (some ⟨q1, 0, none⟩) 6 6), (60, .slice (some ⟨bv, 0, none⟩) k vc), (61, .pointer (some ⟨sb, 0, none⟩)), (64, .int .i64 ((k : Nat) : Int)), (69, .pointer (some ⟨sb, 0, none⟩)), (70, .slice (some ⟨q14, 0, none⟩) 3 3)] (fun w => Strm 25 w B sb (m + 140 + 10 * j)) [(g1, 62, [.slice none 0 0, .slice none 0 0, .slice none 0 0, .slice none 0 0]), (g2, 62, [.slice sA sn sc, .slice cA 4 cc, .slice (some ⟨bv, 0, none⟩) k vc, .slice pA pn pc]), (q1, 3, [.int .i64 0, .int .i64 0, .int .i64 50, .int .i64 100, .int .i64 200, .int .i64 1000]), (q14, 9, [.string ⟨#[65, 66, 49]⟩, .string ⟨#[65, 66, 50]⟩, .string ⟨#[90, 90, 57]⟩])] [⟨.slice pA pn pc, 162, 3, pn, pl.flatMap plEnc⟩, ⟨.slice (some ⟨bv, 0, none⟩) k vc, 160, 2, k, vl.flatMap vhEnc⟩, ⟨.slice sA sn sc, 152, 15, sn, sl.flatMap stEnc⟩] [fun wy => SlT csEnc 2 158 wy cA 4 cl] := by
    intro q1 q14
    rw [hW]
    refine wa_all [2, 17] (by kernel_rfl) rfl ⟨⟨_, rfl, ?_⟩, ⟨_, rfl, ?_⟩, trivial⟩
    ·refine wl_got (γ := Int) (val := fun v => .int .i64 v) (φ := fun v => v ∈ ([0, 0, 50, 100, 200, 1000] : List Int)) rfl cb11 rfl rfl rfl rfl (fun wx hm => (pick_any [0, 0, 50, 100, 200, 1000] _ _ _ wx B sb _ hm.k (by omega) (by simp) (by simp) (hm.blkI 2 rfl) (hm.neRow 2 rfl rfl))) fun k2 hk2 => ?_
     have bk2 : 0 <= k2 /\ k2 <= 1000 := mem_rng hk2 (by decide)
     have bk20 := bk2.1
     have bk21 := bk2.2
     clear bk2
     refine wl_nil ?_
     refine nw 19 25087 (fun _ hm => ⟨hm.bl 1, hm.bl 0, hm.fa 0, hm.ownI 0 rfl, hm.ownI 1 rfl, hm.ownI 2 rfl, trivial⟩) fun z => ?_
     have h := J25087 q1 k2 bk20 bk21 q14
     rw [hW] at h
     refine wa_weak ?_ ?_ h
     ·exact ⟨rfl, rfl, rfl, rfl, rfl, rfl, rfl, rfl, rfl, rfl, rfl, trivial⟩
     exact fun _ hm => hm.pick [0, 1, 2, 3] [0, 1, 2] [0] rfl rfl
    refine wl_alloc zc162 rfl fun q17 => ?_
    refine wl_nil ?_
    refine nw 19 156155 (fun _ hm => ⟨hm.bl 2, hm.bl 1, hm.fa 0, hm.ownI 0 rfl, hm.ownI 1 rfl, hm.ownI 2 rfl, trivial⟩) fun z => ?_
    have h := T156155 q1 q14 q17
    rw [hW] at h
    refine wa_weak ?_ ?_ h
    ·exact ⟨rfl, rfl, rfl, rfl, rfl, rfl, rfl, rfl, rfl, rfl, rfl, rfl, rfl, trivial⟩
    exact fun _ hm => hm.pick [1, 2, 3, 4, 0] [0, 1, 2] [0] rfl rfl
   have J139771 : ∀ (q1 : Nat) (q17 : Nat), W 9 (lb 19 139771) [(0, .pointer (some ⟨sb, 0, none⟩)), (2, .pointer (some ⟨g1, 0, none⟩)), (3, .pointer (some ⟨g2, 0, none⟩)), (6, .pointer (some ⟨q17, 0, none⟩)), (49, .int .i64 ((R : Nat) : Int)), (50, .int .i64 ((j : Nat) : Int)), (56, .pointer (some ⟨sb, 0, none⟩)), (57, .slice (some ⟨q1, 0, none⟩) 6 6), (60, .slice (some ⟨bv, 0, none⟩) k vc), (61, .pointer (some ⟨sb, 0, none⟩)), (64, .int .i64 ((k : Nat) : Int)), (69, .pointer (some ⟨sb, 0, none⟩))] (fun w => Strm 25 w B sb (m + 140 + 10 * j)) [(g1, 62, [.slice none 0 0, .slice none 0 0, .slice none 0 0, .slice none 0 0]), (g2, 62, [.slice sA sn sc, .slice cA 4 cc, .slice (some ⟨bv, 0, none⟩) k vc, .slice pA pn pc]), (q1, 3, [.int .i64 0, .int .i64 0, .int .i64 50, .int .i64 100, .int .i64 200, .int .i64 1000]), (q17, 162, [.int .i64 0, .string ⟨#[]⟩, .string ⟨#[]⟩])] [⟨.slice pA pn pc, 162, 3, pn, pl.flatMap plEnc⟩, ⟨.slice (some ⟨bv, 0, none⟩) k vc, 160, 2, k, vl.flatMap vhEnc⟩, ⟨.slice sA sn sc, 152, 15, sn, sl.flatMap stEnc⟩] [fun wy => SlT csEnc 2 158 wy cA 4 cl] := by
    intro q1 q17
    rw [hW]
    refine wa_all [2, 14] (by kernel_rfl) rfl ⟨⟨_, rfl, ?_⟩, ⟨_, rfl, ?_⟩, trivial⟩
    ·refine wl_got (γ := Int) (val := fun v => .int .i64 v) (φ := fun v => v ∈ ([0, 0, 50, 100, 200, 1000] : List Int)) rfl cb11 rfl rfl rfl rfl (fun wx hm => (pick_any [0, 0, 50, 100, 200, 1000] _ _ _ wx B sb _ hm.k (by omega) (by simp) (by simp) (hm.blkI 2 rfl) (hm.neRow 2 rfl rfl))) fun k2 hk2 => ?_
     have bk2 : 0 <= k2 /\ k2 <= 1000 := mem_rng hk2 (by decide)
     have bk20 := bk2.1
     have bk21 := bk2.2
     clear bk2
     refine wl_nil ?_
     refine nw 19 139775 (fun _ hm => ⟨hm.bl 1, hm.bl 0, hm.fa 0, hm.ownI 0 rfl, hm.ownI 1 rfl, hm.ownI 2 rfl, trivial⟩) fun z => ?_
     have h := J139775 q1 k2 bk20 bk21 q17
     rw [hW] at h
     refine wa_weak ?_ ?_ h
     ·exact ⟨rfl, rfl, rfl, rfl, rfl, rfl, rfl, rfl, rfl, rfl, rfl, trivial⟩
     exact fun _ hm => hm.pick [0, 1, 2, 3] [0, 1, 2] [0] rfl rfl
    refine wl_buildSlice (e := 9) (cs := [.string ⟨#[65, 66, 49]⟩, .string ⟨#[65, 66, 50]⟩, .string ⟨#[90, 90, 57]⟩]) rfl (by kernel_rfl) rfl fun q14 => ?_
    refine wl_nil ?_
    refine nw 19 156155 (fun _ hm => ⟨hm.bl 2, hm.bl 1, hm.fa 0, hm.ownI 0 rfl, hm.ownI 1 rfl, hm.ownI 2 rfl, trivial⟩) fun z => ?_
    have h := T156155 q1 q14 q17
    rw [hW] at h
    refine wa_weak ?_ ?_ h
    ·exact ⟨rfl, rfl, rfl, rfl, rfl, rfl, rfl, rfl, rfl, rfl, rfl, rfl, rfl, trivial⟩
    exact fun _ hm => hm.pick [1, 2, 3, 0, 4] [0, 1, 2] [0] rfl rfl
   have J8699 : ∀ (q1 : Nat), W 10 (lb 19 8699) [(0, .pointer (some ⟨sb, 0, none⟩)), (2, .pointer (some ⟨g1, 0, none⟩)), (3, .pointer (some ⟨g2, 0, none⟩)), (49, .int .i64 ((R : Nat) : Int)), (50, .int .i64 ((j : Nat) : Int)), (56, .pointer (some ⟨sb, 0, none⟩)), (57, .slice (some ⟨q1, 0, none⟩) 6 6), (60, .slice (some ⟨bv, 0, none⟩) k vc), (61, .pointer (some ⟨sb, 0, none⟩)), (64, .int .i64 ((k : Nat) : Int)), (69, .pointer (some ⟨sb, 0, none⟩))] (fun w => Strm 25 w B sb (m + 140 + 10 * j)) [(g1, 62, [.slice none 0 0, .slice none 0 0, .slice none 0 0, .slice none 0 0]), (g2, 62, [.slice sA sn sc, .slice cA 4 cc, .slice (some ⟨bv, 0, none⟩) k vc, .slice pA pn pc]), (q1, 3, [.int .i64 0, .int .i64 0, .int .i64 50, .int .i64 100, .int .i64 200, .int .i64 1000])] [⟨.slice pA pn pc, 162, 3, pn, pl.flatMap plEnc⟩, ⟨.slice (some ⟨bv, 0, none⟩) k vc, 160, 2, k, vl.flatMap vhEnc⟩, ⟨.slice sA sn sc, 152, 15, sn, sl.flatMap stEnc⟩] [fun wy => SlT csEnc 2 158 wy cA 4 cl] := by
    intro q1
    rw [hW]
    refine wa_all [2, 14, 17] (by kernel_rfl) rfl ⟨⟨_, rfl, ?_⟩, ⟨_, rfl, ?_⟩, ⟨_, rfl, ?_⟩, trivial⟩
    ·refine wl_got (γ := Int) (val := fun v => .int .i64 v) (φ := fun v => v ∈ ([0, 0, 50, 100, 200, 1000] : List Int)) rfl cb11 rfl rfl rfl rfl (fun wx hm => (pick_any [0, 0, 50, 100, 200, 1000] _ _ _ wx B sb _ hm.k (by omega) (by simp) (by simp) (hm.blkI 2 rfl) (hm.neRow 2 rfl rfl))) fun k2 hk2 => ?_
     have bk2 : 0 <= k2 /\ k2 <= 1000 := mem_rng hk2 (by decide)
     have bk20 := bk2.1
     have bk21 := bk2.2
     clear bk2
     refine wl_nil ?_
     refine nw 19 8703 (fun _ hm => ⟨hm.bl 1, hm.bl 0, hm.fa 0, hm.ownI 0 rfl, hm.ownI 1 rfl, hm.ownI 2 rfl, trivial⟩) fun z => ?_
     have h := J8703 q1 k2 bk20 bk21
     rw [hW] at h
     refine wa_weak ?_ ?_ h
     ·exact ⟨rfl, rfl, rfl, rfl, rfl, rfl, rfl, rfl, rfl, rfl, trivial⟩
     exact fun _ hm => hm.pick [0, 1, 2] [0, 1, 2] [0] rfl rfl
    ·refine wl_buildSlice (e := 9) (cs := [.string ⟨#[65, 66, 49]⟩, .string ⟨#[65, 66, 50]⟩, .string ⟨#[90, 90, 57]⟩]) rfl (by kernel_rfl) rfl fun q14 => ?_
     refine wl_nil ?_
     refine nw 19 25083 (fun _ hm => ⟨hm.bl 2, hm.bl 1, hm.fa 0, hm.ownI 0 rfl, hm.ownI 1 rfl, hm.ownI 2 rfl, trivial⟩) fun z => ?_
     have h := J25083 q1 q14
     rw [hW] at h
     refine wa_weak ?_ ?_ h
     ·exact ⟨rfl, rfl, rfl, rfl, rfl, rfl, rfl, rfl, rfl, rfl, rfl, rfl, trivial⟩
     exact fun _ hm => hm.pick [1, 2, 3, 0] [0, 1, 2] [0] rfl rfl
    refine wl_alloc zc162 rfl fun q17 => ?_
    refine wl_nil ?_
    refine nw 19 139771 (fun _ hm => ⟨hm.bl 2, hm.bl 1, hm.fa 0, hm.ownI 0 rfl, hm.ownI 1 rfl, hm.ownI 2 rfl, trivial⟩) fun z => ?_
    have h := J139771 q1 q17
    rw [hW] at h
    refine wa_weak ?_ ?_ h
    ·exact ⟨rfl, rfl, rfl, rfl, rfl, rfl, rfl, rfl, rfl, rfl, rfl, rfl, trivial⟩
    exact fun _ hm => hm.pick [1, 2, 3, 0] [0, 1, 2] [0] rfl rfl
   have T156153 : ∀ (q14 : Nat) (q17 : Nat), W 9 (lb 19 156153) [(0, .pointer (some ⟨sb, 0, none⟩)), (2, .pointer (some ⟨g1, 0, none⟩)), (3, .pointer (some ⟨g2, 0, none⟩)), (6, .pointer (some ⟨q17, 0, none⟩)), (49, .int .i64 ((R : Nat) : Int)), (50, .int .i64 ((j : Nat) : Int)), (56, .pointer (some ⟨sb, 0, none⟩)), (60, .slice (some ⟨bv, 0, none⟩) k vc), (61, .pointer (some ⟨sb, 0, none⟩)), (64, .int .i64 ((k : Nat) : Int)), (69, .pointer (some ⟨sb, 0, none⟩)), (70, .slice (some ⟨q14, 0, none⟩) 3 3)] (fun w => Strm 25 w B sb (m + 140 + 10 * j)) [(g1, 62, [.slice none 0 0, .slice none 0 0, .slice none 0 0, .slice none 0 0]), (g2, 62, [.slice sA sn sc, .slice cA 4 cc, .slice (some ⟨bv, 0, none⟩) k vc, .slice pA pn pc]), (q14, 9, [.string ⟨#[65, 66, 49]⟩, .string ⟨#[65, 66, 50]⟩, .string ⟨#[90, 90, 57]⟩]), (q17, 162, [.int .i64 0, .string ⟨#[]⟩, .string ⟨#[]⟩])] [⟨.slice pA pn pc, 162, 3, pn, pl.flatMap plEnc⟩, ⟨.slice (some ⟨bv, 0, none⟩) k vc, 160, 2, k, vl.flatMap vhEnc⟩, ⟨.slice sA sn sc, 152, 15, sn, sl.flatMap stEnc⟩] [fun wy => SlT csEnc 2 158 wy cA 4 cl] := by
    intro q14 q17
    rw [hW]
    refine wa1 1 rfl ?_
    refine wl_buildSlice (e := 3) (cs := [.int .i64 0, .int .i64 0, .int .i64 50, .int .i64 100, .int .i64 200, .int .i64 1000]) rfl (by kernel_rfl) rfl fun g13 => ?_
    refine wl_nil ?_
    refine nw 19 156155 (fun _ hm => ⟨hm.bl 2, hm.bl 1, hm.fa 0, hm.ownI 0 rfl, hm.ownI 1 rfl, hm.ownI 2 rfl, trivial⟩) fun z => ?_
    refine wa1 2 rfl ?_
    refine wl_got (γ := Int) (val := fun v => .int .i64 v) (φ := fun v => v ∈ ([0, 0, 50, 100, 200, 1000] : List Int)) rfl cb11 rfl rfl rfl rfl (fun wx hm => (pick_any [0, 0, 50, 100, 200, 1000] _ _ _ wx B sb _ hm.k (by omega) (by simp) (by simp) (hm.blkI 0 rfl) (hm.neRow 0 rfl rfl))) fun k2 hk2 => ?_
    have bk2 : 0 <= k2 /\ k2 <= 1000 := mem_rng hk2 (by decide)
    have bk20 := bk2.1
    have bk21 := bk2.2
    clear bk2
    refine wl_nil ?_
    refine nw 19 156159 (fun _ hm => ⟨hm.bl 2, hm.bl 1, hm.fa 0, hm.ownI 0 rfl, hm.ownI 1 rfl, hm.ownI 2 rfl, trivial⟩) fun z => ?_
    refine wa1 9 rfl ?_
    refine wl_got (γ := Int) (val := fun v => .int .i64 v) (φ := fun v => IsBelow ((k : Nat) : Int) v) rfl cb66 rfl rfl rfl rfl (fun wx hm => (next_any _ wx B sb _ hm.k (by omega) (by omega) (by omega))) fun vj hvj => ?_
    have hj3 := isBelow_lt hvj (by omega)
    obtain ⟨j2, rfl⟩ := Int.eq_ofNat_of_zero_le hj3.1
    have hj2 : j2 < k := by omega
    obtain ⟨q, hq⟩ : ∃ q, vl[j2]? = some q := ⟨_, List.getElem?_eq_getElem (by omega)⟩
    obtain ⟨u0, u1⟩ := q
    have hqB := hvB _ (List.mem_of_getElem? hq)
    have hq0 : u0.size <= 1000 := hqB.1
    refine wl_nil ?_
    refine nw 19 156671 (fun _ hm => ⟨hm.bl 2, hm.bl 1, hm.fa 0, hm.ownI 0 rfl, hm.ownI 1 rfl, hm.ownI 2 rfl, trivial⟩) fun z => ?_
    refine wt 10 19 157695 rfl z (ov_index (j := j2) es59 rfl rfl (by omega)) ?_
    refine wt 11 19 159743 rfl z (ov_field fo160_0 rfl rfl) ?_
    refine wt 12 19 163839 rfl z (ov_elem1 (k := 0) (v := .string u0) sc9 rfl (fun _ hm => (SlT.ofOwn vh_len (hm.2.2.2.2.1) hvl)) hq rfl rfl) ?_
    refine wa1 15 rfl ?_
    refine wl_got (γ := ByteArray) (val := fun v => .string v) (φ := fun v => v ∈ ([⟨#[65, 66, 49]⟩, ⟨#[65, 66, 50]⟩, ⟨#[90, 90, 57]⟩] : List ByteArray)) rfl cb49 rfl rfl rfl rfl (fun wx hm => (some_any [⟨#[65, 66, 49]⟩, ⟨#[65, 66, 50]⟩, ⟨#[90, 90, 57]⟩] _ _ _ wx B sb _ hm.k (by omega) (by simp) (by simp) (hm.blkI 3 rfl) (hm.neRow 3 rfl rfl))) fun k15 hk15 => ?_
    have zk15 : k15.size <= 100 := mem_sz hk15 (by decide)
    refine wl_nil ?_
    refine nw 19 196607 (fun _ hm => ⟨hm.bl 2, hm.bl 1, hm.fa 0, hm.ownI 0 rfl, hm.ownI 1 rfl, hm.ownI 2 rfl, trivial⟩) fun z => ?_
    refine wt 16 19 262143 rfl z (ov_build (cs := [.int .i64 k2, .string u0, .string k15]) rfl (by kernel_rfl)) ?_
    refine wa1 18 rfl ?_
    refine wl_stores (cs' := [.int .i64 k2, .string u0, .string k15]) 4 rz162 rfl rfl rfl rfl rfl rfl rfl rfl ?_
    refine wl_nil ?_
    refine nw 19 524287 (fun _ hm => ⟨hm.bl 2, hm.bl 1, hm.fa 0, hm.ownI 0 rfl, hm.ownI 1 rfl, hm.ownI 2 rfl, trivial⟩) fun z => ?_
    refine wa_done (by kernel_rfl) ?_
    exact nx_meet (q17, k2, u0, k15) ⟨⟨by dsimp only; omega, by dsimp only; omega⟩, by dsimp only; omega, by dsimp only; omega⟩ ⟨rfl, rfl, rfl, rfl, rfl, rfl, trivial⟩ (fun _ hm => (hm.more rfl (by first | omega | (dsimp only; omega))).pick [4, 2, 1] [0, 1, 2] [0] rfl rfl)
   have J25081 : ∀ (q14 : Nat), W 10 (lb 19 25081) [(0, .pointer (some ⟨sb, 0, none⟩)), (2, .pointer (some ⟨g1, 0, none⟩)), (3, .pointer (some ⟨g2, 0, none⟩)), (49, .int .i64 ((R : Nat) : Int)), (50, .int .i64 ((j : Nat) : Int)), (56, .pointer (some ⟨sb, 0, none⟩)), (60, .slice (some ⟨bv, 0, none⟩) k vc), (61, .pointer (some ⟨sb, 0, none⟩)), (64, .int .i64 ((k : Nat) : Int)), (69, .pointer (some ⟨sb, 0, none⟩)), (70, .slice (some ⟨q14, 0, none⟩) 3 3)] (fun w => Strm 25 w B sb (m + 140 + 10 * j)) [(g1, 62, [.slice none 0 0, .slice none 0 0, .slice none 0 0, .slice none 0 0]), (g2, 62, [.slice sA sn sc, .slice cA 4 cc, .slice (some ⟨bv, 0, none⟩) k vc, .slice pA pn pc]), (q14, 9, [.string ⟨#[65, 66, 49]⟩, .string ⟨#[65, 66, 50]⟩, .string ⟨#[90, 90, 57]⟩])] [⟨.slice pA pn pc, 162, 3, pn, pl.flatMap plEnc⟩, ⟨.slice (some ⟨bv, 0, none⟩) k vc, 160, 2, k, vl.flatMap vhEnc⟩, ⟨.slice sA sn sc, 152, 15, sn, sl.flatMap stEnc⟩] [fun wy => SlT csEnc 2 158 wy cA 4 cl] := by
    intro q14
    rw [hW]
    refine wa_all [1, 17] (by kernel_rfl) rfl ⟨⟨_, rfl, ?_⟩, ⟨_, rfl, ?_⟩, trivial⟩
    ·refine wl_buildSlice (e := 3) (cs := [.int .i64 0, .int .i64 0, .int .i64 50, .int .i64 100, .int .i64 200, .int .i64 1000]) rfl (by kernel_rfl) rfl fun q1 => ?_
     refine wl_nil ?_
     refine nw 19 25083 (fun _ hm => ⟨hm.bl 2, hm.bl 1, hm.fa 0, hm.ownI 0 rfl, hm.ownI 1 rfl, hm.ownI 2 rfl, trivial⟩) fun z => ?_
     have h := J25083 q1 q14
     rw [hW] at h
     refine wa_weak ?_ ?_ h
     ·exact ⟨rfl, rfl, rfl, rfl, rfl, rfl, rfl, rfl, rfl, rfl, rfl, rfl, trivial⟩
     exact fun _ hm => hm.pick [1, 2, 0, 3] [0, 1, 2] [0] rfl rfl
    refine wl_alloc zc162 rfl fun q17 => ?_
    refine wl_nil ?_
    refine nw 19 156153 (fun _ hm => ⟨hm.bl 2, hm.bl 1, hm.fa 0, hm.ownI 0 rfl, hm.ownI 1 rfl, hm.ownI 2 rfl, trivial⟩) fun z => ?_
    have h := T156153 q14 q17
    rw [hW] at h
    refine wa_weak ?_ ?_ h
    ·exact ⟨rfl, rfl, rfl, rfl, rfl, rfl, rfl, rfl, rfl, rfl, rfl, rfl, trivial⟩
    exact fun _ hm => hm.pick [1, 2, 3, 0] [0, 1, 2] [0] rfl rfl
   have J139769 : ∀ (q17 : Nat), W 10 (lb 19 139769) [(0, .pointer (some ⟨sb, 0, none⟩)), (2, .pointer (some ⟨g1, 0, none⟩)), (3, .pointer (some ⟨g2, 0, none⟩)), (6, .pointer (some ⟨q17, 0, none⟩)), (49, .int .i64 ((R : Nat) : Int)), (50, .int .i64 ((j : Nat) : Int)), (56, .pointer (some ⟨sb, 0, none⟩)), (60, .slice (some ⟨bv, 0, none⟩) k vc), (61, .pointer (some ⟨sb, 0, none⟩)), (64, .int .i64 ((k : Nat) : Int)), (69, .pointer (some ⟨sb, 0, none⟩))] (fun w => Strm 25 w B sb (m + 140 + 10 * j)) [(g1, 62, [.slice none 0 0, .slice none 0 0, .slice none 0 0, .slice none 0 0]), (g2, 62, [.slice sA sn sc, .slice cA 4 cc, .slice (some ⟨bv, 0, none⟩) k vc, .slice pA pn pc]), (q17, 162, [.int .i64 0, .string ⟨#[]⟩, .string ⟨#[]⟩])] [⟨.slice pA pn pc, 162, 3, pn, pl.flatMap plEnc⟩, ⟨.slice (some ⟨bv, 0, none⟩) k vc, 160, 2, k, vl.flatMap vhEnc⟩, ⟨.slice sA sn sc, 152, 15, sn, sl.flatMap stEnc⟩] [fun wy => SlT csEnc 2 158 wy cA 4 cl] := by
    intro q17
    rw [hW]
    refine wa_all [1, 14] (by kernel_rfl) rfl ⟨⟨_, rfl, ?_⟩, ⟨_, rfl, ?_⟩, trivial⟩
    ·refine wl_buildSlice (e := 3) (cs := [.int .i64 0, .int .i64 0, .int .i64 50, .int .i64 100, .int .i64 200, .int .i64 1000]) rfl (by kernel_rfl) rfl fun q1 => ?_
     refine wl_nil ?_
     refine nw 19 139771 (fun _ hm => ⟨hm.bl 2, hm.bl 1, hm.fa 0, hm.ownI 0 rfl, hm.ownI 1 rfl, hm.ownI 2 rfl, trivial⟩) fun z => ?_
     have h := J139771 q1 q17
     rw [hW] at h
     refine wa_weak ?_ ?_ h
     ·exact ⟨rfl, rfl, rfl, rfl, rfl, rfl, rfl, rfl, rfl, rfl, rfl, rfl, trivial⟩
     exact fun _ hm => hm.pick [1, 2, 0, 3] [0, 1, 2] [0] rfl rfl
    refine wl_buildSlice (e := 9) (cs := [.string ⟨#[65, 66, 49]⟩, .string ⟨#[65, 66, 50]⟩, .string ⟨#[90, 90, 57]⟩]) rfl (by kernel_rfl) rfl fun q14 => ?_
    refine wl_nil ?_
    refine nw 19 156153 (fun _ hm => ⟨hm.bl 2, hm.bl 1, hm.fa 0, hm.ownI 0 rfl, hm.ownI 1 rfl, hm.ownI 2 rfl, trivial⟩) fun z => ?_
    have h := T156153 q14 q17
    rw [hW] at h
    refine wa_weak ?_ ?_ h
    ·exact ⟨rfl, rfl, rfl, rfl, rfl, rfl, rfl, rfl, rfl, rfl, rfl, rfl, trivial⟩
    exact fun _ hm => hm.pick [1, 2, 0, 3] [0, 1, 2] [0] rfl rfl
   have J8697 : W 11 (lb 19 8697) [(0, .pointer (some ⟨sb, 0, none⟩)), (2, .pointer (some ⟨g1, 0, none⟩)), (3, .pointer (some ⟨g2, 0, none⟩)), (49, .int .i64 ((R : Nat) : Int)), (50, .int .i64 ((j : Nat) : Int)), (56, .pointer (some ⟨sb, 0, none⟩)), (60, .slice (some ⟨bv, 0, none⟩) k vc), (61, .pointer (some ⟨sb, 0, none⟩)), (64, .int .i64 ((k : Nat) : Int)), (69, .pointer (some ⟨sb, 0, none⟩))] (fun w => Strm 25 w B sb (m + 140 + 10 * j)) [(g1, 62, [.slice none 0 0, .slice none 0 0, .slice none 0 0, .slice none 0 0]), (g2, 62, [.slice sA sn sc, .slice cA 4 cc, .slice (some ⟨bv, 0, none⟩) k vc, .slice pA pn pc])] [⟨.slice pA pn pc, 162, 3, pn, pl.flatMap plEnc⟩, ⟨.slice (some ⟨bv, 0, none⟩) k vc, 160, 2, k, vl.flatMap vhEnc⟩, ⟨.slice sA sn sc, 152, 15, sn, sl.flatMap stEnc⟩] [fun wy => SlT csEnc 2 158 wy cA 4 cl] := by
    skip
    rw [hW]
    refine wa_all [1, 14, 17] (by kernel_rfl) rfl ⟨⟨_, rfl, ?_⟩, ⟨_, rfl, ?_⟩, ⟨_, rfl, ?_⟩, trivial⟩
    ·refine wl_buildSlice (e := 3) (cs := [.int .i64 0, .int .i64 0, .int .i64 50, .int .i64 100, .int .i64 200, .int .i64 1000]) rfl (by kernel_rfl) rfl fun q1 => ?_
     refine wl_nil ?_
     refine nw 19 8699 (fun _ hm => ⟨hm.bl 2, hm.bl 1, hm.fa 0, hm.ownI 0 rfl, hm.ownI 1 rfl, hm.ownI 2 rfl, trivial⟩) fun z => ?_
     have h := J8699 q1
     rw [hW] at h
     refine wa_weak ?_ ?_ h
     ·exact ⟨rfl, rfl, rfl, rfl, rfl, rfl, rfl, rfl, rfl, rfl, rfl, trivial⟩
     exact fun _ hm => hm.pick [1, 2, 0] [0, 1, 2] [0] rfl rfl
    ·refine wl_buildSlice (e := 9) (cs := [.string ⟨#[65, 66, 49]⟩, .string ⟨#[65, 66, 50]⟩, .string ⟨#[90, 90, 57]⟩]) rfl (by kernel_rfl) rfl fun q14 => ?_
     refine wl_nil ?_
     refine nw 19 25081 (fun _ hm => ⟨hm.bl 2, hm.bl 1, hm.fa 0, hm.ownI 0 rfl, hm.ownI 1 rfl, hm.ownI 2 rfl, trivial⟩) fun z => ?_
     have h := J25081 q14
     rw [hW] at h
     refine wa_weak ?_ ?_ h
     ·exact ⟨rfl, rfl, rfl, rfl, rfl, rfl, rfl, rfl, rfl, rfl, rfl, trivial⟩
     exact fun _ hm => hm.pick [1, 2, 0] [0, 1, 2] [0] rfl rfl
    refine wl_alloc zc162 rfl fun q17 => ?_
    refine wl_nil ?_
    refine nw 19 139769 (fun _ hm => ⟨hm.bl 2, hm.bl 1, hm.fa 0, hm.ownI 0 rfl, hm.ownI 1 rfl, hm.ownI 2 rfl, trivial⟩) fun z => ?_
    have h := J139769 q17
    rw [hW] at h
    refine wa_weak ?_ ?_ h
    ·exact ⟨rfl, rfl, rfl, rfl, rfl, rfl, rfl, rfl, rfl, rfl, rfl, trivial⟩
    exact fun _ hm => hm.pick [1, 2, 0] [0, 1, 2] [0] rfl rfl
   rw [hW]
   have h := J8697 
   rw [hW] at h
   refine wa_weak ?_ ?_ h
   ·exact ⟨rfl, rfl, rfl, rfl, rfl, rfl, rfl, rfl, rfl, rfl, trivial⟩
   exact fun _ hm => hm.pick [1, 0] [0, 1, 2] [0] rfl rfl
  rintro ⟨g6, pf, pv, pp⟩ hinv
  replace hinv : PlB ⟨pf, pv, pp⟩ := hinv
  dsimp only
  have hpp : PlB ⟨pf, pv, pp⟩ := hinv
  refine gw_cut (γ := Option Addr × Nat) (I := (fun g => True)) (S' := (fun g => [(0, .pointer (some ⟨sb, 0, none⟩)), (2, .pointer (some ⟨g1, 0, none⟩)), (3, .pointer (some ⟨g2, 0, none⟩)), (7, .slice g.1 (pn + 1) g.2), (49, .int .i64 ((R : Nat) : Int)), (50, .int .i64 ((j : Nat) : Int))])) (K' := (fun g => fun w => Strm 25 w B sb (m + 140 + 10 * j + 9))) (L' := (fun g => [(g6, 162, [.int .i64 pf, .string pv, .string pp]), (g2, 62, [.slice sA sn sc, .slice cA 4 cc, .slice (some ⟨bv, 0, none⟩) k vc, .slice pA pn pc]), (g1, 62, [.slice none 0 0, .slice none 0 0, .slice none 0 0, .slice none 0 0])])) (O' := (fun g => [⟨.slice g.1 (pn + 1) g.2, 162, 3, pn + 1, (pl ++ [(⟨pf, pv, pp⟩ : Pl)]).flatMap plEnc⟩, ⟨.slice pA pn pc, 162, 3, pn, pl.flatMap plEnc⟩, ⟨.slice (some ⟨bv, 0, none⟩) k vc, 160, 2, k, vl.flatMap vhEnc⟩, ⟨.slice sA sn sc, 152, 15, sn, sl.flatMap stEnc⟩])) (X' := (fun g => [fun wy => SlT csEnc 2 158 wy cA 4 cl])) ?_ ?_
  ·refine gd (fun wz => Blk wz g6 162 [.int .i64 pf, .string pv, .string pp] /\ Blk wz g2 62 [.slice sA sn sc, .slice cA 4 cc, .slice (some ⟨bv, 0, none⟩) k vc, .slice pA pn pc] /\ Blk wz g1 62 [.slice none 0 0, .slice none 0 0, .slice none 0 0, .slice none 0 0] /\ (fun wy => SlT csEnc 2 158 wy cA 4 cl) wz /\ True) mixed (fun _ hm => ⟨hm.bl 0, hm.bl 1, hm.bl 2, hm.fa 0, trivial⟩) fun z => ?_
   refine wt 0 7 1 rfl z (ov_field fo62_3 rfl rfl) ?_
   refine wt 1 7 3 rfl z (ov_load sc60 rfl (fun _ hm => hm.2.1) rfl) ?_
   refine wt 3 7 11 rfl z (ov_loads rz162 rfl (fun _ hm => hm.1) rfl rfl) ?_
   refine wa_all [2, 4] (by kernel_rfl) rfl ⟨⟨_, rfl, ?_⟩, ⟨_, rfl, ?_⟩, trivial⟩
   ·refine wl_callgo (γ := Option Addr × Nat) (val := (fun g => .slice g.1 pn g.2)) (φ := (fun g => True)) (fun g => ⟨.slice g.1 pn g.2, 162, 3, pn, pl.flatMap plEnc⟩) rfl cb98 rfl rfl (fun wx hm => (clonePlates_all pl pA pn pc wx (SlT.ofOwn pl_len (hm.ownI 0 rfl) hpl) (own_shape (hm.ownI 0 rfl)) (by omega)).mono fun _ _ ⟨A, c, he, ho, hg⟩ => ⟨(A, c), he, trivial, ho, hg⟩) ?_
    rintro ⟨A3, c3⟩ hphi
    dsimp only at hphi ⊢
    refine wl_nil ?_
    refine nw 7 15 (fun _ hm => ⟨hm.bl 0, hm.bl 1, hm.bl 2, hm.fa 0, trivial⟩) fun z => ?_
    refine wa1 4 rfl ?_
    refine wl_buildSlice (e := 162) (cs := [.int .i64 pf, .string pv, .string pp]) rfl (by kernel_rfl) rfl fun g14 => ?_
    refine wl_nil ?_
    refine nw 7 31 (fun _ hm => ⟨hm.bl 1, hm.bl 2, hm.bl 3, hm.fa 0, trivial⟩) fun z => ?_
    refine wa1 5 rfl ?_
    refine wl_append (news := [.int .i64 pf, .string pv, .string pp]) 0 0 ap60 rfl rfl rfl rfl rfl rfl rfl (by omega) (by unfold maxLen; omega) rfl rfl fun v2 hv2 => ?_
    refine wl_look (R := ∃ A cc, v2 = .slice A (pn + 1) cc) (fun wx hm => own_slice (hm.ownI 0 rfl)) ?_
    rintro ⟨A4, c4, rfl⟩
    refine wl_nil ?_
    refine nw 7 63 (fun _ hm => ⟨hm.bl 1, hm.bl 2, hm.bl 3, hm.fa 0, trivial⟩) fun z => ?_
    refine wt 6 7 127 rfl z (ov_assign rfl) ?_
    refine wa_done (by kernel_rfl) ?_
    have hxs : pl.flatMap plEnc ++ ([.int .i64 pf, .string pv, .string pp] : List Value) = (pl ++ [(⟨pf, pv, pp⟩ : Pl)]).flatMap plEnc := by simp [plEnc]
    rw [hxs]
    exact nx_meet (A4, c4) trivial ⟨rfl, rfl, rfl, rfl, rfl, rfl, trivial⟩ (fun _ hm => hm.pick [1, 2, 3] [0, 1, 2, 3] [0] rfl rfl)
   refine wl_buildSlice (e := 162) (cs := [.int .i64 pf, .string pv, .string pp]) rfl (by kernel_rfl) rfl fun g15 => ?_
   refine wl_nil ?_
   refine nw 7 27 (fun _ hm => ⟨hm.bl 1, hm.bl 2, hm.bl 3, hm.fa 0, trivial⟩) fun z => ?_
   refine wa1 2 rfl ?_
   refine wl_callgo (γ := Option Addr × Nat) (val := (fun g => .slice g.1 pn g.2)) (φ := (fun g => True)) (fun g => ⟨.slice g.1 pn g.2, 162, 3, pn, pl.flatMap plEnc⟩) rfl cb98 rfl rfl (fun wx hm => (clonePlates_all pl pA pn pc wx (SlT.ofOwn pl_len (hm.ownI 0 rfl) hpl) (own_shape (hm.ownI 0 rfl)) (by omega)).mono fun _ _ ⟨A, c, he, ho, hg⟩ => ⟨(A, c), he, trivial, ho, hg⟩) ?_
   rintro ⟨A3, c3⟩ hphi
   dsimp only at hphi ⊢
   refine wl_nil ?_
   refine nw 7 31 (fun _ hm => ⟨hm.bl 1, hm.bl 2, hm.bl 3, hm.fa 0, trivial⟩) fun z => ?_
   refine wa1 5 rfl ?_
   refine wl_append (news := [.int .i64 pf, .string pv, .string pp]) 0 0 ap60 rfl rfl rfl rfl rfl rfl rfl (by omega) (by unfold maxLen; omega) rfl rfl fun v2 hv2 => ?_
   refine wl_look (R := ∃ A cc, v2 = .slice A (pn + 1) cc) (fun wx hm => own_slice (hm.ownI 0 rfl)) ?_
   rintro ⟨A4, c4, rfl⟩
   refine wl_nil ?_
   refine nw 7 63 (fun _ hm => ⟨hm.bl 1, hm.bl 2, hm.bl 3, hm.fa 0, trivial⟩) fun z => ?_
   refine wt 6 7 127 rfl z (ov_assign rfl) ?_
   refine wa_done (by kernel_rfl) ?_
   have hxs : pl.flatMap plEnc ++ ([.int .i64 pf, .string pv, .string pp] : List Value) = (pl ++ [(⟨pf, pv, pp⟩ : Pl)]).flatMap plEnc := by simp [plEnc]
   rw [hxs]
   exact nx_meet (A4, c4) trivial ⟨rfl, rfl, rfl, rfl, rfl, rfl, trivial⟩ (fun _ hm => hm.pick [1, 2, 3] [0, 1, 2, 3] [0] rfl rfl)
  rintro ⟨qA, qc⟩ hinv
  replace hinv : True := hinv
  dsimp only
  have huB : ∀ x ∈ pl ++ [(⟨pf, pv, pp⟩ : Pl)], PlB x := all_snoc hpB hpp
  have hul : (pl ++ [(⟨pf, pv, pp⟩ : Pl)]).length = pn + 1 := by simp [hpl]
  obtain ⟨us, hus⟩ : ∃ z, z = pl ++ [(⟨pf, pv, pp⟩ : Pl)] := ⟨_, rfl⟩
  rw [<- hus] at huB hul
  rw [<- hus]
  refine gw_look (R := ∃ g, qA = some ⟨g, 0, none⟩) (fun wx hm => own_addr (hm.ownI 0 rfl) (by omega)) ?_
  rintro ⟨g5, rfl⟩
  refine ct_ rfl (sr_ (mv_ rfl ?_))
  refine wl_callr (v := .tuple #[]) (xs' := (isort rfLt us).flatMap plEnc) 0 rfl rfl rfl cb99 rfl rfl (fun wx hm => (sort_rf us g5 (pn + 1) qc _ wx (hm.ownI 0 rfl) hul (by omega) huB)) ?_
  obtain ⟨zs, hzs⟩ : ∃ z, z = isort rfLt us := ⟨_, rfl⟩
  rw [<- hzs]
  have hzB : ∀ x ∈ zs, PlB x := fun x hx => huB x (by rw [hzs] at hx; exact isort_mem.1 hx)
  have hzl : zs.length = pn + 1 := by rw [hzs, isort_len]; exact hul
  obtain ⟨FE, hFE⟩ : ∃ z, z = fleetE sl cl vl zs := ⟨_, rfl⟩
  refine nn_ (sr_ ?_)
  refine wl_ov (ov_loads rz62 rfl (fun _ hm => hm.blkI 1 rfl) rfl rfl) rfl ?_
  refine wl_alloc zc62 rfl fun g16 => ?_
  refine wl_stores (cs' := [.slice sA sn sc, .slice cA 4 cc, .slice (some ⟨bv, 0, none⟩) k vc, .slice pA pn pc]) 0 rz62 rfl rfl rfl rfl rfl rfl rfl rfl ?_
  refine nn_ (sr_ (mv_ rfl (fd_ fo62_3 rfl rfl ?_)))
  refine wl_store 0 sc60 rfl rfl rfl rfl rfl rfl ?_
  refine nn_ (sr_ ?_)
  refine wl_ov (ov_loads rz62 rfl (fun _ hm => hm.blkI 0 rfl) rfl rfl) rfl ?_
  refine wl_callv (v := .int .i64 FE) rfl cb101 rfl rfl (fun wx hm => (by rw [hFE]; exact fleetFault_any sl cl vl zs sA cA (some ⟨bv, 0, none⟩) (some ⟨g5, 0, none⟩) sn sc 4 cc k vc (pn + 1) qc wx (SlT.ofOwnL stEnc_lenL (fun x hx => stB_ok (hsB x hx)) (hm.ownI 3 rfl) hsl) (hm.fact 0 rfl) (SlT.ofOwn vh_len (hm.ownI 2 rfl) hvl) (SlT.ofOwn pl_len (hm.ownI 0 rfl) hzl) (fun x hx => stB_ok (hsB x hx)) hcok (fun x hx => vhB_ok (hvB x hx)) (fun x hx => plB_ok (hzB x hx)) (by omega) (by omega) (by omega) (by omega) (own_cap (hm.ownI 0 rfl)))) ?_
  refine wl_ov (ov_eql rfl rfl) rfl (nn_ ?_)
  refine gw_cond rfl (fun hh => ?_) (fun hh => ?_)
  ·have hfe : FE = 0 := by simpa using hh
   clear hh
   refine gw_region ?_
   refine wl_ov (ov_loads rz62 rfl (fun _ hm => hm.blkI 0 rfl) rfl rfl) rfl ?_
   refine wl_stores (cs' := [.slice sA sn sc, .slice cA 4 cc, .slice (some ⟨bv, 0, none⟩) k vc, .slice (some ⟨g5, 0, none⟩) (pn + 1) qc]) 2 rz62 rfl rfl rfl rfl rfl rfl rfl rfl ?_
   refine wl_nil (nx_blk_nrm (nx_then (gw_region (ad_ rfl rfl (mv_ rfl (wl_nil ?_))))))
   exact nx_round (j + 1, some ⟨g5, 0, none⟩, pn + 1, qc, zs) ⟨by dsimp only; omega, by dsimp only; omega, hzl, hzB, hFE.symm.trans hfe⟩ (by dsimp only; omega) ⟨rfl, rfl, rfl, rfl, (some_int (by omega)), trivial⟩ (fun _ hm => (hm.more rfl (by first | omega | (dsimp only; omega))).pick [2, 3] [0, 2, 3] [0] rfl rfl)
  have hfe : ¬ (FE = 0) := by simpa using hh
  clear hh
  refine gw_skip (nx_blk_nrm (nx_then (gw_region (ad_ rfl rfl (mv_ rfl (wl_nil ?_))))))
  exact nx_round (j + 1, pA, pn, pc, pl) ⟨by dsimp only; omega, by dsimp only; omega, hpl, hpB, hfz⟩ (by dsimp only; omega) ⟨rfl, rfl, rfl, rfl, (some_int (by omega)), trivial⟩ (fun _ hm => (hm.more rfl (by first | omega | (dsimp only; omega))).pick [2, 3] [1, 2, 3] [0] rfl rfl)
 have hj : ¬ (((j : Nat) : Int) < ((R : Nat) : Int)) := by simpa using hh
 clear hh
 refine gw_exit ?_
 refine nx_then_exit (nx_then_exit ?_)
 refine nx_blk_here ?_
 refine nx_then (sr_ ?_)
 refine wl_ov (ov_loads rz62 rfl (fun _ hm => hm.blkI 0 rfl) rfl rfl) rfl ?_
 refine wl_stores (cs' := [.slice sA sn sc, .slice cA 4 cc, .slice vA k vc, .slice pA pn pc]) 1 rz62 rfl rfl rfl rfl rfl rfl rfl rfl ?_
 refine nn_ ?_
 refine gw_ret ?_
 refine nx_retc 1 rfl rz62 rfl rfl rfl fun wx hm => ?_
 exact ⟨sA, cA, vA, pA, sn, sc, cc, k, vc, pn, pc, sl, cl, vl, pl, rfl, ⟨⟨⟨hsl, hsB, hs1, hs3⟩, ⟨hcl4, hcok⟩, ⟨hvl, hvB, by omega⟩, ⟨hpl, hpB, by omega⟩⟩, hfz⟩, hm.k.more (by omega), hm.g, (hm.ownI 2 rfl), (hm.ownI 1 rfl), (hm.ownI 0 rfl), (hm.fact 0 rfl)⟩
end Go.Proofs.YtempjmpfdniecaaGreatDoor
namespace Go.Proofs.YtempjmpfdniecaaGreatDoor
open Go.RowKit
theorem fs_last {t : ByteArray} {s : FsZ} (h : (fStep t s).2 = true) : 1 <= (fStep t s).1.last := by
 cases hi : fIt t with
 | none => rw [fStep_no hi] at h; cases h
 | some x =>
  by_cases hk : x.kd < s.last
  ·rw [fStep_low hi hk] at h; cases h
  ·rw [fStep_yes hi hk]
   show 1 <= (fPush s x).last
   rw [push_last]; exact (kd_bd x).1
theorem fWl_w (t : ByteArray) (gf gl gr : Nat) (w0 w : World) (hts : t.size <= 200000) (hm : Mem ⟨0, w0, none, [9]⟩ (fun _ => True) (fpL gf gl gr fs0.last (.slice none 0 0) (.slice none 0 0) (.slice none 0 0) (.slice none 0 0)) (fpO (f4 fs0) (.slice none 0 0) (.slice none 0 0) (.slice none 0 0) (.slice none 0 0)) [TxtO w0.heap.size none] w) :
  Calls Tryz.prog 75 #[.string t, .func (.func 109) #[] #[.pointer (some ⟨gf, 0, none⟩), .pointer (some ⟨gl, 0, none⟩)]] w (fun e w' => ∃ (u1 u2 u3 u4 : Value) (st' : FsZ), e = .returned (.tuple #[.int .i64 (flR t).1, .bool (flR t).2.1]) /\ ((flR t).2.1 = true -> st' = (flR t).2.2) /\ Mem ⟨0, w0, none, [9]⟩ (fun _ => True) (fpL gf gl gr st'.last u1 u2 u3 u4) (fpO (f4 st') u1 u2 u3 u4) [TxtO w0.heap.size none] w') := by
 refine gw_enter ⟨30, w0, none, [9]⟩ Tryz.func75 rfl Tryz.ntmps75 rfl hm.cx ?_
 refine sr_ (sg_ rfl (sg_ rfl (nn_ (gw_seq (sr_ (sg_ rfl (nn_ (gw_block ?_))))))))
 refine gw_loop (γ := Nat × ByteArray × Int × Value × Value × Value × Value × Int × FsZ) (fun (gz : Nat × ByteArray × Int × Value × Value × Value × Value × Int × FsZ) => gz.2.1.size < gz.1 /\ gz.2.1.size <= t.size /\ flR t = linesF fStep gz.1 gz.2.1 gz.2.2.1 gz.2.2.2.2.2.2.2.2 /\ 0 <= gz.2.2.1 /\ gz.2.2.1 + gz.2.1.size <= t.size /\ fsM gz.2.2.2.2.2.2.2.2 + gz.2.1.size <= t.size /\ FsQ gz.2.2.2.2.2.2.2.2 /\ 1 <= gz.2.2.2.2.2.2.2.2.last /\ gz.2.2.2.2.2.2.2.1 + 1 = gz.2.2.2.2.2.2.2.2.last) (fun (gz : Nat × ByteArray × Int × Value × Value × Value × Value × Int × FsZ) => [(0, .string gz.2.1), (1, .func (.func 109) #[] #[.pointer (some ⟨gf, 0, none⟩), .pointer (some ⟨gl, 0, none⟩)]), (6, .int .i64 gz.2.2.1)]) (fun (gz : Nat × ByteArray × Int × Value × Value × Value × Value × Int × FsZ) => fun _ => True) (fun (gz : Nat × ByteArray × Int × Value × Value × Value × Value × Int × FsZ) => [(gf, 62, [gz.2.2.2.1, gz.2.2.2.2.1, gz.2.2.2.2.2.1, gz.2.2.2.2.2.2.1]), (gl, 3, [.int .i64 gz.2.2.2.2.2.2.2.2.last]), (gr, 62, [.slice none 0 0, .slice none 0 0, .slice none 0 0, .slice none 0 0])]) (fun (gz : Nat × ByteArray × Int × Value × Value × Value × Value × Int × FsZ) => [⟨gz.2.2.2.1, 152, 15, gz.2.2.2.2.2.2.2.2.sl.length, gz.2.2.2.2.2.2.2.2.sl.flatMap stEnc⟩, ⟨gz.2.2.2.2.1, 158, 2, gz.2.2.2.2.2.2.2.2.cl.length, gz.2.2.2.2.2.2.2.2.cl.flatMap csEnc⟩, ⟨gz.2.2.2.2.2.1, 160, 2, gz.2.2.2.2.2.2.2.2.vl.length, gz.2.2.2.2.2.2.2.2.vl.flatMap vhEnc⟩, ⟨gz.2.2.2.2.2.2.1, 162, 3, gz.2.2.2.2.2.2.2.2.pl.length, gz.2.2.2.2.2.2.2.2.pl.flatMap plEnc⟩]) (fun (gz : Nat × ByteArray × Int × Value × Value × Value × Value × Int × FsZ) => [TxtO w0.heap.size none]) (fun (gz : Nat × ByteArray × Int × Value × Value × Value × Value × Int × FsZ) => gz.1) (t.size + 1, t, 0, (.slice none 0 0), (.slice none 0 0), (.slice none 0 0), (.slice none 0 0), 0, fs0) ⟨Nat.lt_succ_self _, Nat.le_refl _, rfl, Int.le_refl _, by dsimp only; omega, by show 0 + t.size <= t.size; omega, fs0_ok, by show (1 : Int) <= 1; omega, by show (0 : Int) + 1 = 1; decide⟩ ⟨rfl, rfl, rfl, trivial⟩ (fun _ hm => hm.pick [0, 1, 2] [0, 1, 2, 3] [0] rfl rfl) ?_
 rintro ⟨f, u, at_, v1, v2, v3, v4, pa, st⟩ hinv
 replace hinv : u.size < f /\ u.size <= t.size /\ flR t = linesF fStep f u at_ st /\ 0 <= at_ /\ at_ + u.size <= t.size /\ fsM st + u.size <= t.size /\ FsQ st /\ 1 <= st.last /\ pa + 1 = st.last := hinv
 dsimp only
 refine gw_seq (sr_ ?_)
 obtain ⟨hf, hu, hR, ha0, ha1, hms, hQ, hla, hpa⟩ := hinv
 have hmz : st.sl.length + st.cl.length + st.vl.length + st.pl.length + u.size <= t.size := hms
 refine mv_ rfl (wl_ov (ov_sneq rfl rfl) rfl (nn_ ?_))
 refine gw_cond rfl (fun hh => ?_) (fun hh => ?_)
 ·have he : (u.toList == (⟨#[]⟩ : ByteArray).toList) = false := by simpa using hh
  clear hh
  refine gw_skip (nx_then (gw_seq (gw_block (sr_ ?_))))
  replace he : (u.toList == (⟨#[]⟩ : ByteArray).toList) = false := by simpa using he
  have hu1 := size_pos he
  obtain ⟨⟨c1, c2, cf⟩, hcut⟩ : ∃ z, cutS u nlS = z := ⟨_, rfl⟩
  have hsz := cut_sz u nlS (by decide)
  rw [hcut] at hsz
  obtain ⟨hs1, hs2, hs3⟩ := hsz
  have hs1 : c1.size <= u.size := hs1
  have hs2 : cf = true -> 1 <= u.size -> c2.size + 1 <= u.size := hs2
  refine mv_ rfl ?_
  refine wl_callv (v := .tuple #[.string c1, .string c2, .bool cf]) rfl cb178 rfl rfl (fun wx hm => (by have h := cut_any u nlS wx (hm.fact 0 rfl).1 (by omega); rw [hcut] at h; exact h)) ?_
  refine mv_ rfl (wl_ov (ov_extract rfl rfl) rfl (wl_ov (ov_extract rfl rfl) rfl (wl_ov (ov_extract rfl rfl) rfl (sg_ rfl (sg_ rfl (sg_ rfl (nn_ (gw_seq (sr_ (mv_ rfl (wl_ov (ov_un_not rfl) rfl ?_)))))))))))
  refine mv_ rfl ?_
  rcases Bool.eq_false_or_eq_true (!cf) with hcf | hcf
  ·refine wl_set 22 rfl (congrArg Value.bool hcf) ?_
   replace hcf : cf = false := by simpa using hcf
   subst hcf
   refine goff rfl rfl rfl (goff rfl rfl rfl (goff rfl rfl rfl (goff rfl rfl rfl (pt_ rfl rfl (nn_ (ct_ rfl (sr_ (mv_ rfl (sg_ rfl (sg_ rfl (wl_nil ?_)))))))))))
   refine nx_then ?_
   refine gw_ret ?_
   refine nx_then_ret (nx_blk_ret (nx_then_ret (nx_then_ret (nx_blk_ret (nx_then_ret ?_)))))
   refine nx_ret2 rfl rfl rfl fun wx hm => ?_
   have hR2 := hR.trans (lns_open hf he hcut)
   rw [hR2]
   exact ⟨v1, v2, v3, v4, st, rfl, (fun h => by cases h), (hm.pick [0, 1, 2] [0, 1, 2, 3] [0] rfl rfl).cx⟩
  refine wl_set 22 rfl (congrArg Value.bool hcf) ?_
  replace hcf : cf = true := by simpa using hcf
  subst hcf
  have hs2 := hs2 rfl hu1
  refine wl_guard_on rfl rfl rfl (mv_ rfl (wl_guard_on rfl rfl rfl (mv_ rfl (wl_guard_on rfl rfl rfl ?_))))
  refine wl_callG (γ := Value × Value × Value × Value × Int × FsZ) (val := fun _ => .bool (fStep c1 st).2) (φ := fun z => (fStep c1 st).2 = true -> z.2.2.2.2.2 = (fStep c1 st).1) (K' := fun _ => (fun _ => True)) (L' := fun z => [(gf, 62, [z.1, z.2.1, z.2.2.1, z.2.2.2.1]), (gl, 3, [.int .i64 z.2.2.2.2.2.last]), (gr, 62, [.slice none 0 0, .slice none 0 0, .slice none 0 0, .slice none 0 0])]) (O' := fun z => [⟨z.1, 152, 15, z.2.2.2.2.2.sl.length, z.2.2.2.2.2.sl.flatMap stEnc⟩, ⟨z.2.1, 158, 2, z.2.2.2.2.2.cl.length, z.2.2.2.2.2.cl.flatMap csEnc⟩, ⟨z.2.2.1, 160, 2, z.2.2.2.2.2.vl.length, z.2.2.2.2.2.vl.flatMap vhEnc⟩, ⟨z.2.2.2.1, 162, 3, z.2.2.2.2.2.pl.length, z.2.2.2.2.2.pl.flatMap plEnc⟩]) (X' := fun _ => [TxtO w0.heap.size none]) rfl cb109 rfl rfl (fun wx hm => (fRead1_w c1 w0 wx gf gl gr st.last v1 v2 v3 v4 st.sl st.cl st.vl st.pl (by omega) (by omega) (by omega) (by omega) (by omega) hla (hm.pick [0, 1, 2] [0, 1, 2, 3] [0] rfl rfl).cx).mono fun e w' ⟨u1, u2, u3, u4, st', he, h1, hM⟩ => ⟨(u1, u2, u3, u4, 0, st'), he, h1, hM.cx⟩) ?_
  rintro ⟨y1, y2, y3, y4, pa1, st1⟩ hst1
  dsimp only at hst1 ⊢
  refine wl_guard_on rfl rfl rfl (wl_ov (ov_un_not rfl) rfl (pf_ rfl rfl (nn_ ?_)))
  refine gw_cond rfl (fun hh => ?_) (fun hh => ?_)
  ·have hr : ((fStep c1 st).2) = false := by simpa using hh
   clear hh
   refine sr_ ?_
   replace hr : (fStep c1 st).2 = false := by simpa using hr
   refine mv_ rfl (sg_ rfl (sg_ rfl (nn_ ?_)))
   refine gw_ret ?_
   refine nx_then_ret (nx_blk_ret (nx_then_ret (nx_then_ret (nx_blk_ret (nx_then_ret ?_)))))
   refine nx_ret2 rfl rfl rfl fun wx hm => ?_
   have hR2 := hR.trans (lns_no hf he hcut hr)
   rw [hR2]
   exact ⟨y1, y2, y3, y4, st1, rfl, (fun h => by cases h), (hm.pick [0, 1, 2] [0, 1, 2, 3] [0] rfl rfl).cx⟩
  have hr : ((fStep c1 st).2) = true := by simpa using hh
  clear hh
  refine gw_skip (nx_then (gw_region ?_))
  replace hr : (fStep c1 st).2 = true := by simpa using hr
  obtain rfl := hst1 hr
  obtain ⟨hq1, hq2⟩ := fStep_ok c1 st (by omega) hQ
  have hq3 := fs_last hr
  refine mv_ rfl (sg_ rfl (wl_nil (nx_blk_nrm (nx_then (gw_region (mv_ rfl (ad_ rfl rfl (sg_ rfl (wl_nil ?_)))))))))
  exact nx_round (f - 1, c2, at_ + 1, y1, y2, y3, y4, ((fStep c1 st).1.last - 1), (fStep c1 st).1) ⟨by dsimp only; omega, by dsimp only; omega, hR.trans (lns_go hf he hcut hr), by dsimp only; omega, by dsimp only; omega, by dsimp only; omega, hq1, hq3, by dsimp only; omega⟩ (by dsimp only; omega) ⟨rfl, rfl, rfl, trivial⟩ (fun _ hm => hm.pick [0, 1, 2] [0, 1, 2, 3] [0] rfl rfl)
 have he : (u.toList == (⟨#[]⟩ : ByteArray).toList) = true := by simpa using hh
 clear hh
 refine gw_exit ?_
 refine nx_then_exit (nx_then_exit ?_)
 refine nx_blk_here ?_
 refine nx_then (sr_ (sg_ rfl (sg_ rfl (nn_ ?_))))
 refine gw_ret ?_
 refine nx_ret2 rfl rfl rfl fun wx hm => ?_
 have hR2 := hR.trans (lns_nil hf (by simpa using he))
 rw [hR2]
 exact ⟨v1, v2, v3, v4, st, rfl, (fun _ => rfl), (hm.pick [0, 1, 2] [0, 1, 2, 3] [0] rfl rfl).cx⟩
def flGot (t : ByteArray) (w : World) (e : Ending) (w' : World) : Prop := ∃ (A1 A2 A3 A4 : Option Addr) (n1 n2 n3 n4 c1 c2 c3 c4 : Nat), e = .returned (.tuple #[.agg #[.slice A1 n1 c1, .slice A2 n2 c2, .slice A3 n3 c3, .slice A4 n4 c4], .int .i64 (flAt t), .int .i64 (flE t)]) /\ (SlT stEnc 15 152 w' A1 n1 (flF t).sl /\ SlT csEnc 2 158 w' A2 n2 (flF t).cl /\ SlT vhEnc 2 160 w' A3 n3 (flF t).vl /\ SlT plEnc 3 162 w' A4 n4 (flF t).pl) /\ w.grownBy w' none
theorem flGot.zero {t : ByteArray} {w w' : World} {N E : Int} (h : flE t = E /\ flAt t = N /\ flF t = fs0) (hg : w.grownBy w' none) : flGot t w (.returned (.tuple #[.agg #[.slice none 0 0, .slice none 0 0, .slice none 0 0, .slice none 0 0], .int .i64 N, .int .i64 E])) w' :=
 ⟨none, none, none, none, 0, 0, 0, 0, 0, 0, 0, 0, by rw [h.1, h.2.1], by rw [h.2.2]; exact ⟨SlT.nil_ w' none, SlT.nil_ w' none, SlT.nil_ w' none, SlT.nil_ w' none⟩, hg⟩
section
variable {P : Program} {c : Cx} {S : List (Nat × Value)} {K : World -> Prop} {L : List (Nat × TypeId × List Value)} {O : List Own} {X : List (World -> Prop)} {fn : Func} {R : Ending -> World -> Prop}
theorem results_ctt2f {p u r : Tmp} {t : TypeId} (h : fn.results = #[.cell p t, .tmp u, .tmp r]) (tmps : Array Value) (w : World) (g : Nat) (T : TypeId) (cs : Array Value) (fr : Nat × Nat) (d : TypeDesc) (hp : tmps.getD p undef = .pointer (some ⟨g, 0, none⟩)) (hg : w.heap[g]? = some (.cells cs T fr)) (hu : P.underlying t = some d) (hd : (match d with | .struct _ | .array _ _ => true | _ => false) = true) (hi : (P.info? t).map (·.size) = some cs.size) :
  (results fn tmps).run P w = .ok (.tuple #[.agg cs, tmps.getD u undef, tmps.getD r undef]) w := by
 have hp' : tmps[p]?.getD undef = .pointer (some ⟨g, 0, none⟩) := by simpa using hp
 simp [results, h, hp', asAddr, run_loadVar_row w g T t cs fr d hg hu hd hi]
theorem nx_retctt2f {p u r : Nat} {t T : TypeId} {g n : Nat} {cs : List Value} {v v' : Value} (i : Nat) (hr : fn.results = #[.cell p t, .tmp u, .tmp r]) (hs : rowSz P t = some n) (hp : look S p = some (.pointer (some ⟨g, 0, none⟩))) (hv : look S u = some v) (hv' : look S r = some v') (hL : L[i]? = some (g, T, cs)) (hn : cs.length = n)
  (h : ∀ w, Mem c K L O X w -> R (.returned (.tuple #[.agg cs.toArray, v, v'])) w) : Nx c (bodyPost P fn R) .ret S K L O X := fun a w ha hm => by
 obtain ⟨dd, hu, hd, hi⟩ := run_row hs
 have hb : w.heap[g]? = some (.cells cs.toArray T (0, 0)) := hm.blk (List.mem_of_getElem? hL)
 have h1 := results_ctt2f (P := P) hr a.tmps w g T cs.toArray (0, 0) dd (by simp [Array.getD_eq_getD_getElem?, ha.val p _ hp]) hb hu (by cases dd <;> simp_all [TypeDesc.isRow]) (by simpa [hn] using hi)
 rw [show a.tmps.getD u undef = v by simp [Array.getD_eq_getD_getElem?, ha.val u _ hv], show a.tmps.getD r undef = v' by simp [Array.getD_eq_getD_getElem?, ha.val r _ hv']] at h1
 exact bodyPost_ret h1 ha.df (h w hm)
end
theorem fRead_w (t : ByteArray) (w : World) (htx : TxtW w) (hts : t.size <= 1000000000) :
  Calls Tryz.prog 28 #[.string t] w (flGot t w) := by
 refine gw_enter ⟨31, w, none, [9]⟩ Tryz.func28 rfl Tryz.ntmps28 rfl (mem0 (X := [TxtO w.heap.size none]) (allF_cons htx.old allF_nil) (allL_cons TxtO.lasts allL_nil)) ?_
 refine sr_ ?_
 refine wl_alloc zc62 rfl fun g1 => ?_
 refine sg_ rfl (sg_ rfl (nn_ (gw_seq (sr_ (mv_ rfl ?_)))))
 refine wl_ov (ov_lens us9 rfl) rfl ?_
 refine wl_ov (ov_gtr rfl rfl) rfl ?_
 refine nn_ ?_
 refine gw_cond rfl (fun hh => ?_) (fun hh => ?_)
 ·have hb : 200000 < ((t).size : Int) := by simpa using hh
  clear hh
  refine sr_ ?_
  refine wl_ov (ov_build (cs := [.slice none 0 0, .slice none 0 0, .slice none 0 0, .slice none 0 0]) rfl (by kernel_rfl)) rfl ?_
  refine wl_stores (cs' := [.slice none 0 0, .slice none 0 0, .slice none 0 0, .slice none 0 0]) 0 rz62 rfl rfl rfl rfl rfl rfl rfl rfl ?_
  refine sg_ rfl (sg_ rfl (nn_ ?_))
  refine gw_ret ?_
  refine nx_then_ret ?_
  refine nx_retctt2f 0 rfl rz62 rfl rfl rfl rfl rfl fun wx hm => ?_
  exact flGot.zero (fl_big (by omega)) hm.g
 have hb : ¬ (200000 < ((t).size : Int)) := by simpa using hh
 clear hh
 refine gw_skip (nx_then (sr_ ?_))
 have hb : ¬ 200000 < t.size := by omega
 obtain ⟨hQ, hMs⟩ := flR_all (t := t) (by omega)
 refine wl_alloc zc62 rfl fun g2 => ?_
 refine nn_ (sr_ ?_)
 refine wl_alloc zc3 rfl fun g3 => ?_
 refine wl_store 0 sc3 rfl rfl rfl rfl rfl rfl ?_
 refine nn_ (sr_ (mv_ rfl (wl_ov (ov_makeFunc rfl rfl) rfl ?_)))
 refine wl_nilOwn 162 3 ?_
 refine wl_nilOwn 160 2 ?_
 refine wl_nilOwn 158 2 ?_
 refine wl_nilOwn 152 15 ?_
 refine wl_callG (γ := Value × Value × Value × Value × Int × FsZ) (val := fun _ => .tuple #[.int .i64 (flR t).1, .bool (flR t).2.1]) (φ := fun z => (flR t).2.1 = true -> z.2.2.2.2.2 = (flR t).2.2) (K' := fun _ => (fun _ => True)) (L' := fun z => [(g2, 62, [z.1, z.2.1, z.2.2.1, z.2.2.2.1]), (g3, 3, [.int .i64 z.2.2.2.2.2.last]), (g1, 62, [.slice none 0 0, .slice none 0 0, .slice none 0 0, .slice none 0 0])]) (O' := fun z => [⟨z.1, 152, 15, z.2.2.2.2.2.sl.length, z.2.2.2.2.2.sl.flatMap stEnc⟩, ⟨z.2.1, 158, 2, z.2.2.2.2.2.cl.length, z.2.2.2.2.2.cl.flatMap csEnc⟩, ⟨z.2.2.1, 160, 2, z.2.2.2.2.2.vl.length, z.2.2.2.2.2.vl.flatMap vhEnc⟩, ⟨z.2.2.2.1, 162, 3, z.2.2.2.2.2.pl.length, z.2.2.2.2.2.pl.flatMap plEnc⟩]) (X' := fun _ => [TxtO w.heap.size none]) rfl cb75 rfl rfl (fun wx hm => (fWl_w t g2 g3 g1 w wx (by omega) (hm.pick [1, 0, 2] [0, 1, 2, 3] [0] rfl rfl).cx).mono fun e w' ⟨u1, u2, u3, u4, st', he, h1, hM⟩ => ⟨(u1, u2, u3, u4, 0, st'), he, h1, hM.cx⟩) ?_
 rintro ⟨y1, y2, y3, y4, pa1, st1⟩ hst1
 dsimp only at hst1 ⊢
 refine mv_ rfl (wl_ov (ov_extract rfl rfl) rfl (wl_ov (ov_extract rfl rfl) rfl (sg_ rfl (sg_ rfl (nn_ (gw_seq (sr_ (mv_ rfl (wl_ov (ov_un_not rfl) rfl (nn_ ?_))))))))))
 rcases Bool.eq_false_or_eq_true (!((flR t).2.1)) with ho | ho
 ·refine gw_set 21 rfl (congrArg Value.bool ho) ?_
  replace ho : (flR t).2.1 = false := by simpa using ho
  refine ct_ rfl (sr_ ?_)
  refine wl_ov (ov_build (cs := [.slice none 0 0, .slice none 0 0, .slice none 0 0, .slice none 0 0]) rfl (by kernel_rfl)) rfl ?_
  refine mv_ rfl ?_
  refine wl_stores (cs' := [.slice none 0 0, .slice none 0 0, .slice none 0 0, .slice none 0 0]) 2 rz62 rfl rfl rfl rfl rfl rfl rfl rfl ?_
  refine sg_ rfl (sg_ rfl (nn_ ?_))
  refine gw_ret ?_
  refine nx_then_ret ?_
  refine nx_retctt2f 2 rfl rz62 rfl rfl rfl rfl rfl fun wx hm => ?_
  exact flGot.zero (fl_syn hb ho) hm.g
 refine gw_set 21 rfl (congrArg Value.bool ho) ?_
 replace ho : (flR t).2.1 = true := by simpa using ho
 obtain rfl := hst1 ho
 obtain ⟨ST, hST⟩ : ∃ z, z = (flR t).2.2 := ⟨_, rfl⟩
 rw [<- hST] at hQ hMs ⊢
 obtain ⟨sl, cl, vl, pl, la⟩ := ST
 obtain ⟨q1, q2, q3, q4⟩ := hQ
 replace q1 : ∀ x ∈ sl, StOk x := q1
 replace q2 : ∀ x ∈ cl, CsOk x := q2
 replace q3 : ∀ x ∈ vl, VhOk x := q3
 replace q4 : ∀ x ∈ pl, PlOk x := q4
 have hms : sl.length + cl.length + vl.length + pl.length <= t.size := hMs
 obtain ⟨FE, hFE⟩ : ∃ z, z = fleetE sl cl vl pl := ⟨_, rfl⟩
 refine gw_look (R := ∃ A cc, y1 = .slice A sl.length cc) (fun wx hm => own_slice (hm.ownI 0 rfl)) ?_
 rintro ⟨A1, k1, rfl⟩
 refine gw_look (R := ∃ A cc, y2 = .slice A cl.length cc) (fun wx hm => own_slice (hm.ownI 1 rfl)) ?_
 rintro ⟨A2, k2, rfl⟩
 refine gw_look (R := ∃ A cc, y3 = .slice A vl.length cc) (fun wx hm => own_slice (hm.ownI 2 rfl)) ?_
 rintro ⟨A3, k3, rfl⟩
 refine gw_look (R := ∃ A cc, y4 = .slice A pl.length cc) (fun wx hm => own_slice (hm.ownI 3 rfl)) ?_
 rintro ⟨A4, k4, rfl⟩
 refine cf_ rfl (gw_skip (nx_then (gw_seq (sr_ ?_))))
 refine wl_ov (ov_loads rz62 rfl (fun _ hm => hm.blkI 0 rfl) rfl rfl) rfl ?_
 refine wl_callv (v := .int .i64 FE) rfl cb106 rfl rfl (fun wx hm => (by rw [hFE]; exact checkFleet_any sl cl vl pl A1 A2 A3 A4 sl.length k1 cl.length k2 vl.length k3 pl.length k4 wx (SlT.ofOwnL stEnc_lenL q1 (hm.ownI 0 rfl) rfl) (SlT.ofOwn cs_len (hm.ownI 1 rfl) rfl) (SlT.ofOwn vh_len (hm.ownI 2 rfl) rfl) (SlT.ofOwn pl_len (hm.ownI 3 rfl) rfl) q1 q2 q3 q4 (by omega) (by omega) (by omega) (by omega))) ?_
 refine sg_ rfl (nn_ (sr_ (mv_ rfl (wl_ov (ov_neq rfl rfl) rfl (nn_ ?_)))))
 refine gw_cond rfl (fun hh => ?_) (fun hh => ?_)
 ·have h0 : ¬ (FE = 0) := by simpa using hh
  clear hh
  refine sr_ ?_
  have h0 : ¬ FE = 0 := by simpa using h0
  have hR := fl_form hb ho (show ¬ fsE (flR t).2.2 = 0 by rw [<- hST]; show ¬ fleetE sl cl vl pl = 0; rw [<- hFE]; exact h0)
  rw [<- hST] at hR
  have hR1 : flE t = FE := hR.1.trans hFE.symm
  refine wl_ov (ov_build (cs := [.slice none 0 0, .slice none 0 0, .slice none 0 0, .slice none 0 0]) rfl (by kernel_rfl)) rfl ?_
  refine mv_ rfl ?_
  refine wl_stores (cs' := [.slice none 0 0, .slice none 0 0, .slice none 0 0, .slice none 0 0]) 2 rz62 rfl rfl rfl rfl rfl rfl rfl rfl ?_
  refine sg_ rfl (sg_ rfl (nn_ ?_))
  refine gw_ret ?_
  refine nx_then_ret ?_
  refine nx_retctt2f 2 rfl rz62 rfl rfl rfl rfl rfl fun wx hm => ?_
  exact flGot.zero ⟨hR1, hR.2⟩ hm.g
 have h0 : FE = 0 := by simpa using hh
 clear hh
 refine gw_skip (nx_then (sr_ ?_))
 replace h0 : FE = 0 := by simpa using h0
 subst h0
 have hR := fl_right hb ho (show fsE (flR t).2.2 = 0 by rw [<- hST]; exact hFE.symm)
 rw [<- hST] at hR
 refine wl_ov (ov_loads rz62 rfl (fun _ hm => hm.blkI 0 rfl) rfl rfl) rfl ?_
 refine wl_stores (cs' := [.slice A1 sl.length k1, .slice A2 cl.length k2, .slice A3 vl.length k3, .slice A4 pl.length k4]) 2 rz62 rfl rfl rfl rfl rfl rfl rfl rfl ?_
 refine sg_ rfl (sg_ rfl (nn_ ?_))
 refine gw_ret ?_
 refine nx_retctt2f 2 rfl rz62 rfl rfl rfl rfl rfl fun wx hm => ?_
 exact ⟨A1, A2, A3, A4, sl.length, cl.length, vl.length, pl.length, k1, k2, k3, k4, by rw [hR.1, hR.2.1], by rw [hR.2.2]; exact ⟨(SlT.ofOwnL stEnc_lenL q1 (hm.ownI 0 rfl) rfl), (SlT.ofOwn cs_len (hm.ownI 1 rfl) rfl), (SlT.ofOwn vh_len (hm.ownI 2 rfl) rfl), (SlT.ofOwn pl_len (hm.ownI 3 rfl) rfl)⟩, hm.g⟩
end Go.Proofs.YtempjmpfdniecaaGreatDoor
namespace Go.Proofs.YtempjmpfdniecaaGreatDoor
open Go.RowKit Go.Shelf
theorem tys_ne {L : List (Nat × TypeId × List Value)} {e : TypeId} (h : (L.all fun x => x.2.1 != e) = true) : ∀ x ∈ L, x.2.1 ≠ e := fun x hx he => by
 have h2 := List.all_eq_true.1 h x hx
 rw [he] at h2
 simp at h2
theorem own_cells {w : World} {base n sz : Nat} {e : TypeId} {v : Value} {xs : List Value} (h : w.ownsRow base e sz v n xs) {g : Nat} (hg : v.ownBlock = some g) : ∃ c fz, w.heap[g]? = some (.cells c e fz) := by
  rcases h.2 with ⟨rfl, _⟩ | ⟨g', cap, cur, rfl, _, hh, _⟩
  · cases hg
  · obtain rfl : g' = g := by
      have h2 : (Value.slice (some ⟨g', 0, none⟩) n cap).ownBlock = some g' := rfl
      rw [h2] at hg
      exact Option.some.inj hg
    exact ⟨_, _, hh⟩
section
variable {c : Cx} {K : World -> Prop} {L : List (Nat × TypeId × List Value)} {O : List Own} {X X' : List (World -> Prop)} {w w' : World} {T e : TypeId} {b : Nat} {p : Value} {bs cs0 : List Value}
theorem Mem.builtK (hm : Mem c K L O X w) (i : Nat) (hi : L[i]? = some (b, T, cs0)) (hT : ∀ x ∈ L, x.2.1 ≠ e) (h : Lib.BuilderAt T e c.w0.heap.size b p bs w') (hb : Below c.w0.heap.size w w') (hk : Lib.OthersKept e (some b) w w') (hX : ∀ A ∈ X', OldF c.w0.heap.size A /\ A ∈ X) :
  ∃ v, Mem c (fun _ => True) (L.set i (b, T, [p, v])) [⟨v, e, 1, bs.length, bs⟩] X' w' := by
 obtain ⟨hN, v, hh, ho, hne⟩ := h
 have hil := (List.getElem?_eq_some_iff.1 hi).1
 have hiv := (List.getElem?_eq_some_iff.1 hi).2
 have hin : ∀ x ∈ L.set i (b, T, [p, v]), x = (b, T, [p, v]) ∨ (x ∈ L /\ x.1 ≠ b) := fun x hx => by
  obtain ⟨j, hj⟩ := List.getElem?_of_mem hx
  rw [List.getElem?_set] at hj
  by_cases hij : i = j
  ·rw [if_pos hij, if_pos hil] at hj
   exact .inl (Option.some.inj hj).symm
  ·rw [if_neg hij] at hj
   have hjl := (List.getElem?_eq_some_iff.1 hj).1
   have hjv := (List.getElem?_eq_some_iff.1 hj).2
   refine .inr ⟨List.mem_of_getElem? hj, fun he => ?_⟩
   have hp := List.pairwise_iff_getElem.1 hm.nd
   rcases Nat.lt_or_gt_of_ne hij with h1 | h1
   ·exact hp i j hil hjl h1 (by rw [hiv, hjv]; exact he.symm)
   ·exact hp j i hjl hil h1 (by rw [hiv, hjv]; exact he)
 have hblk : ∀ x ∈ L.set i (b, T, [p, v]), c.w0.heap.size <= x.1 /\ Blk w' x.1 x.2.1 x.2.2 := fun x hx => by
  rcases hin x hx with rfl | ⟨hxL, hxb⟩
  ·exact ⟨hN, hh⟩
  ·have h1 := hm.b x hxL
   refine ⟨h1.1, ?_⟩
   have h2 : w.heap[x.1]? = some (.cells x.2.2.toArray x.2.1 (0, 0)) := h1.2
   exact hk x.1 _ h2 (fun e2 => hxb (Option.some.inj e2)) (fun c2 fz h3 => hT x hxL (by injection h3))
 have hty : ∀ x ∈ L.set i (b, T, [p, v]), x.2.1 ≠ e := fun x hx => by
  rcases hin x hx with rfl | ⟨hxL, _⟩
  ·exact show T ≠ e from hT (b, T, cs0) (List.mem_of_getElem? hi)
  ·exact hT x hxL
 refine ⟨v, hm.gB hb, trivial, hblk, ?_, fun r hr => ?_, fun r hr x hx e2 => ?_, List.pairwise_singleton _ _, fun A hA => (hX A hA).1 _ _ hb (hm.x A (hX A hA).2), Keeps.true_, fun A hA => hm.l A (hX A hA).2, hm.rs⟩
 ·have h1 : (L.map (·.1)).Pairwise (fun a b => a ≠ b) := List.pairwise_map.2 hm.nd
  have h2 : (L.set i (b, T, [p, v])).map (·.1) = L.map (·.1) := by
   rw [List.map_set]
   apply List.ext_getElem?
   intro j
   rw [List.getElem?_set, List.length_map]
   by_cases hij : i = j
   ·subst hij
    rw [if_pos rfl, if_pos hil, List.getElem?_map, hi]; rfl
   ·rw [if_neg hij]
  rw [<- h2] at h1
  exact List.pairwise_map.1 h1
 ·rw [List.mem_singleton.1 hr]; exact ho
 ·rw [List.mem_singleton.1 hr] at e2
  obtain ⟨c2, fz, h3⟩ := own_cells ho e2
  have h4 : w'.heap[x.1]? = some (.cells x.2.2.toArray x.2.1 (0, 0)) := (hblk x hx).2
  rw [h4] at h3
  refine hty x hx ?_
  have h5 := Option.some.inj h3
  injection h5
end
theorem Tryz.lays240x : Lays.n240 Tryz.prog Tryz.lays156_ren := { Tryz.lays166x with }
theorem copyCheckK (B b : Nat) (bs : List Value) (w : World) (h : Lib.IsBuilder 128 5 B b bs w) :
  Calls Tryz.prog 175 #[.pointer (some ⟨b, 0, none⟩)] w (fun e w' => e = .returned (.tuple #[]) /\ Lib.BuilderAt 128 5 B b (.pointer (some ⟨b, 0, none⟩)) bs w' /\ Below B w w' /\ Lib.OthersKept 5 (some b) w w') := by
 rcases h with h | h
 ·refine (Any.Builder_copyCheck_fresh Tryz.lays240x Tryz.Builder_Extra_156.toX72 b w h.cell0 h.shape h.frozen0).mono ?_
  rintro e w' ⟨rfl, rfl⟩
  exact ⟨rfl, h.used _, (Below.refl B w).setCell (p := ⟨b, 0, none⟩) h.1 _, (Lib.OthersKept.refl _ _ w).setCell ⟨b, 0, none⟩ rfl _⟩
 ·refine (Any.Builder_copyCheck_used Tryz.lays240x Tryz.Builder_Extra_156.toX72 b w h.cell0).mono ?_
  rintro e w' ⟨rfl, rfl⟩
  exact ⟨rfl, h, Below.refl B _, Lib.OthersKept.refl _ _ _⟩
set_option maxHeartbeats 2000000 in
set_option maxRecDepth 100000 in
theorem writeStringK (B b : Nat) (bs : List Value) (s : ByteArray) (w : World) (h : Lib.IsBuilder 128 5 B b bs w) (hlen : bs.length + s.size <= 140737488355328) (hB : B <= w.heap.size) :
  Calls Tryz.prog 72 #[.pointer (some ⟨b, 0, none⟩), .string s] w (fun e w' => e = .returned (.tuple #[.int .i64 s.size, .nilIface]) /\ Lib.BuilderAt 128 5 B b (.pointer (some ⟨b, 0, none⟩)) (bs ++ Lib.strCells s) w' /\ Below B w w' /\ Lib.OthersKept 5 (some b) w w') := by
 obtain ⟨i0, hi, hx0⟩ := Option.map_eq_some_iff.1 (Tryz.Builder_Extra_156).infoByte
 simp only [Prod.mk.injEq] at hx0
 obtain ⟨hz0, hz1, hz2⟩ := hx0
 have hcc := copyCheckK B b bs w h
 go_enter Tryz.func72, Tryz.ntmps72
 go_wp2_with fail
 refine hcc.mono ?_
 rintro e w1 ⟨rfl, h1, hb1, hk1⟩
 obtain ⟨hBb, v, hbk, hown, hne⟩ := h1
 have c0 : w1.cell? ⟨b, 0, none⟩ = some (.pointer (some ⟨b, 0, none⟩)) := by rw [Lib.cell_of_heap hbk]; rfl
 have c1 : w1.cell? ⟨b, 1, none⟩ = some v := by rw [Lib.cell_of_heap hbk]; rfl
 go_wp2_with (at_builtin; refine Lib.wpList_append_own_string _ rfl _ _ 126 9 rfl B 5 i0 Tryz.underlying126 Tryz.underlying9 hi hz0 hz1 hz2 _ _ _ rfl hown s rfl (by unfold maxLen; omega) (by omega) (by have := hb1.size; omega) ?_)
 intro v' w2 hown' hgrow _
 have hlt : b < w1.heap.size := (Array.getElem?_eq_some_iff.1 hbk).1
 have hb2 : w2.heap[b]? = some (.cells #[.pointer (some ⟨b, 0, none⟩), v] 128 (0, 0)) := by
  rw [hgrow.block b hlt (fun e => hne e.symm)]
  exact hbk
 have d0 : w2.cell? ⟨b, 0, none⟩ = some (.pointer (some ⟨b, 0, none⟩)) := by rw [Lib.cell_of_heap hb2]; rfl
 have d1 : w2.cell? ⟨b, 1, none⟩ = some v := by rw [Lib.cell_of_heap hb2]; rfl
 have f1 : w2.frozen? ⟨b, 1, none⟩ = false := Lib.frozen_of_heap hb2 1
 obtain ⟨ao, n', cap, rfl⟩ : ∃ ao n' cap, v' = .slice ao n' cap := by
  rcases hown'.2 with ⟨hv, _⟩ | ⟨g, cap, cur, hv, _⟩
  ·exact ⟨_, _, _, hv⟩
  ·exact ⟨_, _, _, hv⟩
 go_wp2_with fail
 go_ret2
 refine ⟨rfl, ?_, ?_, ?_⟩
 ·exact Lib.BuilderAt.put (T := 128) (e := 5) hBb hb2 (bs' := bs ++ Lib.strCells s) (by simpa [Lib.strCells_length] using hown') (Tryz.Builder_Extra_156).neB5
 ·exact (hb1.grown hgrow (by have := hb1.size; omega) (fun k hk => (hown.lt k hk).1)).setCell (p := ⟨b, 1, none⟩) hBb _
 ·exact (hk1.grown hgrow (fun g hg => own_cells hown hg)).setCell ⟨b, 1, none⟩ rfl _
end Go.Proofs.YtempjmpfdniecaaGreatDoor
