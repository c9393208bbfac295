/- Several texts as one: Tj Tk Tm Tu To Tq -/
import Derived.Test.YtnmpniaocjmkfaaGreatDoorPb
import Derived.Test.YtnmpniaocjmkfaaGreatDoorPa
set_option maxRecDepth 100000
set_option maxHeartbeats 4000000
namespace Go.Proofs.YtnmpniaocjmkfaaGreatDoor
open Go.RowKit
def RateOk (r : Rt) : Prop := (-1 ≤ r.hr ∧ r.hr ≤ 1000000) ∧ (-1 ≤ r.dy ∧ r.dy ≤ 1000000) ∧ (-1 ≤ r.we ∧ r.we ≤ 1000000) ∧ (-1 ≤ r.wk ∧ r.wk ≤ 1000000)
theorem rate_ok {l : List Rt} (h : ratesE l = 0) : ∀ r ∈ l, RateOk r := fun r hr => ((ratesE_ok h).2.2 r hr).2.2
theorem take_one {α : Type} {l : List α} {i mm : Nat} {x : α} (h : l[i]? = some x) (hm : 0 < mm) : x ∈ (l.drop i).take mm := by
  apply List.mem_of_getElem? (i := 0)
  rw [List.getElem?_take, if_pos hm, List.getElem?_drop, Nat.add_zero, h]
theorem same_step {l : List Int} {i j : Nat} {x k : Int} (h : l[i + j]? = some x) : ((l.drop i).take (j + 1)).all (fun y => decide (y = k)) = (((l.drop i).take j).all (fun y => decide (y = k)) && decide (x = k)) := by
  rw [List.take_add_one, List.getElem?_drop, h, List.all_append]; simp
theorem all_same {l : List Int} {k : Int} : l.all (fun y => decide (y = k)) = true ↔ ∀ y ∈ l, some k = some y := by
  rw [List.all_eq_true]
  exact ⟨fun h y hy => by rw [of_decide_eq_true (h y hy)], fun h y hy => decide_eq_true (Option.some.inj (h y hy)).symm⟩
theorem tprice_any (l : List Rt) (A : Option Addr) (n c0 : Nat) (fr tt : Int) (sea : List Int) (A2 : Option Addr) (n2 c2 : Nat) (kd : Int) (i : Nat) (mv : Int) (w : World) (hl : SlT rtEnc 7 170 w A n l) (hs : SlT itEnc 1 3 w A2 n2 sea) (hc2 : n2 ≤ c2) (hn2 : n2 ≤ 120) (hi : i < n2) (hsea : ∀ k ∈ sea, -1 ≤ k ∧ k < (l.length : Int)) (hr : ∀ r ∈ l, RateOk r) (h0 : 0 ≤ fr) (h00 : fr ≤ 5761439) (ht0 : 0 ≤ tt) (ht1 : tt ≤ 5761439) (hto : begV fr i ≤ tt) :
  Calls Tryz.prog 250 #[.agg #[.slice A n c0, .int .i64 fr, .int .i64 tt, .slice A2 n2 c2], .int .i64 kd, .int .i64 ((i : Nat) : Int), .int .i64 mv] w (fun e w' => e = .returned (.tuple #[.int .i64 ((priceO l sea fr tt kd i mv).getD 0), .bool (priceO l sea fr tt kd i mv).isSome]) ∧ w.grownBy w' none) := by
 refine gw_enter ⟨135, w, none, []⟩ Tryz.func250 rfl Tryz.ntmps250 rfl (mem0 (X := [SlOld rtEnc 7 170 w.heap.size none A n l, SlOld itEnc 1 3 w.heap.size none A2 n2 sea]) (allF_cons hl.old (allF_cons hs.old allF_nil)) (allL_cons SlOld.lasts (allL_cons SlOld.lasts allL_nil))) ?_
 refine sr_ ?_
 have hlen := hl.len
 have hslen := hs.len
 refine wl_box rfl rfl rfl fun g1 => ?_
 refine sg_ rfl (sg_ rfl (nn_ (sr_ (fd_ fo244_2 rfl rfl (lk_ sc22 0 rfl rfl rfl (wl_ov (ov_len es22 rfl) rfl (mv_ rfl ?_)))))))
 refine wl_ov (ov_sub rfl rfl (by omega) (by omega)) rfl ?_
 refine sg_ rfl (nn_ (gw_seq (sr_ (mv_ rfl (wl_ov (ov_lss rfl rfl) rfl (mv_ rfl ?_))))))
 rcases Bool.eq_false_or_eq_true (decide (mv < 1)) with h1 | h1
 ·refine wl_set 24 rfl (congrArg Value.bool h1) ?_
  refine goff rfl rfl rfl (goff rfl rfl rfl (goff rfl rfl rfl (pt_ rfl rfl (mv_ rfl (goff rfl rfl rfl (goff rfl rfl rfl (goff rfl rfl rfl (goff rfl rfl rfl (goff rfl rfl rfl (goff rfl rfl rfl (goff rfl rfl rfl (goff rfl rfl rfl (pt_ rfl rfl ?_)))))))))))))
  refine nn_ (ct_ rfl (sr_ (sg_ rfl (sg_ rfl (nn_ ?_)))))
  refine gw_ret ?_
  refine nx_then_ret ?_
  refine nx_ret2 rfl rfl rfl fun wx hm => ?_
  have hP : priceO l sea fr tt kd i mv = none := price_no (.inl (of_decide_eq_true h1))
  refine ⟨?_, hm.g⟩
  rw [hP]; rfl
 refine wl_set 24 rfl (congrArg Value.bool h1) ?_
 have h1 := of_decide_eq_false h1
 obtain ⟨mm, hmm⟩ := Int.eq_ofNat_of_zero_le (show 0 ≤ mv by omega)
 subst hmm
 have hm1 : 0 < mm := by omega
 refine wl_guard_on rfl rfl rfl (mv_ rfl (wl_guard_on rfl rfl rfl (mv_ rfl (wl_guard_on rfl rfl rfl ?_))))
 refine wl_ov (ov_gtr rfl rfl) rfl ?_
 refine pf_ rfl rfl (mv_ rfl ?_)
 rcases Bool.eq_false_or_eq_true (decide (((n2 : Nat) : Int) - ((i : Nat) : Int) < ((mm : Nat) : Int))) with h2 | h2
 ·refine wl_set 29 rfl (congrArg Value.bool h2) ?_
  refine goff rfl rfl rfl (goff rfl rfl rfl (goff rfl rfl rfl (goff rfl rfl rfl (goff rfl rfl rfl (goff rfl rfl rfl (goff rfl rfl rfl (goff rfl rfl rfl (pt_ rfl rfl (nn_ (ct_ rfl (sr_ ?_)))))))))))
  refine sg_ rfl (sg_ rfl (nn_ ?_))
  refine gw_ret ?_
  refine nx_then_ret ?_
  refine nx_ret2 rfl rfl rfl fun wx hm => ?_
  have hP : priceO l sea fr tt kd i ((mm : Nat) : Int) = none := price_no (.inr (.inl (by have h2 := of_decide_eq_true h2; omega)))
  refine ⟨?_, hm.g⟩
  rw [hP]; rfl
 refine wl_set 29 rfl (congrArg Value.bool h2) ?_
 have h2 := of_decide_eq_false h2
 have himm : i + mm ≤ n2 := by omega
 obtain ⟨b2, o2, hA, _, _⟩ := hs.get (by omega)
 subst hA
 refine wl_guard_on rfl rfl rfl (fd_ fo244_2 rfl rfl (wl_guard_on rfl rfl rfl (lk_ sc22 0 rfl rfl rfl (wl_guard_on rfl rfl rfl (mv_ rfl (wl_guard_on rfl rfl rfl (mv_ rfl (wl_guard_on rfl rfl rfl (mv_ rfl (wl_guard_on rfl rfl rfl (ad_ rfl rfl ?_)))))))))))
 refine wl_set 35 (v' := .int .i64 ((i + mm : Nat) : Int)) rfl (congrArg (Value.int .i64) (by omega)) ?_
 refine wl_guard_on rfl rfl rfl ?_
 refine wl_ov (ov_sliceLH (lo := i) (hi := i + mm) es22 rfl rfl rfl rfl rfl (by omega) (by omega)) rfl ?_
 refine wl_set 36 (v' := .slice (some ⟨b2, o2 + i, none⟩) mm (c2 - i)) rfl (slice_cut (by omega)) ?_
 refine wl_guard_on rfl rfl rfl ?_
 refine wl_callv rfl cb213 rfl rfl (fun wx hm => (contains_int ((sea.drop i).take mm) _ mm _ (-1) wx (SlT.cut (hm.fact 1 rfl).1 himm hi) (by omega))) ?_
 refine pf_ rfl rfl (nn_ ?_)
 refine gw_cond rfl (fun hh => ?_) (fun hh => ?_)
 ·have h3 : (-1 : Int) ∈ (sea.drop i).take mm := by simpa using hh
  clear hh
  refine sr_ (sg_ rfl (sg_ rfl (nn_ ?_)))
  refine gw_ret ?_
  refine nx_then_ret ?_
  refine nx_ret2 rfl rfl rfl fun wx hm => ?_
  have hP : priceO l sea fr tt kd i ((mm : Nat) : Int) = none := price_no (.inr (.inr (by simpa using h3)))
  refine ⟨?_, hm.g⟩
  rw [hP]; rfl
 have h3 : ¬ ((-1 : Int) ∈ (sea.drop i).take mm) := by simpa using hh
 clear hh
 refine gw_skip (nx_then (gw_seq ?_))
 have hbad : ¬ (((mm : Nat) : Int) < 1 ∨ (sea.length : Int) - (i : Int) < ((mm : Nat) : Int) ∨ (-1 : Int) ∈ (sea.drop i).take (((mm : Nat) : Int)).toNat) := by
  rw [Int.toNat_natCast]
  rintro (h | h | h)
  ·omega
  ·omega
  exact h3 h
 obtain ⟨k0, hk0⟩ : ∃ x, sea[i]? = some x := ⟨_, List.getElem?_eq_getElem (by omega)⟩
 obtain ⟨hk1, hk2⟩ := hsea k0 (List.mem_of_getElem? hk0)
 have hk3 : k0 ≠ -1 := fun h => h3 (h ▸ take_one hk0 hm1)
 obtain ⟨kk, hkk⟩ := Int.eq_ofNat_of_zero_le (show 0 ≤ k0 by omega)
 subst hkk
 have hkn : kk < n := by omega
 obtain ⟨y, hy⟩ : ∃ x, l[kk]? = some x := ⟨_, List.getElem?_eq_getElem (by omega)⟩
 obtain ⟨⟨q1, q2⟩, ⟨q3, q4⟩, ⟨q5, q6⟩, ⟨q7, q8⟩⟩ := hr y (List.mem_of_getElem? hy)
 obtain ⟨cl, rf, rt, ho, dd, we, wk⟩ := y
 dsimp only at q1 q2 q3 q4 q5 q6 q7 q8
 have hgo := price_go (fr := fr) (to_ := tt) (kind := kd) hbad hk0 (by rw [Int.toNat_natCast]; exact hy)
 obtain ⟨b, off, hA, _, _⟩ := hl.get (by omega)
 subst hA
 refine gd (fun wz => Blk wz g1 244 [.slice (some ⟨b, off, none⟩) n c0, .int .i64 fr, .int .i64 tt, .slice (some ⟨b2, o2, none⟩) n2 c2] ∧ (SlOld rtEnc 7 170 w.heap.size none (some ⟨b, off, none⟩) n l) wz ∧ (SlOld itEnc 1 3 w.heap.size none (some ⟨b2, o2, none⟩) n2 sea) wz ∧ True) mixed (fun _ hm => ⟨hm.bl 0, hm.fa 0, hm.fa 1, trivial⟩) fun z => ?_
 refine wt 0 11 1 rfl z (ov_field fo244_0 rfl rfl) ?_
 refine wt 1 11 3 rfl z (ov_load sc26 rfl (fun _ hm => hm.1) rfl) ?_
 refine wt 2 11 7 rfl z (ov_field fo244_2 rfl rfl) ?_
 refine wt 3 11 15 rfl z (ov_load sc22 rfl (fun _ hm => hm.1) rfl) ?_
 refine wt 4 11 31 rfl z (ov_move rfl) ?_
 refine wt 5 11 63 rfl z (ov_index (j := i) es22 rfl rfl (by omega)) ?_
 refine wt 6 11 127 rfl z (ov_elem1 (k := 0) (v := .int .i64 ((kk : Nat) : Int)) sc3 rfl (fun _ hm => (hm.2.2.1).1) hk0 rfl rfl) ?_
 refine wt 7 11 255 rfl z (ov_index (j := kk) es26 rfl rfl (by omega)) ?_
 refine wt 8 11 511 rfl z (ov_elem (vs := [.string cl, .int .i64 rf, .int .i64 rt, .int .i64 ho, .int .i64 dd, .int .i64 we, .int .i64 wk]) rz170 rfl (fun _ hm => (hm.2.1).1) hy rfl rfl) ?_
 refine wa1 9 rfl ?_
 refine wl_alloc zc170 rfl fun g2 => ?_
 refine wl_nil ?_
 refine nw 11 1023 (fun _ hm => ⟨hm.bl 1, hm.fa 0, hm.fa 1, trivial⟩) fun z => ?_
 refine wa1 10 rfl ?_
 refine wl_stores (cs' := [.string cl, .int .i64 rf, .int .i64 rt, .int .i64 ho, .int .i64 dd, .int .i64 we, .int .i64 wk]) 0 rz170 rfl rfl rfl rfl rfl rfl rfl rfl ?_
 refine wl_nil ?_
 refine nw 11 2047 (fun _ hm => ⟨hm.bl 1, hm.fa 0, hm.fa 1, trivial⟩) fun z => ?_
 refine wa_done (by kernel_rfl) ?_
 refine nx_then (sr_ (mv_ rfl (wl_ov (ov_eql rfl rfl) rfl (sg_ rfl ?_))))
 refine wl_set 12 (v' := .int .i64 (-1)) rfl rfl ?_
 refine sg_ rfl (nn_ (gw_seq (sr_ (mv_ rfl (nn_ (gw_block (sr_ (wl_ov (ov_eql rfl rfl) rfl (sg_ rfl ?_)))))))))
 refine nn_ ?_
 refine gw_cond rfl (fun hh => ?_) (fun hh => ?_)
 ·have hk : kd = 1 := by simpa using hh
  clear hh
  refine gw_region (fd_ fo170_3 rfl rfl (lk_ sc3 0 rfl rfl rfl (mv_ rfl (mv_ rfl ?_))))
  rcases Bool.eq_false_or_eq_true (decide (((mm : Nat) : Int) = 1)) with hmm1 | hmm1
  ·refine wl_set 56 rfl (congrArg Value.bool hmm1) ?_
   have hmm1 := of_decide_eq_true hmm1
   refine wl_guard_on rfl rfl rfl (mv_ rfl (wl_guard_on rfl rfl rfl (wl_ov (ov_eql rfl rfl) rfl (pt_ rfl rfl (sg_ rfl (sg_ rfl (wl_nil (nx_blk_nrm (nx_then (gw_seq (sr_ (mv_ rfl ?_))))))))))))
   refine wl_ov (ov_un_not rfl) rfl (mv_ rfl ?_)
   rcases Bool.eq_false_or_eq_true (!(decide (((n2 : Nat) : Int) - ((i : Nat) : Int) = 1))) with hL | hL
   ·refine wl_set 117 rfl (congrArg Value.bool hL) ?_
    have hL : ¬ (sea.length = i + 1) := by simp at hL; omega
    refine goff rfl rfl rfl (goff rfl rfl rfl (pt_ rfl rfl (nn_ (ct_ rfl (sr_ (sg_ rfl (sg_ rfl (nn_ ?_))))))))
    refine gw_ret ?_
    refine nx_then_ret ?_
    refine nx_ret2 rfl rfl rfl fun wx hm => ?_
    have hP : priceK ⟨cl, rf, rt, ho, dd, we, wk⟩ sea fr tt kd i ((mm : Nat) : Int) = none := by
     unfold priceK
     rw [if_pos hk, if_neg (fun h => hL h.2.1)]
    refine ⟨?_, hm.g⟩
    rw [hgo, hP]; rfl
   refine wl_set 117 rfl (congrArg Value.bool hL) ?_
   have hL : sea.length = i + 1 := by simp at hL; omega
   refine wl_guard_on rfl rfl rfl (mv_ rfl (wl_guard_on rfl rfl rfl (wl_ov (ov_lss rfl rfl) rfl (pf_ rfl rfl (nn_ ?_)))))
   refine gw_cond rfl (fun hh => ?_) (fun hh => ?_)
   ·have hz : ho < 0 := by simpa using hh
    clear hh
    refine sr_ (sg_ rfl (sg_ rfl (nn_ ?_)))
    refine gw_ret ?_
    refine nx_then_ret ?_
    refine nx_ret2 rfl rfl rfl fun wx hm => ?_
    have hP : priceK ⟨cl, rf, rt, ho, dd, we, wk⟩ sea fr tt kd i ((mm : Nat) : Int) = none := by
     unfold priceK
     rw [if_pos hk]; rw [if_neg (fun h => absurd h.2.2 (show ¬ 0 ≤ ho by omega))]
    refine ⟨?_, hm.g⟩
    rw [hgo, hP]; rfl
   have hz : ¬ (ho < 0) := by simpa using hh
   clear hh
   refine gw_skip (nx_then (gw_seq (sr_ ?_)))
   obtain ⟨E, hE⟩ : ∃ E, E = endV fr tt i := ⟨_, rfl⟩
   obtain ⟨G, hG⟩ : ∃ E, E = begV fr i := ⟨_, rfl⟩
   have hEG : 0 ≤ E - G ∧ E - G ≤ 1440 := by rw [hE, hG]; unfold endV; unfold begV at hto ⊢; omega
   have hG0 : 0 ≤ G := by rw [hG]; unfold begV; omega
   have hE0 : E ≤ 10000000 := by rw [hE]; unfold endV; omega
   have hq0 : 0 ≤ (E - G + 59) / 60 := by omega
   have hq1 : (E - G + 59) / 60 ≤ 24 := by omega
   have hml0 : 0 ≤ ho * ((E - G + 59) / 60) := Int.mul_nonneg (by omega) hq0
   have hml1 : ho * ((E - G + 59) / 60) ≤ 1000000 * 24 := Int.mul_le_mul q2 hq1 hq0 (by omega)
   have hEG0 := hEG.1
   have hEG1 := hEG.2
   refine mv_ rfl (wl_ov (ov_eql rfl rfl) rfl ?_)
   refine wl_set 122 (v' := .bool true) rfl (congrArg Value.bool (decide_eq_true hk)) ?_
   refine nn_ (ct_ rfl ?_)
   refine gd (fun wz => Blk wz g2 170 [.string cl, .int .i64 rf, .int .i64 rt, .int .i64 ho, .int .i64 dd, .int .i64 we, .int .i64 wk] ∧ Blk wz g1 244 [.slice (some ⟨b, off, none⟩) n c0, .int .i64 fr, .int .i64 tt, .slice (some ⟨b2, o2, none⟩) n2 c2] ∧ (SlOld rtEnc 7 170 w.heap.size none (some ⟨b, off, none⟩) n l) wz ∧ (SlOld itEnc 1 3 w.heap.size none (some ⟨b2, o2, none⟩) n2 sea) wz ∧ True) mixed (fun _ hm => ⟨hm.bl 0, hm.bl 1, hm.fa 0, hm.fa 1, trivial⟩) fun z => ?_
   refine wt 0 12 1 rfl z (ov_move rfl) ?_
   refine wt 1 12 3 rfl z (ov_loads rz244 rfl (fun _ hm => hm.2.1) rfl rfl) ?_
   refine wt 2 12 7 rfl z (ov_move rfl) ?_
   refine wt 4 12 23 rfl z (ov_loads rz244 rfl (fun _ hm => hm.2.1) rfl rfl) ?_
   refine wt 5 12 55 rfl z (ov_move rfl) ?_
   refine wa1 3 rfl ?_
   refine wl_callv (v := .int .i64 E) rfl cb301 rfl rfl (fun wx hm => (by rw [hE]; exact tend_any _ _ _ fr tt _ i wx h0 h00 (by omega))) ?_
   refine wl_nil ?_
   refine nw 12 63 (fun _ hm => ⟨hm.bl 0, hm.bl 1, hm.fa 0, hm.fa 1, trivial⟩) fun z => ?_
   refine wa1 6 rfl ?_
   refine wl_callv (v := .int .i64 G) rfl cb249 rfl rfl (fun wx hm => (by rw [hG]; exact tbegin_any _ _ _ fr tt _ i wx h0 h00 (by omega))) ?_
   refine wl_nil ?_
   refine nw 12 127 (fun _ hm => ⟨hm.bl 0, hm.bl 1, hm.fa 0, hm.fa 1, trivial⟩) fun z => ?_
   refine wt 7 12 255 rfl z (ov_sub rfl rfl (by omega) (by omega)) ?_
   refine wt 8 12 511 rfl z (ov_add rfl rfl (by omega) (by omega)) ?_
   refine wt 9 12 1023 rfl z (ov_quo rfl rfl (by omega) (by omega) (by omega)) ?_
   refine wt 10 12 2047 rfl z (ov_mul rfl rfl (by omega) (by omega)) ?_
   refine wt 11 12 4095 rfl z (ov_assign rfl) ?_
   refine wa_done (by kernel_rfl) ?_
   refine nx_then (sr_ (mv_ rfl (sg_ rfl (sg_ rfl (nn_ ?_)))))
   refine gw_ret ?_
   refine nx_ret2 rfl rfl rfl fun wx hm => ?_
   have hP : priceK ⟨cl, rf, rt, ho, dd, we, wk⟩ sea fr tt kd i ((mm : Nat) : Int) = some (ho * ((E - G + 59) / 60)) := by
    unfold priceK
    rw [if_pos hk]; rw [if_pos ⟨hmm1, hL, (show 0 ≤ ho by omega)⟩]; rw [hE, hG]
   refine ⟨?_, hm.g⟩
   rw [hgo, hP]; rfl
  refine wl_set 56 rfl (congrArg Value.bool hmm1) ?_
  have hmm1 := of_decide_eq_false hmm1
  refine goff rfl rfl rfl (goff rfl rfl rfl (pf_ rfl rfl (sg_ rfl (sg_ rfl (wl_nil (nx_blk_nrm (nx_then (gw_seq (sr_ (mv_ rfl (wl_ov (ov_un_not rfl) rfl ?_)))))))))))
  refine wl_set 116 (v' := .bool true) rfl (congrArg Value.bool (by decide)) ?_
  refine mv_ rfl (goff rfl rfl rfl (goff rfl rfl rfl (pt_ rfl rfl (nn_ (ct_ rfl (sr_ (sg_ rfl (sg_ rfl (nn_ ?_)))))))))
  refine gw_ret ?_
  refine nx_then_ret ?_
  refine nx_ret2 rfl rfl rfl fun wx hm => ?_
  have hP : priceK ⟨cl, rf, rt, ho, dd, we, wk⟩ sea fr tt kd i ((mm : Nat) : Int) = none := by
   unfold priceK
   rw [if_pos hk, if_neg (fun h => hmm1 h.1)]
  refine ⟨?_, hm.g⟩
  rw [hgo, hP]; rfl
 have hk : ¬ (kd = 1) := by simpa using hh
 clear hh
 refine sr_ (wl_ov (ov_eql rfl rfl) rfl (sg_ rfl (nn_ ?_)))
 refine gw_cond rfl (fun hh => ?_) (fun hh => ?_)
 ·have hk : kd = 2 := by simpa using hh
  clear hh
  refine gw_region ?_
  have hk1 : ¬ kd = 1 := by omega
  refine fd_ fo170_4 rfl rfl (lk_ sc3 0 rfl rfl rfl (sg_ rfl (wl_nil (nx_blk_nrm (nx_then (gw_seq (sr_ (mv_ rfl (wl_ov (ov_un_not rfl) rfl (mv_ rfl ?_))))))))))
  rcases Bool.eq_false_or_eq_true (!(decide (((mm : Nat) : Int) = 1))) with hmm1 | hmm1
  ·refine wl_set 117 rfl (congrArg Value.bool hmm1) ?_
   have hmm1 : ¬ ((mm : Nat) : Int) = 1 := by simpa using hmm1
   refine goff rfl rfl rfl (goff rfl rfl rfl (pt_ rfl rfl (nn_ (ct_ rfl (sr_ (sg_ rfl (sg_ rfl (nn_ ?_))))))))
   refine gw_ret ?_
   refine nx_then_ret ?_
   refine nx_ret2 rfl rfl rfl fun wx hm => ?_
   have hP : priceK ⟨cl, rf, rt, ho, dd, we, wk⟩ sea fr tt kd i ((mm : Nat) : Int) = none := by
    unfold priceK
    rw [if_neg hk1, if_pos hk, if_neg (fun h => hmm1 h.1)]
   refine ⟨?_, hm.g⟩
   rw [hgo, hP]; rfl
  refine wl_set 117 rfl (congrArg Value.bool hmm1) ?_
  have hmm1 : ((mm : Nat) : Int) = 1 := by simpa using hmm1
  refine wl_guard_on rfl rfl rfl (mv_ rfl (wl_guard_on rfl rfl rfl (wl_ov (ov_lss rfl rfl) rfl (pf_ rfl rfl (nn_ ?_)))))
  refine gw_cond rfl (fun hh => ?_) (fun hh => ?_)
  ·have hz : dd < 0 := by simpa using hh
   clear hh
   refine sr_ (sg_ rfl (sg_ rfl (nn_ ?_)))
   refine gw_ret ?_
   refine nx_then_ret ?_
   refine nx_ret2 rfl rfl rfl fun wx hm => ?_
   have hP : priceK ⟨cl, rf, rt, ho, dd, we, wk⟩ sea fr tt kd i ((mm : Nat) : Int) = none := by
    unfold priceK
    rw [if_neg hk1, if_pos hk]; rw [if_neg (fun h => absurd h.2 (show ¬ 0 ≤ dd by omega))]
   refine ⟨?_, hm.g⟩
   rw [hgo, hP]; rfl
  have hz : ¬ (dd < 0) := by simpa using hh
  clear hh
  refine gw_skip (nx_then (gw_seq (sr_ (mv_ rfl (wl_ov (ov_eql rfl rfl) rfl ?_)))))
  refine wl_set 122 (v' := .bool false) rfl (congrArg Value.bool (decide_eq_false (by omega))) ?_
  refine nn_ (cf_ rfl (gw_skip (nx_then (sr_ (mv_ rfl (sg_ rfl (sg_ rfl (nn_ ?_))))))))
  refine gw_ret ?_
  refine nx_ret2 rfl rfl rfl fun wx hm => ?_
  have hP : priceK ⟨cl, rf, rt, ho, dd, we, wk⟩ sea fr tt kd i ((mm : Nat) : Int) = some (dd) := by
   unfold priceK
   rw [if_neg hk1, if_pos hk]; rw [if_pos ⟨hmm1, (show 0 ≤ dd by omega)⟩]
  refine ⟨?_, hm.g⟩
  rw [hgo, hP]; rfl
 have hk : ¬ (kd = 2) := by simpa using hh
 clear hh
 refine sr_ (wl_ov (ov_eql rfl rfl) rfl (sg_ rfl (nn_ ?_)))
 refine gw_cond rfl (fun hh => ?_) (fun hh => ?_)
 ·have hk : kd = 3 := by simpa using hh
  clear hh
  refine sr_ ?_
  have hk1 : ¬ kd = 1 := by omega
  have hk2 : ¬ kd = 2 := by omega
  obtain ⟨G, hG⟩ : ∃ E, E = begV fr i := ⟨_, rfl⟩
  have hG0 : 0 ≤ G := by rw [hG]; unfold begV; omega
  have hG1 : G ≤ 10000000 := by rw [hG]; unfold begV; omega
  obtain ⟨W, hW⟩ : ∃ E, E = wkE G := ⟨_, rfl⟩
  obtain ⟨E2, hE2⟩ : ∃ E, E = endV fr tt (i + mm - 1) := ⟨_, rfl⟩
  refine wl_ov (ov_loads rz244 rfl (fun _ hm => hm.blkI 1 rfl) rfl rfl) rfl ?_
  refine mv_ rfl ?_
  refine wl_callv (v := .int .i64 G) rfl cb249 rfl rfl (fun wx hm => (by rw [hG]; exact tbegin_any _ _ _ fr tt _ i wx h0 h00 (by omega))) ?_
  refine wl_callv (v := .int .i64 W) rfl cb300 rfl rfl (fun wx hm => (by rw [hW]; exact tweekend_any G wx hG0 (by omega))) ?_
  refine sg_ rfl (nn_ ?_)
  refine gd (fun wz => Blk wz g2 170 [.string cl, .int .i64 rf, .int .i64 rt, .int .i64 ho, .int .i64 dd, .int .i64 we, .int .i64 wk] ∧ Blk wz g1 244 [.slice (some ⟨b, off, none⟩) n c0, .int .i64 fr, .int .i64 tt, .slice (some ⟨b2, o2, none⟩) n2 c2] ∧ (SlOld rtEnc 7 170 w.heap.size none (some ⟨b, off, none⟩) n l) wz ∧ (SlOld itEnc 1 3 w.heap.size none (some ⟨b2, o2, none⟩) n2 sea) wz ∧ True) mixed (fun _ hm => ⟨hm.bl 0, hm.bl 1, hm.fa 0, hm.fa 1, trivial⟩) fun z => ?_
  refine wt 0 16 1 rfl z (ov_field fo170_5 rfl rfl) ?_
  refine wt 1 16 3 rfl z (ov_load sc3 rfl (fun _ hm => hm.1) rfl) ?_
  refine wt 2 16 7 rfl z (ov_move rfl) ?_
  refine wt 3 16 15 rfl z (ov_geq rfl rfl) ?_
  refine wt 4 16 31 rfl z (ov_move rfl) ?_
  rcases Bool.eq_false_or_eq_true (decide (0 ≤ W)) with hW0 | hW0
  ·refine wa_set 74 rfl (congrArg Value.bool hW0) ?_
   have hW0 : 0 ≤ W := of_decide_eq_true hW0
   refine wto 5 16 63 rfl rfl rfl z (ov_loads rz244 rfl (fun _ hm => hm.2.1) rfl rfl) ?_
   refine wto 6 16 127 rfl rfl rfl z (ov_move rfl) ?_
   refine wto 7 16 255 rfl rfl rfl z (ov_move rfl) ?_
   refine wto 8 16 511 rfl rfl rfl z (ov_add rfl rfl (by omega) (by omega)) ?_
   refine wa_set 78 (v' := .int .i64 ((i + mm : Nat) : Int)) rfl (congrArg (Value.int .i64) (by omega)) ?_
   refine wto 9 16 1023 rfl rfl rfl z (ov_sub rfl rfl (by omega) (by omega)) ?_
   refine wa_set 79 (v' := .int .i64 ((i + mm - 1 : Nat) : Int)) rfl (congrArg (Value.int .i64) (by omega)) ?_
   refine wto 11 16 3071 rfl rfl rfl z (ov_move rfl) ?_
   refine wa1 10 rfl ?_
   refine wl_guard_on rfl rfl rfl ?_
   refine wl_callv (v := .int .i64 E2) rfl cb301 rfl rfl (fun wx hm => (by rw [hE2]; exact tend_any _ _ _ fr tt _ (i + mm - 1) wx h0 h00 (by omega))) ?_
   refine wl_nil ?_
   refine nw 16 4095 (fun _ hm => ⟨hm.bl 0, hm.bl 1, hm.fa 0, hm.fa 1, trivial⟩) fun z => ?_
   refine wto 12 16 8191 rfl rfl rfl z (ov_leq rfl rfl) ?_
   refine wt 13 16 16383 rfl z (ov_pick_t rfl rfl) ?_
   refine wt 14 16 32767 rfl z (ov_assign rfl) ?_
   refine wt 15 16 65535 rfl z (ov_assign rfl) ?_
   refine wa_done (by kernel_rfl) ?_
   refine nx_blk_nrm (nx_then (gw_seq (sr_ (mv_ rfl (wl_ov (ov_un_not rfl) rfl (mv_ rfl ?_))))))
   rcases Bool.eq_false_or_eq_true (!(decide (E2 ≤ W))) with hW1 | hW1
   ·refine wl_set 117 rfl (congrArg Value.bool hW1) ?_
    have hW1 : ¬ E2 ≤ W := by simpa using hW1
    refine goff rfl rfl rfl (goff rfl rfl rfl (pt_ rfl rfl (nn_ (ct_ rfl (sr_ (sg_ rfl (sg_ rfl (nn_ ?_))))))))
    refine gw_ret ?_
    refine nx_then_ret ?_
    refine nx_ret2 rfl rfl rfl fun wx hm => ?_
    have hP : priceK ⟨cl, rf, rt, ho, dd, we, wk⟩ sea fr tt kd i ((mm : Nat) : Int) = none := by
     unfold priceK
     rw [if_neg hk1, if_neg hk2, if_pos hk, Int.toNat_natCast, ← hE2, ← hG, ← hW]; rw [if_neg (fun h => hW1 h.1.2)]
    refine ⟨?_, hm.g⟩
    rw [hgo, hP]; rfl
   refine wl_set 117 rfl (congrArg Value.bool hW1) ?_
   have hW1 : E2 ≤ W := by simpa using hW1
   refine wl_guard_on rfl rfl rfl (mv_ rfl (wl_guard_on rfl rfl rfl (wl_ov (ov_lss rfl rfl) rfl (pf_ rfl rfl (nn_ ?_)))))
   refine gw_cond rfl (fun hh => ?_) (fun hh => ?_)
   ·have hz : we < 0 := by simpa using hh
    clear hh
    refine sr_ (sg_ rfl (sg_ rfl (nn_ ?_)))
    refine gw_ret ?_
    refine nx_then_ret ?_
    refine nx_ret2 rfl rfl rfl fun wx hm => ?_
    have hP : priceK ⟨cl, rf, rt, ho, dd, we, wk⟩ sea fr tt kd i ((mm : Nat) : Int) = none := by
     unfold priceK
     rw [if_neg hk1, if_neg hk2, if_pos hk, Int.toNat_natCast, ← hE2, ← hG, ← hW]; rw [if_neg (fun h => absurd h.2 (show ¬ 0 ≤ we by omega))]
    refine ⟨?_, hm.g⟩
    rw [hgo, hP]; rfl
   have hz : ¬ (we < 0) := by simpa using hh
   clear hh
   refine gw_skip (nx_then (gw_seq (sr_ (mv_ rfl (wl_ov (ov_eql rfl rfl) rfl ?_)))))
   refine wl_set 122 (v' := .bool false) rfl (congrArg Value.bool (decide_eq_false (by omega))) ?_
   refine nn_ (cf_ rfl (gw_skip (nx_then (sr_ (mv_ rfl (sg_ rfl (sg_ rfl (nn_ ?_))))))))
   refine gw_ret ?_
   refine nx_ret2 rfl rfl rfl fun wx hm => ?_
   have hP : priceK ⟨cl, rf, rt, ho, dd, we, wk⟩ sea fr tt kd i ((mm : Nat) : Int) = some (we) := by
    unfold priceK
    rw [if_neg hk1, if_neg hk2, if_pos hk, Int.toNat_natCast, ← hE2, ← hG, ← hW]; rw [if_pos ⟨⟨hW0, hW1⟩, (show 0 ≤ we by omega)⟩]
   refine ⟨?_, hm.g⟩
   rw [hgo, hP]; rfl
  refine wa_set 74 rfl (congrArg Value.bool hW0) ?_
  have hW0 : ¬ 0 ≤ W := of_decide_eq_false hW0
  refine wtf 5 16 63 rfl rfl rfl z ?_
  refine wtf 6 16 127 rfl rfl rfl z ?_
  refine wtf 7 16 255 rfl rfl rfl z ?_
  refine wtf 8 16 511 rfl rfl rfl z ?_
  refine wtf 9 16 1023 rfl rfl rfl z ?_
  refine wtf 10 16 2047 rfl rfl rfl z ?_
  refine wtf 11 16 4095 rfl rfl rfl z ?_
  refine wtf 12 16 8191 rfl rfl rfl z ?_
  refine wt 13 16 16383 rfl z (ov_pick_f rfl rfl) ?_
  refine wt 14 16 32767 rfl z (ov_assign rfl) ?_
  refine wt 15 16 65535 rfl z (ov_assign rfl) ?_
  refine wa_done (by kernel_rfl) ?_
  refine nx_blk_nrm (nx_then (gw_seq (sr_ (mv_ rfl (wl_ov (ov_un_not rfl) rfl ?_)))))
  refine wl_set 116 (v' := .bool true) rfl (congrArg Value.bool (by decide)) ?_
  refine mv_ rfl (goff rfl rfl rfl (goff rfl rfl rfl (pt_ rfl rfl (nn_ (ct_ rfl (sr_ (sg_ rfl (sg_ rfl (nn_ ?_)))))))))
  refine gw_ret ?_
  refine nx_then_ret ?_
  refine nx_ret2 rfl rfl rfl fun wx hm => ?_
  have hP : priceK ⟨cl, rf, rt, ho, dd, we, wk⟩ sea fr tt kd i ((mm : Nat) : Int) = none := by
   unfold priceK
   rw [if_neg hk1, if_neg hk2, if_pos hk, Int.toNat_natCast, ← hE2, ← hG, ← hW]; rw [if_neg (fun h => hW0 h.1.1)]
  refine ⟨?_, hm.g⟩
  rw [hgo, hP]; rfl
 have hk : ¬ (kd = 3) := by simpa using hh
 clear hh
 refine sr_ (wl_ov (ov_eql rfl rfl) rfl (sg_ rfl (nn_ ?_)))
 refine gw_cond rfl (fun hh => ?_) (fun hh => ?_)
 ·have hk : kd = 4 := by simpa using hh
  clear hh
  refine sr_ ?_
  have hk1 : ¬ kd = 1 := by omega
  have hk2 : ¬ kd = 2 := by omega
  have hk3 : ¬ kd = 3 := by omega
  refine fd_ fo170_6 rfl rfl (lk_ sc3 0 rfl rfl rfl (mv_ rfl (mv_ rfl ?_)))
  refine wl_ov (ov_min rfl rfl) rfl ?_
  refine wl_ov (ov_eql rfl rfl) rfl (sg_ rfl (sg_ rfl (nn_ (sr_ (fd_ fo244_2 rfl rfl (lk_ sc22 1 rfl rfl rfl (mv_ rfl (mv_ rfl (mv_ rfl (ad_ rfl rfl ?_))))))))))
  refine wl_set 97 (v' := .int .i64 ((i + mm : Nat) : Int)) rfl (congrArg (Value.int .i64) (by omega)) ?_
  refine wl_ov (ov_sliceLH (lo := i) (hi := i + mm) es22 rfl rfl rfl rfl rfl (by omega) (by omega)) rfl ?_
  refine wl_set 98 (v' := .slice (some ⟨b2, o2 + i, none⟩) mm (c2 - i)) rfl (slice_cut (by omega)) ?_
  refine wl_ov (ov_len es22 rfl) rfl (mv_ rfl (nn_ (gw_block ?_)))
  obtain ⟨MN, hMN⟩ : ∃ b : Bool, b = decide (((mm : Nat) : Int) = min 7 (((n2 : Nat) : Int) - ((i : Nat) : Int))) := ⟨_, rfl⟩
  refine gw_set 13 (v' := .bool MN) rfl (congrArg Value.bool hMN.symm) ?_
  refine gw_loop (γ := Nat × Bool) (fun g => g.1 ≤ mm ∧ g.2 = (MN && ((sea.drop i).take g.1).all (fun y => decide (y = ((kk : Nat) : Int))))) (fun g => [(1, .int .i64 kd), (2, .int .i64 ((i : Nat) : Int)), (4, .pointer (some ⟨g1, 0, none⟩)), (8, .int .i64 0), (9, .bool false), (12, .int .i64 wk), (13, .bool g.2), (98, .slice (some ⟨b2, o2 + i, none⟩) mm (c2 - i)), (99, .int .i64 ((mm : Nat) : Int)), (100, .int .i64 ((g.1 : Nat) : Int))]) (fun g => fun _ => True) (fun g => [(g2, 170, [.string cl, .int .i64 rf, .int .i64 rt, .int .i64 ho, .int .i64 dd, .int .i64 we, .int .i64 wk]), (g1, 244, [.slice (some ⟨b, off, none⟩) n c0, .int .i64 fr, .int .i64 tt, .slice (some ⟨b2, o2, none⟩) n2 c2])]) (fun g => []) (fun g => [SlOld rtEnc 7 170 w.heap.size none (some ⟨b, off, none⟩) n l, SlOld itEnc 1 3 w.heap.size none (some ⟨b2, o2, none⟩) n2 sea]) (fun g => mm - g.1) (0, MN) ⟨Nat.zero_le _, by simp⟩ ⟨rfl, rfl, rfl, rfl, rfl, rfl, rfl, rfl, rfl, rfl, trivial⟩ (fun _ hm => hm.pick [0, 1] [] [0, 1] rfl rfl) ?_
  rintro ⟨j, bb⟩ hinv
  replace hinv : j ≤ mm ∧ bb = (MN && ((sea.drop i).take j).all (fun y => decide (y = ((kk : Nat) : Int)))) := hinv
  dsimp only
  refine sr_ ?_
  obtain ⟨hj0, hj1⟩ := hinv
  refine wl_ov (ov_lss rfl rfl) rfl (nn_ (gw_seq ?_))
  refine gw_cond rfl (fun hh => ?_) (fun hh => ?_)
  ·have hj : ((j : Nat) : Int) < ((mm : Nat) : Int) := by simpa using hh
   clear hh
   refine gw_skip (nx_then (gw_seq (gw_block (sr_ ?_))))
   obtain ⟨xj, hxj⟩ : ∃ x, sea[i + j]? = some x := ⟨_, List.getElem?_eq_getElem (by omega)⟩
   have hst := same_step (k := ((kk : Nat) : Int)) hxj
   refine wl_ov (ov_index (j := j) es22 rfl rfl (by omega)) rfl ?_
   refine wl_ov (ov_elem1 (k := 0) (v := .int .i64 xj) sc3 rfl (fun _ hm => (SlT.cut (hm.fact 1 rfl).1 himm hi)) (show ((sea.drop i).take mm)[j]? = some xj by rw [List.getElem?_take, if_pos (by omega), List.getElem?_drop]; exact hxj) rfl rfl) rfl ?_
   refine sg_ rfl (nn_ (gw_region (mv_ rfl (mv_ rfl ?_))))
   rcases Bool.eq_false_or_eq_true bb with hb | hb
   ·refine wl_set 105 rfl (congrArg Value.bool hb) ?_
    refine wl_guard_on rfl rfl rfl (mv_ rfl (wl_guard_on rfl rfl rfl (fd_ fo244_2 rfl rfl (wl_guard_on rfl rfl rfl (lk_ sc22 1 rfl rfl rfl (wl_guard_on rfl rfl rfl (mv_ rfl (wl_guard_on rfl rfl rfl ?_))))))))
    refine wl_ov (ov_index (j := i) es22 rfl rfl (by omega)) rfl ?_
    refine wl_guard_on rfl rfl rfl ?_
    refine wl_ov (ov_elem1 (k := 0) (v := .int .i64 ((kk : Nat) : Int)) sc3 rfl (fun _ hm => (hm.fact 1 rfl).1) hk0 rfl rfl) rfl ?_
    refine wl_guard_on rfl rfl rfl (wl_ov (ov_eql rfl rfl) rfl (pt_ rfl rfl (sg_ rfl (wl_nil (nx_blk_nrm (nx_then (gw_region (ad_ rfl rfl (mv_ rfl (wl_nil ?_))))))))))
    exact nx_round (j + 1, decide (xj = ((kk : Nat) : Int))) ⟨by dsimp only; omega, by dsimp only; rw [hst, ← Bool.and_assoc, ← hj1, hb]; rfl⟩ (by dsimp only; omega) ⟨rfl, rfl, rfl, rfl, rfl, rfl, rfl, rfl, rfl, (some_int (by omega)), trivial⟩ (fun _ hm => hm.pick [0, 1] [] [0, 1] rfl rfl)
   refine wl_set 105 rfl (congrArg Value.bool hb) ?_
   refine goff rfl rfl rfl (goff rfl rfl rfl (goff rfl rfl rfl (goff rfl rfl rfl (goff rfl rfl rfl (goff rfl rfl rfl (goff rfl rfl rfl (pf_ rfl rfl (sg_ rfl (wl_nil (nx_blk_nrm (nx_then (gw_region (ad_ rfl rfl ?_)))))))))))))
   refine mv_ rfl (wl_nil ?_)
   exact nx_round (j + 1, false) ⟨by dsimp only; omega, by dsimp only; rw [hst, ← Bool.and_assoc, ← hj1, hb]; rfl⟩ (by dsimp only; omega) ⟨rfl, rfl, rfl, rfl, rfl, rfl, rfl, rfl, rfl, (some_int (by omega)), trivial⟩ (fun _ hm => hm.pick [0, 1] [] [0, 1] rfl rfl)
  have hj : ¬ (((j : Nat) : Int) < ((mm : Nat) : Int)) := by simpa using hh
  clear hh
  refine gw_exit ?_
  refine nx_then_exit (nx_then_exit ?_)
  refine nx_blk_here ?_
  refine nx_blk_nrm (nx_then (gw_seq (sr_ ?_)))
  have hjm : j = mm := by omega
  subst hjm
  refine mv_ rfl (wl_ov (ov_un_not rfl) rfl (mv_ rfl ?_))
  rcases Bool.eq_false_or_eq_true (!bb) with hb | hb
  ·refine wl_set 117 rfl (congrArg Value.bool hb) ?_
   have hno : ¬ (((j : Nat) : Int) = min 7 (((n2 : Nat) : Int) - ((i : Nat) : Int)) ∧ ∀ y ∈ (sea.drop i).take j, some ((kk : Nat) : Int) = some y) := by
    have hb : bb = false := by simpa using hb
    rw [hj1, hMN] at hb
    rintro ⟨h1, h2⟩
    rw [decide_eq_true h1, all_same.2 h2] at hb
    cases hb
   refine goff rfl rfl rfl (goff rfl rfl rfl (pt_ rfl rfl (nn_ (ct_ rfl (sr_ (sg_ rfl (sg_ rfl (nn_ ?_))))))))
   refine gw_ret ?_
   refine nx_then_ret ?_
   refine nx_ret2 rfl rfl rfl fun wx hm => ?_
   have hP : priceK ⟨cl, rf, rt, ho, dd, we, wk⟩ sea fr tt kd i ((j : Nat) : Int) = none := by
    unfold priceK
    rw [if_neg hk1, if_neg hk2, if_neg hk3, if_pos hk, Int.toNat_natCast, hk0, hslen]; rw [if_neg (fun h => hno h.1)]
   refine ⟨?_, hm.g⟩
   rw [hgo, hP]; rfl
  refine wl_set 117 rfl (congrArg Value.bool hb) ?_
  have hys : ((j : Nat) : Int) = min 7 (((n2 : Nat) : Int) - ((i : Nat) : Int)) ∧ ∀ y ∈ (sea.drop i).take j, some ((kk : Nat) : Int) = some y := by
   have hb : bb = true := by simpa using hb
   rw [hj1, hMN, Bool.and_eq_true] at hb
   exact ⟨of_decide_eq_true hb.1, all_same.1 hb.2⟩
  obtain ⟨hmin, hsame⟩ := hys
  refine wl_guard_on rfl rfl rfl (mv_ rfl (wl_guard_on rfl rfl rfl (wl_ov (ov_lss rfl rfl) rfl (pf_ rfl rfl (nn_ ?_)))))
  refine gw_cond rfl (fun hh => ?_) (fun hh => ?_)
  ·have hz : wk < 0 := by simpa using hh
   clear hh
   refine sr_ (sg_ rfl (sg_ rfl (nn_ ?_)))
   refine gw_ret ?_
   refine nx_then_ret ?_
   refine nx_ret2 rfl rfl rfl fun wx hm => ?_
   have hP : priceK ⟨cl, rf, rt, ho, dd, we, wk⟩ sea fr tt kd i ((j : Nat) : Int) = none := by
    unfold priceK
    rw [if_neg hk1, if_neg hk2, if_neg hk3, if_pos hk, Int.toNat_natCast, hk0, hslen]; rw [if_neg (fun h => absurd h.2 (show ¬ 0 ≤ wk by omega))]
   refine ⟨?_, hm.g⟩
   rw [hgo, hP]; rfl
  have hz : ¬ (wk < 0) := by simpa using hh
  clear hh
  refine gw_skip (nx_then (gw_seq (sr_ (mv_ rfl (wl_ov (ov_eql rfl rfl) rfl ?_)))))
  refine wl_set 122 (v' := .bool false) rfl (congrArg Value.bool (decide_eq_false (by omega))) ?_
  refine nn_ (cf_ rfl (gw_skip (nx_then (sr_ (mv_ rfl (sg_ rfl (sg_ rfl (nn_ ?_))))))))
  refine gw_ret ?_
  refine nx_ret2 rfl rfl rfl fun wx hm => ?_
  have hP : priceK ⟨cl, rf, rt, ho, dd, we, wk⟩ sea fr tt kd i ((j : Nat) : Int) = some (wk) := by
   unfold priceK
   rw [if_neg hk1, if_neg hk2, if_neg hk3, if_pos hk, Int.toNat_natCast, hk0, hslen]; rw [if_pos ⟨⟨hmin, hsame⟩, (show 0 ≤ wk by omega)⟩]
  refine ⟨?_, hm.g⟩
  rw [hgo, hP]; rfl
 have hk : ¬ (kd = 4) := by simpa using hh
 clear hh
 refine gw_skip (nx_blk_nrm (nx_then (gw_seq (sr_ ?_))))
 have hk1 : ¬ kd = 1 := by omega
 have hk2 : ¬ kd = 2 := by omega
 have hk3 : ¬ kd = 3 := by omega
 refine mv_ rfl (wl_ov (ov_un_not rfl) rfl (mv_ rfl ?_))
 rcases Bool.eq_false_or_eq_true (!(decide (((mm : Nat) : Int) = 1))) with hmm1 | hmm1
 ·refine wl_set 117 rfl (congrArg Value.bool hmm1) ?_
  refine goff rfl rfl rfl (goff rfl rfl rfl (pt_ rfl rfl (nn_ (ct_ rfl (sr_ (sg_ rfl (sg_ rfl (nn_ ?_))))))))
  refine gw_ret ?_
  refine nx_then_ret ?_
  refine nx_ret2 rfl rfl rfl fun wx hm => ?_
  have hP : priceK ⟨cl, rf, rt, ho, dd, we, wk⟩ sea fr tt kd i ((mm : Nat) : Int) = none := by
   unfold priceK
   rw [if_neg hk1, if_neg hk2, if_neg hk3, if_neg hk]
  refine ⟨?_, hm.g⟩
  rw [hgo, hP]; rfl
 refine wl_set 117 rfl (congrArg Value.bool hmm1) ?_
 refine wl_guard_on rfl rfl rfl (mv_ rfl (wl_guard_on rfl rfl rfl (wl_ov (ov_lss rfl rfl) rfl ?_)))
 refine wl_set 119 (v' := .bool true) rfl (congrArg Value.bool (by decide)) ?_
 refine pf_ rfl rfl (nn_ (ct_ rfl (sr_ (sg_ rfl (sg_ rfl (nn_ ?_))))))
 refine gw_ret ?_
 refine nx_then_ret ?_
 refine nx_ret2 rfl rfl rfl fun wx hm => ?_
 have hP : priceK ⟨cl, rf, rt, ho, dd, we, wk⟩ sea fr tt kd i ((mm : Nat) : Int) = none := by
  unfold priceK
  rw [if_neg hk1, if_neg hk2, if_neg hk3, if_neg hk]
 refine ⟨?_, hm.g⟩
 rw [hgo, hP]; rfl
end Go.Proofs.YtnmpniaocjmkfaaGreatDoor
namespace Go.Proofs.YtnmpniaocjmkfaaGreatDoor
open Go.RowKit
structure Dv where
  cost : Int
  pieces : Int
  kind : Int
  days : Int
  cents : Int
  fine : Bool
def dvEnc (x : Dv) : List Value := [.int .i64 x.cost, .int .i64 x.pieces, .int .i64 x.kind, .int .i64 x.days, .int .i64 x.cents, .bool x.fine]
theorem dv_len (x : Dv) : (dvEnc x).length = 6 := rfl
def dvZ : Dv := ⟨0, 0, 0, 0, 0, false⟩
def DvIs (x : Dv) : Option (List Pc) → Prop
  | none => x.fine = false
  | some ps => x.fine = true ∧ x.cost = pcSum ps ∧ x.pieces = ps.length ∧ ∀ p r, ps = p :: r → x.kind = p.kind ∧ x.days = p.days ∧ x.cents = p.cents
theorem DvIs.none_ {x : Dv} {s : Option (List Pc)} (h : DvIs x s) (hf : x.fine = false) : s = none := by
  cases s with
  | none => rfl
  | some ps => exact absurd (hf.symm.trans h.1) (by decide)
theorem DvIs.some_ {x : Dv} {s : Option (List Pc)} (h : DvIs x s) (hf : x.fine = true) : ∃ ps, s = some ps := by
  cases s with
  | none => rw [show x.fine = false from h] at hf; cases hf
  | some ps => exact ⟨ps, rfl⟩
/-- All rests from i on are known; of the rest at i those whose first piece came up. -/
def DvOk (pr : Int → Nat → Int → Option Int) (n j : Nat) (x : Dv) : Prop := ∃ s, RestOk pr n j s ∧ DvIs x s
def DvRow (pr : Int → Nat → Int → Option Int) (n i : Nat) (k m : Int) (ds : List Dv) : Prop := ds.length = n + 1 ∧ (∀ j x, i < j → ds[j]? = some x → DvOk pr n j x) ∧ (∀ j x, j < i → ds[j]? = some x → x = dvZ) ∧ ∃ x s, ds[i]? = some x ∧ Cur pr n i k m s ∧ DvIs x s
section
variable {pr : Int → Nat → Int → Option Int} {n i : Nat} {k m : Int} {ds : List Dv}
theorem chain_sum (hb : ∀ k i m c, pr k i m = some c → 0 ≤ c ∧ c ≤ 24000000) : ∀ {ps : List Pc} {i j : Nat}, Chain pr i j ps → 0 ≤ pcSum ps ∧ pcSum ps ≤ 24000000 * (ps.length : Int)
  | [], _, _, _ => by simp [pcSum]
  | p :: r, i, j, h => by
    have h1 := hb _ _ _ _ h.1.2.2.2.2
    have h2 := chain_sum hb h.2
    simp only [pcSum, List.length_cons]
    omega
theorem dv_bound {j : Nat} {x : Dv} (hb : ∀ k i m c, pr k i m = some c → 0 ≤ c ∧ c ≤ 24000000) (hn : n ≤ 120) (h : DvOk pr n j x) (hf : x.fine = true) : (0 ≤ x.cost ∧ x.cost ≤ 3000000000) ∧ 0 ≤ x.pieces ∧ x.pieces ≤ 120 := by
  obtain ⟨s, h1, h2⟩ := h
  obtain ⟨ps, rfl⟩ := h2.some_ hf
  have h3 := chain_sum hb h1.1
  have h4 := chain_le h1.1
  obtain ⟨_, e1, e2, _⟩ := h2
  rw [e1, e2]
  omega
theorem dv_step {mm : Nat} (h : DvRow pr n i k mm ds) (hc : ∀ s, Cur pr n i k mm s → Cur pr n i k (mm + 1) s) : DvRow pr n i k ((mm + 1 : Nat) : Int) ds := by
  obtain ⟨h1, h2, h3, x, s, hx, hs, hd⟩ := h
  exact ⟨h1, h2, h3, x, s, hx, by simpa using hc s hs, hd⟩
theorem dv_none {mm : Nat} (h : DvRow pr n i k mm ds) (hno : pr k i mm = none) : DvRow pr n i k ((mm + 1 : Nat) : Int) ds := dv_step h fun _ hs => cur_none hs hno
theorem dv_dead {mm : Nat} {y : Dv} (h : DvRow pr n i k mm ds) (hy : ds[i + mm]? = some y) (hm : 0 < mm) (hf : y.fine = false) : DvRow pr n i k ((mm + 1 : Nat) : Int) ds := dv_step h fun _ hs => by
  obtain ⟨s, h1, h2⟩ := h.2.1 (i + mm) y (by omega) hy
  rw [h2.none_ hf] at h1
  exact cur_dead hs (by simpa using h1)
theorem dv_set {mm : Nat} {y : Dv} {c : Int} {rest : List Pc} (h : DvRow pr n i k mm ds) (hd : DvIs y (some rest)) (hc : Cur pr n i k (mm + 1) (some (⟨k, mm, c⟩ :: rest))) : DvRow pr n i k ((mm + 1 : Nat) : Int) (ds.set i ⟨c + y.cost, 1 + y.pieces, k, mm, c, true⟩) := by
  obtain ⟨h1, h2, h3, x, s, hx, hs, _⟩ := h
  have hi : i < ds.length := (List.getElem?_eq_some_iff.1 hx).1
  obtain ⟨_, e1, e2, _⟩ := hd
  refine ⟨by simp [h1], fun j z hj hz => h2 j z hj (by rw [List.getElem?_set_ne (by omega)] at hz; exact hz), fun j z hj hz => h3 j z hj (by rw [List.getElem?_set_ne (by omega)] at hz; exact hz), _, some (⟨k, mm, c⟩ :: rest), List.getElem?_set_self hi, by simpa using hc, rfl, ?_, ?_, fun p r e => ?_⟩
  · simp only [pcSum, e1]
  · simp only [List.length_cons, e2]; omega
  · injection e with e _; subst e; exact ⟨rfl, rfl, rfl⟩
theorem dv_rest {mm : Nat} {y : Dv} (h : DvRow pr n i k mm ds) (hy : ds[i + mm]? = some y) (hm : 0 < mm) (hf : y.fine = true) : ∃ rest, Best pr (i + mm) n rest ∧ DvIs y (some rest) := by
  obtain ⟨s, h1, h2⟩ := h.2.1 (i + mm) y (by omega) hy
  obtain ⟨rest, rfl⟩ := h2.some_ hf
  exact ⟨rest, h1, h2⟩
theorem dv_first {mm : Nat} {x y : Dv} {c : Int} (h : DvRow pr n i k mm ds) (hk : 1 ≤ k ∧ k ≤ 4) (hm : 1 ≤ mm ∧ mm ≤ 7) (hp : pr k i mm = some c) (hy : ds[i + mm]? = some y) (hf : y.fine = true) (hx : ds[i]? = some x) (hxf : x.fine = false) : DvRow pr n i k ((mm + 1 : Nat) : Int) (ds.set i ⟨c + y.cost, 1 + y.pieces, k, mm, c, true⟩) := by
  obtain ⟨rest, hr, hd⟩ := dv_rest h hy (by omega) hf
  refine dv_set h hd ?_
  obtain ⟨h1, h2, h3, x', s, hx', hs, hd'⟩ := h
  obtain rfl : x = x' := Option.some.inj (hx.symm.trans hx')
  rw [hd'.none_ hxf] at hs
  exact cur_first hs hk (by omega) hp (by simpa using hr)
theorem cmp_dv {a b c d : Int} : firstE [cmpI a b, cmpI c d] < 0 ↔ a < b ∨ (a = b ∧ c < d) := by
  rw [firstE_pair]
  unfold cmpI
  by_cases h1 : a < b
  · rw [if_pos h1]; simp [h1]
  · rw [if_neg h1]
    by_cases h2 : b < a
    · rw [if_pos h2]
      simp
      omega
    · rw [if_neg h2, if_pos rfl]
      by_cases h3 : c < d
      · rw [if_pos h3]; simp; omega
      · rw [if_neg h3]
        by_cases h4 : d < c
        · rw [if_pos h4]; simp; omega
        · rw [if_neg h4]; simp; omega
theorem dv_better {mm : Nat} {x y : Dv} {c : Int} (h : DvRow pr n i k mm ds) (hk : 1 ≤ k ∧ k ≤ 4) (hm : 1 ≤ mm ∧ mm ≤ 7) (hp : pr k i mm = some c) (hy : ds[i + mm]? = some y) (hf : y.fine = true) (hx : ds[i]? = some x) (hxf : x.fine = true) (hl : firstE [cmpI (c + y.cost) x.cost, cmpI (1 + y.pieces) x.pieces] < 0) : DvRow pr n i k ((mm + 1 : Nat) : Int) (ds.set i ⟨c + y.cost, 1 + y.pieces, k, mm, c, true⟩) := by
  obtain ⟨rest, hr, hd⟩ := dv_rest h hy (by omega) hf
  refine dv_set h hd ?_
  obtain ⟨h1, h2, h3, x', s, hx', hs, hd'⟩ := h
  obtain rfl : x = x' := Option.some.inj (hx.symm.trans hx')
  obtain ⟨ps, rfl⟩ := hd'.some_ hxf
  obtain ⟨_, e1, e2, _⟩ := hd
  obtain ⟨_, f1, f2, _⟩ := hd'
  rw [cmp_dv, e1, e2, f1, f2] at hl
  exact cur_better hs hk (by omega) hp (by simpa using hr) (by omega)
theorem dv_keep {mm : Nat} {x y : Dv} {c : Int} (h : DvRow pr n i k mm ds) (hk : 1 ≤ k ∧ k ≤ 4) (hm : 1 ≤ mm ∧ mm ≤ 7) (hp : pr k i mm = some c) (hy : ds[i + mm]? = some y) (hf : y.fine = true) (hx : ds[i]? = some x) (hxf : x.fine = true) (hl : ¬ firstE [cmpI (c + y.cost) x.cost, cmpI (1 + y.pieces) x.pieces] < 0) : DvRow pr n i k ((mm + 1 : Nat) : Int) ds := by
  obtain ⟨rest, hr, hd⟩ := dv_rest h hy (by omega) hf
  obtain ⟨h1, h2, h3, x', s, hx', hs, hd'⟩ := h
  obtain rfl : x = x' := Option.some.inj (hx.symm.trans hx')
  refine ⟨h1, h2, h3, x, s, hx, ?_, hd'⟩
  obtain ⟨ps, rfl⟩ := hd'.some_ hxf
  obtain ⟨_, e1, e2, _⟩ := hd
  obtain ⟨_, f1, f2, _⟩ := hd'
  rw [cmp_dv, e1, e2, f1, f2] at hl
  have := cur_keep hs hk (by omega) hp (by simpa using hr) (by omega)
  simpa using this
theorem dv_kind (h : DvRow pr n i k m ds) (hm : 7 < m ∨ (n : Int) - i < m) : DvRow pr n i (k + 1) 1 ds := by
  obtain ⟨h1, h2, h3, x, s, hx, hs, hd⟩ := h
  exact ⟨h1, h2, h3, x, s, hx, cur_kind hs hm, hd⟩
/-- The rests from r on are known. -/
def DvFrom (pr : Int → Nat → Int → Option Int) (n r : Nat) (ds : List Dv) : Prop := ds.length = n + 1 ∧ (∀ j x, r ≤ j → ds[j]? = some x → DvOk pr n j x) ∧ (∀ j x, j < r → ds[j]? = some x → x = dvZ)
theorem dv_done (h : DvRow pr n i 5 1 ds) (hi : i < n) : DvFrom pr n i ds := by
  obtain ⟨h1, h2, h3, x, s, hx, hs, hd⟩ := h
  refine ⟨h1, fun j z hj hz => ?_, h3⟩
  by_cases hji : j = i
  · subst hji
    obtain rfl : x = z := Option.some.inj (hx.symm.trans hz)
    exact ⟨s, cur_done hs hi, hd⟩
  · exact h2 j z (by omega) hz
theorem dv_begin (h : DvFrom pr n (i + 1) ds) (hi : i < n) : DvRow pr n i 1 1 ds := by
  obtain ⟨h1, h2, h3⟩ := h
  have hx : ds[i]? = some dvZ := by
    obtain ⟨x, hx⟩ : ∃ x, ds[i]? = some x := ⟨_, List.getElem?_eq_getElem (by omega)⟩
    rw [hx, h3 i x (by omega) hx]
  exact ⟨h1, fun j x hj hx => h2 j x (by omega) hx, fun j x hj hx => h3 j x (by omega) hx, dvZ, none, hx, cur_start, rfl⟩
theorem dv_start : DvFrom pr n n ((List.replicate (n + 1) dvZ).set n ⟨0, 0, 0, 0, 0, true⟩) := by
  refine ⟨by simp, fun j x hj hx => ?_, fun j x hj hx => ?_⟩
  · have hjn : j = n := by
      have := (List.getElem?_eq_some_iff.1 hx).1
      simp at this; omega
    subst hjn
    rw [List.getElem?_set_self (by simp)] at hx
    injection hx with hx
    subst hx
    exact ⟨some [], best_end j, rfl, rfl, rfl, fun p r e => by cases e⟩
  · rw [List.getElem?_set_ne (by omega), List.getElem?_replicate] at hx
    split at hx
    · exact (Option.some.inj hx).symm
    · cases hx
end
theorem price_all {l : List Rt} {sea : List Int} {fr tt : Int} (hr : ∀ r ∈ l, RateOk r) (hend : ∀ i, i < sea.length → begV fr i ≤ tt) : ∀ k i m c, priceO l sea fr tt k i m = some c → 0 ≤ c ∧ c ≤ 24000000 := fun k i m c h => by
  obtain ⟨h1, h2, _⟩ := price_some h
  exact price_bound hr (hend i (by omega)) h
theorem tdivide_any (l : List Rt) (A : Option Addr) (n c0 : Nat) (fr tt : Int) (sea : List Int) (A2 : Option Addr) (n2 c2 : Nat) (w : World) (hl : SlT rtEnc 7 170 w A n l) (hs : SlT itEnc 1 3 w A2 n2 sea) (hc2 : n2 ≤ c2) (hn2 : n2 ≤ 120) (hsea : ∀ k ∈ sea, -1 ≤ k ∧ k < (l.length : Int)) (hr : ∀ r ∈ l, RateOk r) (h0 : 0 ≤ fr) (h00 : fr ≤ 5761439) (ht0 : 0 ≤ tt) (ht1 : tt ≤ 5761439) (hend : ∀ i, i < n2 → begV fr i ≤ tt) :
  Calls Tryz.prog 193 #[.agg #[.slice A n c0, .int .i64 fr, .int .i64 tt, .slice A2 n2 c2]] w (fun e w' => ∃ A3 c3 ds, e = .returned (.slice A3 (n2 + 1) c3) ∧ w.grownBy w' none ∧ w'.ownsRow w.heap.size 248 6 (.slice A3 (n2 + 1) c3) (n2 + 1) (ds.flatMap dvEnc) ∧ DvFrom (priceO l sea fr tt) n2 0 ds) := by
 refine gw_enter ⟨105, w, none, []⟩ Tryz.func193 rfl Tryz.ntmps193 rfl (mem0 (X := [SlOld rtEnc 7 170 w.heap.size none A n l, SlOld itEnc 1 3 w.heap.size none A2 n2 sea]) (allF_cons hl.old (allF_cons hs.old allF_nil)) (allL_cons SlOld.lasts (allL_cons SlOld.lasts allL_nil))) ?_
 refine sr_ ?_
 have hlen := hl.len
 have hslen := hs.len
 have hpb := price_all (l := l) (sea := sea) (fr := fr) (tt := tt) hr (fun i hi => hend i (by omega))
 refine wl_box rfl rfl rfl fun g1 => ?_
 refine sg_ rfl (nn_ (sr_ (fd_ fo244_2 rfl rfl (lk_ sc22 0 rfl rfl rfl (wl_ov (ov_len es22 rfl) rfl (sg_ rfl (nn_ (sr_ (mv_ rfl ?_)))))))))
 refine ad_ rfl rfl ?_
 refine wl_makeO (n := (n2 + 1)) (sz := 6) (e := 248) (by_ := 48) (z := .agg #[.int .i64 0, .int .i64 0, .int .i64 0, .int .i64 0, .int .i64 0, .bool false]) (by kernel_rfl) (by kernel_rfl) rfl rfl (by omega) (by omega) (by omega) (by unfold maxLen; omega) (made_flat (enc := dvEnc) (x := dvZ) rfl rfl (by decide) (n2 + 1)) rfl fun g2 => ?_
 refine sg_ rfl (nn_ (sr_ (mv_ rfl (mv_ rfl ?_))))
 refine wl_ov (ov_index (j := n2) es242 rfl rfl (by omega)) rfl ?_
 refine fd_ fo248_3 rfl rfl ?_
 refine wl_storeE (l := (List.replicate (n2 + 1) dvZ)) (j := n2) (r := 5) (el := dvZ) (el' := ⟨0, 0, 0, 0, 0, true⟩) 0 sc4 rfl rfl rfl rfl dv_len rfl (by rw [List.getElem?_replicate, if_pos (by omega)]) List.length_replicate (by decide) rfl rfl ?_
 refine nn_ (gw_seq (sr_ (mv_ rfl ?_)))
 refine wl_ov (ov_sub rfl rfl (by omega) (by omega)) rfl ?_
 refine sg_ rfl (nn_ (gw_block ?_))
 refine gw_loop (γ := Nat × List Dv) (fun g => g.1 ≤ n2 ∧ DvFrom (priceO l sea fr tt) n2 g.1 g.2) (fun g => [(1, .pointer (some ⟨g1, 0, none⟩)), (2, .slice none 0 0), (3, .int .i64 ((n2 : Nat) : Int)), (4, .slice (some ⟨g2, 0, none⟩) (n2 + 1) (n2 + 1)), (5, .int .i64 (((g.1 : Nat) : Int) - 1))]) (fun g => fun _ => True) (fun g => [(g1, 244, [.slice A n c0, .int .i64 fr, .int .i64 tt, .slice A2 n2 c2])]) (fun g => [⟨.slice (some ⟨g2, 0, none⟩) (n2 + 1) (n2 + 1), 248, 6, (n2 + 1), g.2.flatMap dvEnc⟩]) (fun g => [SlOld rtEnc 7 170 w.heap.size none A n l, SlOld itEnc 1 3 w.heap.size none A2 n2 sea]) (fun g => g.1) (n2, (List.replicate (n2 + 1) dvZ).set n2 ⟨0, 0, 0, 0, 0, true⟩) ⟨Nat.le_refl _, dv_start⟩ ⟨rfl, rfl, rfl, rfl, rfl, trivial⟩ (fun _ hm => hm.pick [0] [0] [0, 1] rfl rfl) ?_
 rintro ⟨r, ds⟩ hinv
 replace hinv : r ≤ n2 ∧ DvFrom (priceO l sea fr tt) n2 r ds := hinv
 dsimp only
 refine gw_seq (sr_ ?_)
 obtain ⟨hr0, hr1⟩ := hinv
 refine mv_ rfl ?_
 refine wl_ov (ov_geq rfl rfl) rfl ?_
 refine nn_ ?_
 refine gw_cond rfl (fun hh => ?_) (fun hh => ?_)
 ·have hk : 0 ≤ ((r : Nat) : Int) - 1 := by simpa using hh
  clear hh
  refine gw_skip (nx_then (gw_seq (gw_block (sr_ ?_))))
  obtain ⟨i, hi⟩ : ∃ i, r = i + 1 := ⟨r - 1, by omega⟩
  subst hi
  have hin : i < n2 := by omega
  have hrow := dv_begin hr1 hin
  refine wl_set 5 (v' := .int .i64 ((i : Nat) : Int)) rfl (congrArg (Value.int .i64) (by omega)) ?_
  refine sg_ rfl (nn_ (gw_block ?_))
  refine gw_loop (γ := Int × List Dv) (fun g => (1 ≤ g.1 ∧ g.1 ≤ 5) ∧ DvRow (priceO l sea fr tt) n2 i g.1 1 g.2) (fun g => [(1, .pointer (some ⟨g1, 0, none⟩)), (2, .slice none 0 0), (3, .int .i64 ((n2 : Nat) : Int)), (4, .slice (some ⟨g2, 0, none⟩) (n2 + 1) (n2 + 1)), (5, .int .i64 ((i : Nat) : Int)), (6, .int .i64 g.1)]) (fun g => fun _ => True) (fun g => [(g1, 244, [.slice A n c0, .int .i64 fr, .int .i64 tt, .slice A2 n2 c2])]) (fun g => [⟨.slice (some ⟨g2, 0, none⟩) (n2 + 1) (n2 + 1), 248, 6, (n2 + 1), g.2.flatMap dvEnc⟩]) (fun g => [SlOld rtEnc 7 170 w.heap.size none A n l, SlOld itEnc 1 3 w.heap.size none A2 n2 sea]) (fun g => (5 - g.1).toNat) (1, ds) ⟨⟨by dsimp only; omega, by dsimp only; omega⟩, hrow⟩ ⟨rfl, rfl, rfl, rfl, rfl, rfl, trivial⟩ (fun _ hm => hm.pick [0] [0] [0, 1] rfl rfl) ?_
  rintro ⟨kd, ds2⟩ hinv
  replace hinv : (1 ≤ kd ∧ kd ≤ 5) ∧ DvRow (priceO l sea fr tt) n2 i kd 1 ds2 := hinv
  dsimp only
  refine gw_seq (sr_ ?_)
  obtain ⟨⟨hk1, hk2⟩, hrw⟩ := hinv
  refine mv_ rfl (wl_ov (ov_leq rfl rfl) rfl (nn_ ?_))
  refine gw_cond rfl (fun hh => ?_) (fun hh => ?_)
  ·have hk4 : kd ≤ 4 := by simpa using hh
   clear hh
   refine gw_skip (nx_then (gw_seq (gw_block (sr_ (sg_ rfl (nn_ (gw_block ?_)))))))
   refine gw_loop (γ := Nat × List Dv) (fun g => (1 ≤ g.1 ∧ g.1 ≤ 8) ∧ DvRow (priceO l sea fr tt) n2 i kd ((g.1 : Nat) : Int) g.2) (fun g => [(1, .pointer (some ⟨g1, 0, none⟩)), (2, .slice none 0 0), (3, .int .i64 ((n2 : Nat) : Int)), (4, .slice (some ⟨g2, 0, none⟩) (n2 + 1) (n2 + 1)), (5, .int .i64 ((i : Nat) : Int)), (6, .int .i64 kd), (7, .int .i64 ((g.1 : Nat) : Int))]) (fun g => fun _ => True) (fun g => [(g1, 244, [.slice A n c0, .int .i64 fr, .int .i64 tt, .slice A2 n2 c2])]) (fun g => [⟨.slice (some ⟨g2, 0, none⟩) (n2 + 1) (n2 + 1), 248, 6, (n2 + 1), g.2.flatMap dvEnc⟩]) (fun g => [SlOld rtEnc 7 170 w.heap.size none A n l, SlOld itEnc 1 3 w.heap.size none A2 n2 sea]) (fun g => 8 - g.1) (1, ds2) ⟨⟨by dsimp only; omega, by dsimp only; omega⟩, hrw⟩ ⟨rfl, rfl, rfl, rfl, rfl, rfl, rfl, trivial⟩ (fun _ hm => hm.pick [0] [0] [0, 1] rfl rfl) ?_
   rintro ⟨mm, ds3⟩ hinv
   replace hinv : (1 ≤ mm ∧ mm ≤ 8) ∧ DvRow (priceO l sea fr tt) n2 i kd ((mm : Nat) : Int) ds3 := hinv
   dsimp only
   refine gw_seq (sr_ ?_)
   obtain ⟨⟨hm1, hm2⟩, hrm⟩ := hinv
   refine mv_ rfl (mv_ rfl (mv_ rfl ?_))
   refine wl_ov (ov_sub rfl rfl (by omega) (by omega)) rfl ?_
   refine wl_ov (ov_min rfl rfl) rfl ?_
   refine wl_ov (ov_leq rfl rfl) rfl (nn_ ?_)
   refine gw_cond rfl (fun hh => ?_) (fun hh => ?_)
   ·have hmc : ((mm : Nat) : Int) ≤ min 7 (((n2 : Nat) : Int) - ((i : Nat) : Int)) := by simpa using hh
    clear hh
    refine gw_skip (nx_then (gw_seq (gw_block (sr_ ?_))))
    have hm7 : mm ≤ 7 := by omega
    have himn : i + mm ≤ n2 := by omega
    have hdl := hrm.1
    obtain ⟨y, hy⟩ : ∃ y, ds3[i + mm]? = some y := ⟨_, List.getElem?_eq_getElem (by omega)⟩
    obtain ⟨x, hx⟩ : ∃ x, ds3[i]? = some x := ⟨_, List.getElem?_eq_getElem (by omega)⟩
    have hyo := hrm.2.1 (i + mm) y (by omega) hy
    have hbd := dv_bound hpb hn2 hyo
    obtain ⟨x0, x1, x2, x3, x4, x5⟩ := x
    obtain ⟨y0, y1, y2, y3, y4, y5⟩ := y
    refine wl_ov (ov_loads rz244 rfl (fun _ hm => hm.blkI 0 rfl) rfl rfl) rfl ?_
    refine mv_ rfl (mv_ rfl (mv_ rfl ?_))
    rcases hpo : priceO l sea fr tt kd i ((mm : Nat) : Int) with _ | cc
    ·refine wl_callv (v := .tuple #[.int .i64 0, .bool false]) rfl cb250 rfl rfl (fun wx hm => (by have h := tprice_any l A n c0 fr tt sea A2 n2 c2 kd i ((mm : Nat) : Int) wx (hm.fact 0 rfl).1 (hm.fact 1 rfl).1 hc2 hn2 hin hsea hr h0 h00 ht0 ht1 (hend i hin); rw [hpo] at h; exact h)) ?_
     refine mv_ rfl (wl_ov (ov_extract rfl rfl) rfl (wl_ov (ov_extract rfl rfl) rfl (sg_ rfl (sg_ rfl (nn_ (sr_ (mv_ rfl (mv_ rfl (mv_ rfl (ad_ rfl rfl ?_))))))))))
     refine wl_set 51 (v' := .int .i64 ((i + mm : Nat) : Int)) rfl (congrArg (Value.int .i64) (by omega)) ?_
     refine wl_ov (ov_index (j := i + mm) es242 rfl rfl (by omega)) rfl ?_
     refine wl_ov (ov_elem (vs := [.int .i64 y0, .int .i64 y1, .int .i64 y2, .int .i64 y3, .int .i64 y4, .bool y5]) rz248 rfl (fun _ hm => (SlT.ofOwn dv_len (hm.ownI 0 rfl) hdl)) hy rfl rfl) rfl ?_
     refine wl_alloc zc248 rfl fun g3 => ?_
     refine wl_stores (cs' := [.int .i64 y0, .int .i64 y1, .int .i64 y2, .int .i64 y3, .int .i64 y4, .bool y5]) 0 rz248 rfl rfl rfl rfl rfl rfl rfl rfl ?_
     refine nn_ (gw_seq (sr_ (mv_ rfl (wl_ov (ov_un_not rfl) rfl ?_))))
     refine wl_set 55 (v' := .bool true) rfl (congrArg Value.bool (by decide)) ?_
     refine mv_ rfl (goff rfl rfl rfl (goff rfl rfl rfl (goff rfl rfl rfl (pt_ rfl rfl (nn_ (ct_ rfl ?_))))))
     refine gw_exit ?_
     refine nx_then_exit ?_
     refine nx_blk_here ?_
     refine nx_then (gw_region (mv_ rfl (ad_ rfl rfl (sg_ rfl (wl_nil ?_)))))
     exact nx_round (mm + 1, ds3) ⟨⟨by dsimp only; omega, by dsimp only; omega⟩, dv_none hrm hpo⟩ (by dsimp only; omega) ⟨rfl, rfl, rfl, rfl, rfl, rfl, (some_int (by omega)), trivial⟩ (fun _ hm => hm.pick [1] [0] [0, 1] rfl rfl)
    refine wl_callv (v := .tuple #[.int .i64 cc, .bool true]) rfl cb250 rfl rfl (fun wx hm => (by have h := tprice_any l A n c0 fr tt sea A2 n2 c2 kd i ((mm : Nat) : Int) wx (hm.fact 0 rfl).1 (hm.fact 1 rfl).1 hc2 hn2 hin hsea hr h0 h00 ht0 ht1 (hend i hin); rw [hpo] at h; exact h)) ?_
    have hcc := hpb _ _ _ _ hpo
    have hcc0 := hcc.1
    have hcc1 := hcc.2
    refine mv_ rfl (wl_ov (ov_extract rfl rfl) rfl (wl_ov (ov_extract rfl rfl) rfl (sg_ rfl (sg_ rfl (nn_ (sr_ (mv_ rfl (mv_ rfl (mv_ rfl (ad_ rfl rfl ?_))))))))))
    refine wl_set 51 (v' := .int .i64 ((i + mm : Nat) : Int)) rfl (congrArg (Value.int .i64) (by omega)) ?_
    refine wl_ov (ov_index (j := i + mm) es242 rfl rfl (by omega)) rfl ?_
    refine wl_ov (ov_elem (vs := [.int .i64 y0, .int .i64 y1, .int .i64 y2, .int .i64 y3, .int .i64 y4, .bool y5]) rz248 rfl (fun _ hm => (SlT.ofOwn dv_len (hm.ownI 0 rfl) hdl)) hy rfl rfl) rfl ?_
    refine wl_alloc zc248 rfl fun g4 => ?_
    refine wl_stores (cs' := [.int .i64 y0, .int .i64 y1, .int .i64 y2, .int .i64 y3, .int .i64 y4, .bool y5]) 0 rz248 rfl rfl rfl rfl rfl rfl rfl rfl ?_
    refine nn_ (gw_seq (sr_ (mv_ rfl (wl_ov (ov_un_not rfl) rfl ?_))))
    refine wl_set 55 (v' := .bool false) rfl (congrArg Value.bool (by decide)) ?_
    refine mv_ rfl (wl_guard_on rfl rfl rfl (fd_ fo248_3 rfl rfl (wl_guard_on rfl rfl rfl (lk_ sc4 0 rfl rfl rfl (wl_guard_on rfl rfl rfl (wl_ov (ov_un_not rfl) rfl (pf_ rfl rfl (nn_ ?_))))))))
    refine gw_cond rfl (fun hh => ?_) (fun hh => ?_)
    ·have hf : y5 = false := by simpa using hh
     clear hh
     refine gw_exit ?_
     refine nx_then_exit ?_
     refine nx_blk_here ?_
     refine nx_then (gw_region ?_)
     have hf : y5 = false := by simpa using hf
     refine mv_ rfl (ad_ rfl rfl (sg_ rfl (wl_nil ?_)))
     exact nx_round (mm + 1, ds3) ⟨⟨by dsimp only; omega, by dsimp only; omega⟩, dv_dead hrm hy (by omega) hf⟩ (by dsimp only; omega) ⟨rfl, rfl, rfl, rfl, rfl, rfl, (some_int (by omega)), trivial⟩ (fun _ hm => hm.pick [1] [0] [0, 1] rfl rfl)
    have hf : y5 = true := by simpa using hh
    clear hh
    refine gw_skip (nx_then (sr_ ?_))
    have hf : y5 = true := by simpa using hf
    subst hf
    obtain ⟨⟨hb0, hb1⟩, hb2, hb3⟩ := hbd rfl
    dsimp only at hb0 hb1 hb2 hb3
    refine mv_ rfl (fd_ fo248_0 rfl rfl (lk_ sc3 0 rfl rfl rfl (ad_ rfl rfl (fd_ fo248_1 rfl rfl (lk_ sc3 0 rfl rfl rfl (ad_ rfl rfl (mv_ rfl (mv_ rfl (mv_ rfl ?_)))))))))
    refine wl_ov (ov_build (cs := [.int .i64 kd, .int .i64 ((mm : Nat) : Int), .int .i64 cc]) rfl (by kernel_rfl)) rfl ?_
    refine wl_ov (ov_build (cs := [.int .i64 (cc + y0), .int .i64 (1 + y1), .int .i64 kd, .int .i64 ((mm : Nat) : Int), .int .i64 cc, .bool true]) rfl (by kernel_rfl)) rfl ?_
    refine wl_alloc zc248 rfl fun g5 => ?_
    refine wl_stores (cs' := [.int .i64 (cc + y0), .int .i64 (1 + y1), .int .i64 kd, .int .i64 ((mm : Nat) : Int), .int .i64 cc, .bool true]) 0 rz248 rfl rfl rfl rfl rfl rfl rfl rfl ?_
    refine nn_ (gw_seq ?_)
    refine gd (fun wz => Blk wz g5 248 [.int .i64 (cc + y0), .int .i64 (1 + y1), .int .i64 kd, .int .i64 ((mm : Nat) : Int), .int .i64 cc, .bool true] ∧ Blk wz g4 248 [.int .i64 y0, .int .i64 y1, .int .i64 y2, .int .i64 y3, .int .i64 y4, .bool true] ∧ Blk wz g1 244 [.slice A n c0, .int .i64 fr, .int .i64 tt, .slice A2 n2 c2] ∧ (SlOld rtEnc 7 170 w.heap.size none A n l) wz ∧ (SlOld itEnc 1 3 w.heap.size none A2 n2 sea) wz ∧ wz.ownsRow w.heap.size 248 6 (.slice (some ⟨g2, 0, none⟩) (n2 + 1) (n2 + 1)) (n2 + 1) (ds3.flatMap dvEnc) ∧ True) mixed (fun _ hm => ⟨hm.bl 0, hm.bl 1, hm.bl 2, hm.fa 0, hm.fa 1, hm.ownI 0 rfl, trivial⟩) fun z => ?_
    refine wt 0 27 1 rfl z (ov_move rfl) ?_
    refine wt 1 27 3 rfl z (ov_move rfl) ?_
    refine wt 2 27 7 rfl z (ov_index (j := i) es242 rfl rfl (by omega)) ?_
    refine wt 3 27 15 rfl z (ov_field fo248_3 rfl rfl) ?_
    refine wt 4 27 31 rfl z (ov_elem1 (k := 5) (v := .bool x5) sc4 rfl (fun _ hm => (SlT.ofOwn dv_len (hm.2.2.2.2.2.1) hdl)) hx rfl rfl) ?_
    refine wt 5 27 63 rfl z (ov_un_not rfl) ?_
    refine wt 6 27 127 rfl z (ov_move rfl) ?_
    rcases Bool.eq_false_or_eq_true (!x5) with hxf | hxf
    ·refine wa_set 79 rfl (congrArg Value.bool hxf) ?_
     have hxf : x5 = false := by simpa using hxf
     refine wtf 7 27 255 rfl rfl rfl z ?_
     refine wtf 8 27 511 rfl rfl rfl z ?_
     refine wtf 9 27 1023 rfl rfl rfl z ?_
     refine wtf 10 27 2047 rfl rfl rfl z ?_
     refine wtf 11 27 4095 rfl rfl rfl z ?_
     refine wtf 12 27 8191 rfl rfl rfl z ?_
     refine wtf 13 27 16383 rfl rfl rfl z ?_
     refine wtf 14 27 32767 rfl rfl rfl z ?_
     refine wtf 15 27 65535 rfl rfl rfl z ?_
     refine wtf 16 27 131071 rfl rfl rfl z ?_
     refine wtf 17 27 262143 rfl rfl rfl z ?_
     refine wtf 18 27 524287 rfl rfl rfl z ?_
     refine wtf 19 27 1048575 rfl rfl rfl z ?_
     refine wtf 20 27 2097151 rfl rfl rfl z ?_
     refine wtf 21 27 4194303 rfl rfl rfl z ?_
     refine wtf 22 27 8388607 rfl rfl rfl z ?_
     refine wtf 23 27 16777215 rfl rfl rfl z ?_
     refine wtf 24 27 33554431 rfl rfl rfl z ?_
     refine wtf 25 27 67108863 rfl rfl rfl z ?_
     refine wt 26 27 134217727 rfl z (ov_pick_t rfl rfl) ?_
     refine wa_done (by kernel_rfl) ?_
     refine nx_then (ct_ rfl (gw_region (mv_ rfl (mv_ rfl ?_))))
     refine wl_ov (ov_loads rz248 rfl (fun _ hm => hm.blkI 0 rfl) rfl rfl) rfl ?_
     refine wl_ov (ov_index (j := i) es242 rfl rfl (by omega)) rfl ?_
     refine wl_storesE (l := ds3) (j := i) (r := 0) (el := ⟨x0, x1, x2, x3, x4, x5⟩) (el' := ⟨cc + y0, 1 + y1, kd, ((mm : Nat) : Int), cc, true⟩) 0 rz248 rfl rfl rfl rfl rfl dv_len rfl hx hdl (by decide) rfl rfl ?_
     refine wl_nil (nx_blk_nrm (nx_then (gw_region (mv_ rfl (ad_ rfl rfl (sg_ rfl (wl_nil ?_)))))))
     exact nx_round (mm + 1, ds3.set i ⟨cc + y0, 1 + y1, kd, ((mm : Nat) : Int), cc, true⟩) ⟨⟨by dsimp only; omega, by dsimp only; omega⟩, dv_first hrm ⟨hk1, hk4⟩ ⟨hm1, hm7⟩ hpo hy rfl hx hxf⟩ (by dsimp only; omega) ⟨rfl, rfl, rfl, rfl, rfl, rfl, (some_int (by omega)), trivial⟩ (fun _ hm => hm.pick [2] [0] [0, 1] rfl rfl)
    refine wa_set 79 rfl (congrArg Value.bool hxf) ?_
    have hxf : x5 = true := by simpa using hxf
    refine wto 7 27 255 rfl rfl rfl z (ov_field fo248_0 rfl rfl) ?_
    refine wto 8 27 511 rfl rfl rfl z (ov_load sc3 rfl (fun _ hm => hm.1) rfl) ?_
    refine wto 9 27 1023 rfl rfl rfl z (ov_move rfl) ?_
    refine wto 10 27 2047 rfl rfl rfl z (ov_move rfl) ?_
    refine wto 11 27 4095 rfl rfl rfl z (ov_index (j := i) es242 rfl rfl (by omega)) ?_
    refine wto 12 27 8191 rfl rfl rfl z (ov_field fo248_0 rfl rfl) ?_
    refine wto 13 27 16383 rfl rfl rfl z (ov_elem1 (k := 0) (v := .int .i64 x0) sc3 rfl (fun _ hm => (SlT.ofOwn dv_len (hm.2.2.2.2.2.1) hdl)) hx rfl rfl) ?_
    refine wto 15 27 49151 rfl rfl rfl z (ov_field fo248_1 rfl rfl) ?_
    refine wto 16 27 114687 rfl rfl rfl z (ov_load sc3 rfl (fun _ hm => hm.1) rfl) ?_
    refine wto 17 27 245759 rfl rfl rfl z (ov_move rfl) ?_
    refine wto 18 27 507903 rfl rfl rfl z (ov_move rfl) ?_
    refine wto 19 27 1032191 rfl rfl rfl z (ov_index (j := i) es242 rfl rfl (by omega)) ?_
    refine wto 20 27 2080767 rfl rfl rfl z (ov_field fo248_1 rfl rfl) ?_
    refine wto 21 27 4177919 rfl rfl rfl z (ov_elem1 (k := 1) (v := .int .i64 x1) sc3 rfl (fun _ hm => (SlT.ofOwn dv_len (hm.2.2.2.2.2.1) hdl)) hx rfl rfl) ?_
    refine wa1 14 rfl ?_
    refine wl_guard_on rfl rfl rfl ?_
    refine wl_callv rfl cb153 rfl rfl (fun wx hm => (cmp_int _ _ wx)) ?_
    refine wl_nil ?_
    refine nw 27 4194303 (fun _ hm => ⟨hm.bl 0, hm.bl 1, hm.bl 2, hm.fa 0, hm.fa 1, hm.ownI 0 rfl, trivial⟩) fun z => ?_
    refine wa1 22 rfl ?_
    refine wl_guard_on rfl rfl rfl ?_
    refine wl_callv rfl cb153 rfl rfl (fun wx hm => (cmp_int _ _ wx)) ?_
    refine wl_nil ?_
    refine nw 27 8388607 (fun _ hm => ⟨hm.bl 0, hm.bl 1, hm.bl 2, hm.fa 0, hm.fa 1, hm.ownI 0 rfl, trivial⟩) fun z => ?_
    refine wa1 23 rfl ?_
    refine wl_guard_on rfl rfl rfl ?_
    refine wl_buildSlice (e := 3) (cs := [.int .i64 (cmpI (cc + y0) x0), .int .i64 (cmpI (1 + y1) x1)]) rfl (by kernel_rfl) rfl fun g6 => ?_
    refine wl_nil ?_
    refine nw 27 16777215 (fun _ hm => ⟨hm.bl 1, hm.bl 2, hm.bl 3, hm.fa 0, hm.fa 1, hm.ownI 0 rfl, trivial⟩) fun z => ?_
    refine wa1 24 rfl ?_
    refine wl_guard_on rfl rfl rfl ?_
    refine wl_callv rfl cb152 rfl rfl (fun wx hm => (or_two _ _ _ _ _ wx (hm.blkI 0 rfl))) ?_
    refine wl_nil ?_
    refine nw 27 33554431 (fun _ hm => ⟨hm.bl 1, hm.bl 2, hm.bl 3, hm.fa 0, hm.fa 1, hm.ownI 0 rfl, trivial⟩) fun z => ?_
    refine wto 25 27 67108863 rfl rfl rfl z (ov_lss rfl rfl) ?_
    refine wt 26 27 134217727 rfl z (ov_pick_f rfl rfl) ?_
    refine wa_done (by kernel_rfl) ?_
    refine nx_then ?_
    refine gw_cond rfl (fun hh => ?_) (fun hh => ?_)
    ·have hl9 : firstE [cmpI (cc + y0) x0, cmpI (1 + y1) x1] < 0 := by simpa using hh
     clear hh
     refine gw_region (mv_ rfl (mv_ rfl ?_))
     refine wl_ov (ov_loads rz248 rfl (fun _ hm => hm.blkI 1 rfl) rfl rfl) rfl ?_
     refine wl_ov (ov_index (j := i) es242 rfl rfl (by omega)) rfl ?_
     refine wl_storesE (l := ds3) (j := i) (r := 0) (el := ⟨x0, x1, x2, x3, x4, x5⟩) (el' := ⟨cc + y0, 1 + y1, kd, ((mm : Nat) : Int), cc, true⟩) 0 rz248 rfl rfl rfl rfl rfl dv_len rfl hx hdl (by decide) rfl rfl ?_
     refine wl_nil (nx_blk_nrm (nx_then (gw_region (mv_ rfl (ad_ rfl rfl (sg_ rfl (wl_nil ?_)))))))
     exact nx_round (mm + 1, ds3.set i ⟨cc + y0, 1 + y1, kd, ((mm : Nat) : Int), cc, true⟩) ⟨⟨by dsimp only; omega, by dsimp only; omega⟩, dv_better hrm ⟨hk1, hk4⟩ ⟨hm1, hm7⟩ hpo hy rfl hx hxf hl9⟩ (by dsimp only; omega) ⟨rfl, rfl, rfl, rfl, rfl, rfl, (some_int (by omega)), trivial⟩ (fun _ hm => hm.pick [3] [0] [0, 1] rfl rfl)
    have hl9 : ¬ (firstE [cmpI (cc + y0) x0, cmpI (1 + y1) x1] < 0) := by simpa using hh
    clear hh
    refine gw_skip (nx_blk_nrm (nx_then (gw_region (mv_ rfl (ad_ rfl rfl (sg_ rfl (wl_nil ?_)))))))
    exact nx_round (mm + 1, ds3) ⟨⟨by dsimp only; omega, by dsimp only; omega⟩, dv_keep hrm ⟨hk1, hk4⟩ ⟨hm1, hm7⟩ hpo hy rfl hx hxf hl9⟩ (by dsimp only; omega) ⟨rfl, rfl, rfl, rfl, rfl, rfl, (some_int (by omega)), trivial⟩ (fun _ hm => hm.pick [3] [0] [0, 1] rfl rfl)
   have hmc : ¬ (((mm : Nat) : Int) ≤ min 7 (((n2 : Nat) : Int) - ((i : Nat) : Int))) := by simpa using hh
   clear hh
   refine gw_exit ?_
   refine nx_then_exit (nx_then_exit ?_)
   refine nx_blk_here ?_
   refine nx_blk_nrm (nx_then (gw_region (mv_ rfl (ad_ rfl rfl (sg_ rfl (wl_nil ?_))))))
   exact nx_round (kd + 1, ds3) ⟨⟨by dsimp only; omega, by dsimp only; omega⟩, dv_kind hrm (by omega)⟩ (by dsimp only; omega) ⟨rfl, rfl, rfl, rfl, rfl, rfl, trivial⟩ (fun _ hm => hm.pick [0] [0] [0, 1] rfl rfl)
  have hk4 : ¬ (kd ≤ 4) := by simpa using hh
  clear hh
  refine gw_exit ?_
  refine nx_then_exit (nx_then_exit ?_)
  refine nx_blk_here ?_
  refine nx_blk_nrm (nx_then (gw_region ?_))
  have hk5 : kd = 5 := by omega
  subst hk5
  refine mv_ rfl ?_
  refine wl_ov (ov_sub rfl rfl (by omega) (by omega)) rfl ?_
  refine sg_ rfl (wl_nil ?_)
  exact nx_round (i, ds2) ⟨by dsimp only; omega, dv_done hrw hin⟩ (by dsimp only; omega) ⟨rfl, rfl, rfl, rfl, rfl, trivial⟩ (fun _ hm => hm.pick [0] [0] [0, 1] rfl rfl)
 have hk : ¬ (0 ≤ ((r : Nat) : Int) - 1) := by simpa using hh
 clear hh
 refine gw_exit ?_
 refine nx_then_exit (nx_then_exit ?_)
 refine nx_blk_here ?_
 refine nx_then (sr_ (mv_ rfl (sg_ rfl (nn_ ?_))))
 refine gw_ret ?_
 have hz : r = 0 := by omega
 subst hz
 refine nx_ret1 rfl rfl fun wx hm => ?_
 exact ⟨some ⟨g2, 0, none⟩, n2 + 1, ds, rfl, hm.g, hm.ownI 0 rfl, hr1⟩
end Go.Proofs.YtnmpniaocjmkfaaGreatDoor
namespace Go.Proofs.YtnmpniaocjmkfaaGreatDoor
open Go.RowKit
def pcEnc (p : Pc) : List Value := [.int .i64 p.kind, .int .i64 p.days, .int .i64 p.cents]
theorem pc_len (p : Pc) : (pcEnc p).length = 3 := rfl
def chkE (l : List Rt) (c : ByteArray) (fr tt : Int) : Int := firstE [ratesE l, whenE (!keyB c) 5, timeE fr tt]
theorem chkE_ok {l : List Rt} {c : ByteArray} {fr tt : Int} (h : chkE l c fr tt = 0) : ratesE l = 0 ∧ keyB c = true ∧ timeE fr tt = 0 := by
  have hz := fe_all h
  have h2 := we_ok (by decide) (hz (whenE (!keyB c) 5) (by simp))
  exact ⟨hz _ (by simp), by simpa using h2, hz _ (by simp)⟩
def daysN (fr tt : Int) : Nat := (daysV fr tt).toNat
/-- The prices of the pieces of a hire. -/
def prH (l : List Rt) (c : ByteArray) (fr tt : Int) : Int → Nat → Int → Option Int := priceO l (seasons l c fr (daysN fr tt)) fr tt
theorem seasons_bound (l : List Rt) (c : ByteArray) (fr : Int) (n : Nat) : ∀ k ∈ seasons l c fr n, -1 ≤ k ∧ k < (l.length : Int) := fun k hk => by
  unfold seasons at hk
  obtain ⟨i, _, rfl⟩ := List.mem_map.1 hk
  exact ixP_bound l
theorem begV_end {fr tt : Int} (h : timeE fr tt = 0) : ∀ i, i < daysN fr tt → begV fr i ≤ tt := fun i hi => by
  have h1 := timeE_ok h
  unfold daysN daysV at hi
  unfold begV
  omega
/-- The error and the pieces of Divide. -/
def DivIs (l : List Rt) (c : ByteArray) (fr tt : Int) (e : Int) (ps : List Pc) : Prop :=
  (chkE l c fr tt ≠ 0 ∧ e = chkE l c fr tt ∧ ps = []) ∨ (chkE l c fr tt = 0 ∧ ((e = 8 ∧ ps = [] ∧ ∀ qs, ¬ Chain (prH l c fr tt) 0 (daysN fr tt) qs) ∨ (e = 0 ∧ Best (prH l c fr tt) 0 (daysN fr tt) ps)))
theorem divIs_one {l : List Rt} {c : ByteArray} {fr tt e f : Int} {ps qs : List Pc} (h : DivIs l c fr tt e ps) (g : DivIs l c fr tt f qs) : e = f ∧ ps = qs := by
  rcases h with ⟨h1, rfl, rfl⟩ | ⟨h1, h | h⟩ <;> rcases g with ⟨g1, rfl, rfl⟩ | ⟨g1, g | g⟩
  · exact ⟨rfl, rfl⟩
  · exact absurd g1 h1
  · exact absurd g1 h1
  · exact absurd h1 g1
  · exact ⟨h.1.trans g.1.symm, h.2.1.trans g.2.1.symm⟩
  · exact absurd g.2.1 (h.2.2 _)
  · exact absurd h1 g1
  · exact absurd h.2.1 (g.2.2 _)
  · exact ⟨h.1.trans g.1.symm, best_one h.2 g.2⟩
theorem best_head {pr : Int → Nat → Int → Option Int} {i n : Nat} {ps : List Pc} (h : Best pr i n ps) (hi : i < n) : ∃ p r, ps = p :: r ∧ StepOk pr i p ∧ i + p.days.toNat ≤ n := by
  cases ps with
  | nil => have := h.1; simp only [Chain] at this; omega
  | cons p r => exact ⟨p, r, rfl, h.1.1, chain_head h.1⟩
theorem dv_at {pr : Int → Nat → Int → Option Int} {i n : Nat} {ds : List Dv} {x : Dv} {p : Pc} {r : List Pc} (h : DvFrom pr n 0 ds) (hx : ds[i]? = some x) (hb : Best pr i n (p :: r)) : x.kind = p.kind ∧ x.days = p.days ∧ x.cents = p.cents := by
  obtain ⟨s, h1, h2⟩ := h.2.1 i x (Nat.zero_le _) hx
  cases s with
  | none => exact absurd hb.1 (h1 _)
  | some qs => exact h2.2.2.2 p r (best_one h1 hb)
theorem dv_first0 {pr : Int → Nat → Int → Option Int} {n : Nat} {ds : List Dv} {x : Dv} (h : DvFrom pr n 0 ds) (hx : ds[0]? = some x) : (x.fine = false → ∀ qs, ¬ Chain pr 0 n qs) ∧ (x.fine = true → ∃ ps, Best pr 0 n ps ∧ x.cost = pcSum ps) := by
  obtain ⟨s, h1, h2⟩ := h.2.1 0 x (Nat.zero_le _) hx
  refine ⟨fun hf => ?_, fun hf => ?_⟩
  · rw [h2.none_ hf] at h1; exact h1
  · obtain ⟨ps, rfl⟩ := h2.some_ hf
    exact ⟨ps, h1, h2.2.1⟩
theorem checkHire_any (l : List Rt) (A : Option Addr) (n c0 : Nat) (c : ByteArray) (fr tt : Int) (w : World) (hl : SlT rtEnc 7 170 w A n l) (hok : ∀ b ∈ l, RtOk b) (hn : n ≤ 1000000) (hc : c.size ≤ 1000000) :
  Calls Tryz.prog 191 #[.slice A n c0, .string c, .agg #[.int .i64 fr, .int .i64 tt]] w (GotE w (chkE l c fr tt)) := by
 refine gw_enter ⟨17, w, none, []⟩ Tryz.func191 rfl Tryz.ntmps191 rfl (mem0 (X := [SlOld rtEnc 7 170 w.heap.size none A n l]) (allF_cons hl.old allF_nil) (allL_cons SlOld.lasts allL_nil)) ?_
 refine sr_ ?_
 obtain ⟨RE, hRE⟩ : ∃ E, E = ratesE l := ⟨_, rfl⟩
 refine wl_box rfl rfl rfl fun g1 => ?_
 refine sg_ rfl (nn_ (gw_seq ?_))
 refine gd (fun wz => Blk wz g1 35 [.int .i64 fr, .int .i64 tt] ∧ (SlOld rtEnc 7 170 w.heap.size none A n l) wz ∧ True) mixed (fun _ hm => ⟨hm.bl 0, hm.fa 0, trivial⟩) fun z => ?_
 refine wt 0 11 1 rfl z (ov_move rfl) ?_
 refine wt 2 11 5 rfl z (ov_move rfl) ?_
 refine wt 6 11 69 rfl z (ov_loads rz35 rfl (fun _ hm => hm.1) rfl rfl) ?_
 refine wa1 1 rfl ?_
 refine wl_callv (v := .int .i64 RE) rfl cb103 rfl rfl (fun wx hm => (by rw [hRE]; exact checkRates_any l A n c0 wx (hm.fact 0 rfl).1 hok hn)) ?_
 refine wl_nil ?_
 refine nw 11 71 (fun _ hm => ⟨hm.bl 0, hm.fa 0, trivial⟩) fun z => ?_
 refine wa1 3 rfl ?_
 refine wl_callw rfl cb137 rfl rfl (fun wx hm => (isKey_any _ wx (by omega))) ?_
 refine wl_nil ?_
 refine nw 11 79 (fun _ hm => ⟨hm.bl 0, hm.fa 0, trivial⟩) fun z => ?_
 refine wt 4 11 95 rfl z (ov_un_not rfl) ?_
 refine wa1 5 rfl ?_
 refine wl_callw rfl cb120 rfl rfl (fun wx hm => (when_any _ _ wx)) ?_
 refine wl_nil ?_
 refine nw 11 127 (fun _ hm => ⟨hm.bl 0, hm.fa 0, trivial⟩) fun z => ?_
 refine wa1 7 rfl ?_
 refine wl_callv rfl cb148 rfl rfl (fun wx hm => (time_any _ _ wx)) ?_
 refine wl_nil ?_
 refine nw 11 255 (fun _ hm => ⟨hm.bl 0, hm.fa 0, trivial⟩) fun z => ?_
 refine wa1 8 rfl ?_
 refine wl_buildSlice (e := 41) (cs := [.int .i64 RE, .int .i64 (whenE (!(keyB c)) 5), .int .i64 (timeE fr tt)]) rfl (by kernel_rfl) rfl fun g2 => ?_
 refine wl_nil ?_
 refine nw 11 511 (fun _ hm => ⟨hm.bl 1, hm.fa 0, trivial⟩) fun z => ?_
 refine wa1 9 rfl ?_
 refine wl_callw rfl cb102 rfl rfl (fun wx hm => (first_any [RE, whenE (!(keyB c)) 5, timeE fr tt] _ _ _ wx (hm.blkI 0 rfl) (by simp))) ?_
 refine wl_nil ?_
 refine nw 11 1023 (fun _ hm => ⟨hm.bl 1, hm.fa 0, trivial⟩) fun z => ?_
 refine wt 10 11 2047 rfl z (ov_assign rfl) ?_
 refine wa_done (by kernel_rfl) ?_
 refine nx_then ?_
 refine gw_ret ?_
 refine nx_ret1 rfl rfl fun wx hm => ?_
 exact ⟨ret_int (by unfold chkE; rw [hRE]), hm.g⟩
theorem tDivide_any (l : List Rt) (A : Option Addr) (n c0 : Nat) (c : ByteArray) (fr tt : Int) (w : World) (hl : SlT rtEnc 7 170 w A n l) (hok : ∀ b ∈ l, RtOk b) (hn : n ≤ 1000000) (hc : c.size ≤ 1000000) :
  Calls Tryz.prog 80 #[.slice A n c0, .string c, .agg #[.int .i64 fr, .int .i64 tt]] w (fun e w' => ∃ A3 n3 c3 ps er, e = .returned (.tuple #[.slice A3 n3 c3, .int .i64 er]) ∧ w.grownBy w' none ∧ SlT pcEnc 3 162 w' A3 n3 ps ∧ DivIs l c fr tt er ps ∧ n3 ≤ 120) := by
 refine gw_enter ⟨51, w, none, [248, 3]⟩ Tryz.func80 rfl Tryz.ntmps80 rfl (mem0 (X := [SlOld rtEnc 7 170 w.heap.size none A n l]) (allF_cons hl.old allF_nil) (allL_cons SlOld.lasts allL_nil)) ?_
 refine sr_ ?_
 obtain ⟨CE, hCE⟩ : ∃ E, E = chkE l c fr tt := ⟨_, rfl⟩
 refine wl_box rfl rfl rfl fun g1 => ?_
 refine sg_ rfl (sg_ rfl (nn_ (gw_seq (sr_ (mv_ rfl (mv_ rfl ?_))))))
 refine wl_ov (ov_loads rz35 rfl (fun _ hm => hm.blkI 0 rfl) rfl rfl) rfl ?_
 refine wl_callv (v := .int .i64 CE) rfl cb191 rfl rfl (fun wx hm => (by rw [hCE]; exact checkHire_any l A n c0 c fr tt wx (hm.fact 0 rfl).1 hok hn hc)) ?_
 refine sg_ rfl (nn_ (sr_ (mv_ rfl (wl_ov (ov_neq rfl rfl) rfl (nn_ ?_)))))
 refine gw_cond rfl (fun hh => ?_) (fun hh => ?_)
 ·have h1 : ¬ (CE = 0) := by simpa using hh
  clear hh
  refine sr_ (mv_ rfl (sg_ rfl (sg_ rfl (nn_ ?_))))
  refine gw_ret ?_
  refine nx_then_ret ?_
  refine nx_ret2 rfl rfl rfl fun wx hm => ?_
  exact ⟨none, 0, 0, [], CE, rfl, hm.g, SlT.nil_ _ _, .inl ⟨fun h => h1 (hCE.trans h), hCE, rfl⟩, by omega⟩
 have h1 : CE = 0 := by simpa using hh
 clear hh
 refine gw_skip (nx_then (sr_ ?_))
 obtain ⟨hr0, hkc, ht⟩ := chkE_ok (hCE.symm.trans h1)
 obtain ⟨h0, hlt, htt, _⟩ := timeE_ok ht
 have hpos := rt_pos hr0
 have hro := rate_ok hr0
 have hD1 := timeE_days ht
 obtain ⟨D, hD⟩ : ∃ D, D = daysN fr tt := ⟨_, rfl⟩
 have hD2 : 1 ≤ D ∧ D ≤ 120 := by rw [hD]; unfold daysN; omega
 have hD3 := hD2.1
 have hD4 := hD2.2
 obtain ⟨sea, hsea⟩ : ∃ x, x = seasons l c fr D := ⟨_, rfl⟩
 refine mv_ rfl (mv_ rfl ?_)
 refine wl_ov (ov_loads rz35 rfl (fun _ hm => hm.blkI 0 rfl) rfl rfl) rfl ?_
 refine wl_callx (γ := Option Addr × Nat) (val := (fun g => .agg #[.slice A n c0, .int .i64 fr, .int .i64 tt, .slice g.1 D g.2])) (φ := (fun g => D ≤ g.2)) (Y := (fun g => fun wy => SlT itEnc 1 3 wy g.1 D sea)) rfl cb192 rfl rfl (fun wx hm => (by rw [hsea, hD]; exact (trent_any l A n c0 c fr tt wx (hm.fact 0 rfl).1 hn hpos ht).mono fun _ _ ⟨A2, c2, he, hg, hs, hc⟩ => ⟨(A2, c2), he, hc, hg, hs⟩)) (fun _ => SlT.lasts2 rfl) ?_
 rintro ⟨A2, c2⟩ hDc
 dsimp only at hDc ⊢
 refine wl_callx (γ := Option Addr × Nat × List Dv) (val := (fun g => .slice g.1 (D + 1) g.2.1)) (φ := (fun g => DvFrom (priceO l sea fr tt) D 0 g.2.2)) (Y := (fun g => fun wy => SlT dvEnc 6 248 wy g.1 (D + 1) g.2.2)) rfl cb193 rfl rfl (fun wx hm => (tdivide_any l A n c0 fr tt sea A2 D c2 wx (hm.fact 1 rfl).1 (hm.fact 0 rfl) hDc hD4 (by rw [hsea]; exact seasons_bound l c fr D) hro h0 (by omega) (by omega) htt (by rw [hD]; exact begV_end ht)).mono fun _ _ ⟨A3, c3, ds, he, hg, hs, hd⟩ => ⟨(A3, c3, ds), he, hd, hg, SlT.ofOwn dv_len hs hd.1⟩) (fun _ => SlT.lasts2 rfl) ?_
 rintro ⟨A3, c3, ds⟩ hds
 dsimp only at hds ⊢
 have hpr : priceO l sea fr tt = prH l c fr tt := by unfold prH; rw [hsea, hD]
 rw [hpr] at hds
 have hdl := hds.1
 obtain ⟨x, hx⟩ : ∃ x, ds[0]? = some x := ⟨_, List.getElem?_eq_getElem (by omega)⟩
 have hd0 := dv_first0 hds hx
 obtain ⟨x0, x1, x2, x3, x4, x5⟩ := x
 refine wl_look (R := ∃ b3 o3, A3 = some ⟨b3, o3, none⟩) (fun wx hm => by obtain ⟨b3, o3, h, _, _⟩ := SlT.get (hm.fact 0 rfl) (by omega); exact ⟨b3, o3, h⟩) ?_
 rintro ⟨b3, o3, rfl⟩
 refine sg_ rfl (nn_ (gw_seq (sr_ (mv_ rfl ?_))))
 refine wl_ov (ov_index (j := 0) es242 rfl rfl (by omega)) rfl ?_
 refine fd_ fo248_3 rfl rfl ?_
 refine wl_ov (ov_elem1 (k := 5) (v := .bool x5) sc4 rfl (fun _ hm => (hm.fact 0 rfl)) (show ds[0]? = some _ from hx) rfl rfl) rfl ?_
 refine wl_ov (ov_un_not rfl) rfl (nn_ ?_)
 refine gw_cond rfl (fun hh => ?_) (fun hh => ?_)
 ·have hf : x5 = false := by simpa using hh
  clear hh
  refine sr_ (sg_ rfl (sg_ rfl (nn_ ?_)))
  refine gw_ret ?_
  refine nx_then_ret ?_
  refine nx_ret2 rfl rfl rfl fun wx hm => ?_
  exact ⟨none, 0, 0, [], 8, rfl, hm.g, SlT.nil_ _ _, .inr ⟨hCE.symm.trans h1, .inl ⟨rfl, rfl, hD ▸ hd0.1 (by simpa using hf)⟩⟩, by omega⟩
 have hf : x5 = true := by simpa using hh
 clear hh
 refine gw_skip (nx_then (sr_ ?_))
 obtain ⟨ps, hps, _⟩ := hd0.2 (by simpa using hf)
 refine sg_ rfl (nn_ (gw_seq (sr_ (sg_ rfl (nn_ (gw_block ?_))))))
 refine gw_nilOwn 162 3 ?_
 refine gw_loop (γ := Nat × Nat × Value × List Pc × List Pc × List Value) (fun g => g.1 ≤ D ∧ g.2.1 ≤ g.1 ∧ g.2.2.2.1.length = g.2.1 ∧ ps = g.2.2.2.1 ++ g.2.2.2.2.1 ∧ Best (prH l c fr tt) g.1 D g.2.2.2.2.1 ∧ g.2.2.2.2.2 = g.2.2.2.1.flatMap pcEnc) (fun g => [(6, .slice none 0 0), (7, .int .i64 0), (9, .slice (some ⟨b3, o3, none⟩) (D + 1) c3), (10, g.2.2.1), (11, .int .i64 ((g.1 : Nat) : Int))]) (fun g => fun _ => True) (fun g => [(g1, 35, [.int .i64 fr, .int .i64 tt])]) (fun g => [⟨g.2.2.1, 162, 3, g.2.1, g.2.2.2.2.2⟩]) (fun g => [fun wy => SlT dvEnc 6 248 wy (some ⟨b3, o3, none⟩) (D + 1) ds, fun wy => SlT itEnc 1 3 wy A2 D sea, SlOld rtEnc 7 170 w.heap.size none A n l]) (fun g => D - g.1) (0, 0, .slice none 0 0, [], ps, []) ⟨Nat.zero_le _, Nat.le_refl _, rfl, rfl, hps, rfl⟩ ⟨rfl, rfl, rfl, rfl, rfl, trivial⟩ (fun _ hm => hm.pick [0] [0] [0, 1, 2] rfl rfl) ?_
 rintro ⟨i, k, v, pl, rl, xs⟩ hinv
 replace hinv : i ≤ D ∧ k ≤ i ∧ pl.length = k ∧ ps = pl ++ rl ∧ Best (prH l c fr tt) i D rl ∧ xs = pl.flatMap pcEnc := hinv
 dsimp only
 refine gw_seq (sr_ ?_)
 obtain ⟨hi0, hi1, hi2, hi3, hi4, rfl⟩ := hinv
 refine mv_ rfl (mv_ rfl (wl_ov (ov_len es242 rfl) rfl ?_))
 refine wl_ov (ov_sub rfl rfl (by omega) (by omega)) rfl ?_
 refine wl_ov (ov_lss rfl rfl) rfl (nn_ ?_)
 refine gw_cond rfl (fun hh => ?_) (fun hh => ?_)
 ·have hk : ((i : Nat) : Int) < ((D + 1 : Nat) : Int) - 1 := by simpa using hh
  clear hh
  refine gw_skip (nx_then (gw_seq (gw_block (gw_region ?_))))
  have hiD : i < D := by omega
  obtain ⟨p, rr, hp1, hp2, hp3⟩ := best_head hi4 hiD
  subst hp1
  obtain ⟨y, hy⟩ : ∃ y, ds[i]? = some y := ⟨_, List.getElem?_eq_getElem (by omega)⟩
  obtain ⟨e1, e2, e3⟩ := dv_at hds hy hi4
  obtain ⟨y0, y1, y2, y3, y4, y5⟩ := y
  dsimp only at e1 e2 e3
  have hd1 : 1 ≤ y3 := by rw [e2]; exact hp2.2.2.1
  have hd2 : i + y3.toNat ≤ D := by rw [e2]; exact hp3
  refine mv_ rfl (mv_ rfl (mv_ rfl ?_))
  refine wl_ov (ov_index (j := i) es242 rfl rfl (by omega)) rfl ?_
  refine fd_ fo248_2 rfl rfl ?_
  refine wl_ov (ov_elemN (k := 2) (vs := [.int .i64 y2, .int .i64 y3, .int .i64 y4]) rz162 rfl (fun _ hm => (hm.fact 0 rfl)) hy rfl rfl rfl) rfl ?_
  refine wl_buildSlice (e := 162) (cs := [.int .i64 y2, .int .i64 y3, .int .i64 y4]) rfl (by kernel_rfl) rfl fun g2 => ?_
  refine wl_append (news := [.int .i64 y2, .int .i64 y3, .int .i64 y4]) 0 0 ap129 rfl rfl rfl rfl rfl rfl rfl (by omega) (by unfold maxLen; omega) rfl rfl fun v2 hv2 => ?_
  refine sg_ rfl (wl_nil (nx_blk_nrm (nx_then (gw_region (mv_ rfl (mv_ rfl (mv_ rfl ?_)))))))
  refine wl_ov (ov_index (j := i) es242 rfl rfl (by omega)) rfl ?_
  refine fd_ fo248_2 rfl rfl (fd_ fo162_1 rfl rfl ?_)
  refine wl_ov (ov_elem1 (k := 3) (v := .int .i64 y3) sc3 rfl (fun _ hm => (hm.fact 0 rfl)) hy rfl rfl) rfl ?_
  refine ad_ rfl rfl (sg_ rfl (wl_nil ?_))
  exact nx_round (i + y3.toNat, k + 1, v2, pl ++ [⟨y2, y3, y4⟩], rr, pl.flatMap pcEnc ++ ([.int .i64 y2, .int .i64 y3, .int .i64 y4] : List Value)) ⟨by dsimp only; omega, by dsimp only; omega, by simp [hi2], by dsimp only; rw [hi3, e1, e2, e3, List.append_assoc]; rfl, by rw [e2]; exact best_tail hi4, by simp [pcEnc]⟩ (by dsimp only; omega) ⟨rfl, rfl, rfl, rfl, (some_int (by omega)), trivial⟩ (fun _ hm => hm.pick [1] [0] [0, 1, 2] rfl rfl)
 have hk : ¬ (((i : Nat) : Int) < ((D + 1 : Nat) : Int) - 1) := by simpa using hh
 clear hh
 refine gw_exit ?_
 refine nx_then_exit (nx_then_exit ?_)
 refine nx_blk_here ?_
 refine nx_then (sr_ ?_)
 have hiD : i = D := by omega
 subst hiD
 have hrl : rl = [] := by
  cases rl with
  | nil => rfl
  | cons q t => have := chain_le hi4.1; simp only [List.length_cons] at this; omega
 subst hrl
 refine wl_look (R := ∃ A cc, v = .slice A k cc) (fun wx hm => own_slice (hm.ownI 0 rfl)) ?_
 rintro ⟨A4, c4, rfl⟩
 refine mv_ rfl (sg_ rfl (sg_ rfl (nn_ ?_)))
 refine gw_ret ?_
 refine nx_ret2 rfl rfl rfl fun wx hm => ?_
 exact ⟨A4, k, c4, pl, 0, rfl, hm.g, SlT.ofOwn pc_len (hm.ownI 0 rfl) hi2, .inr ⟨hCE.symm.trans h1, .inr ⟨rfl, by rw [← hD]; rw [List.append_nil] at hi3; rw [← hi3]; exact hps⟩⟩, by omega⟩
set_option maxRecDepth 100000 in
theorem same_piece_neq (x0 : Int) (x1 : Int) (x2 : Int) (w : World) : (binOp .neq 162 (.agg #[.int .i64 x0, .int .i64 x1, .int .i64 x2]) (.agg #[.int .i64 x0, .int .i64 x1, .int .i64 x2])).run Tryz.prog w = .ok (.bool false) w := by
  have hS : Tryz.prog.underlying 162 = some (.struct (Tryz.prog.fieldsOf 162)) := by kernel_rfl
  have hp : Tryz.prog.stoodInHeld 162 = false := by kernel_rfl
  rw [run_neq_struct, show (10000 : Nat) = 9999 + 1 from rfl, run_equalIn_agg w 9999 162 _ _ hS hp]
  simp only [Program.fieldsOf, Tryz.underlying162]
  have u3 := Tryz.underlying3
  clear hS hp
  go_simp
theorem guard_piece : Tryz.prog.eqGuardType Tryz.prog.depth 162 = false := by kernel_rfl
theorem equal_piece_any (l : List Pc) (A1 A2 : Option Addr) (n c1 c2 : Nat) (w : World) (h1 : SlT pcEnc 3 162 w A1 n l) (h2 : SlT pcEnc 3 162 w A2 n l) (hn : n ≤ 1000000) :
  Calls Tryz.prog 117 #[.slice A1 n c1, .slice A2 n c2] w (fun e w' => e = .returned (.bool true) ∧ w.grownBy w' none) := by
 refine gw_enter ⟨26, w, none, []⟩ Tryz.func117 rfl Tryz.ntmps117 rfl (mem0 (X := [SlOld pcEnc 3 162 w.heap.size none A1 n l, SlOld pcEnc 3 162 w.heap.size none A2 n l]) (allF_cons h1.old (allF_cons h2.old allF_nil)) (allL_cons SlOld.lasts (allL_cons SlOld.lasts allL_nil))) ?_
 refine sr_ ?_
 have hlen := h1.len
 refine sg_ rfl (nn_ (gw_seq (sr_ (mv_ rfl (wl_ov (ov_len es129 rfl) rfl (mv_ rfl (wl_ov (ov_len es129 rfl) rfl (wl_ov (ov_neq rfl rfl) rfl ?_))))))))
 refine wl_set 10 (v' := .bool false) rfl (congrArg Value.bool (by simp)) ?_
 refine nn_ (cf_ rfl (gw_skip (nx_then (gw_seq (sr_ (mv_ rfl (wl_ov (ov_len es129 rfl) rfl (mv_ rfl (nn_ (gw_block ?_))))))))))
 refine gw_loop (γ := Nat) (fun (k : Nat) => k ≤ n) (fun (k : Nat) => [(0, .slice A1 n c1), (1, .slice A2 n c2), (12, .int .i64 ((n : Nat) : Int)), (13, .int .i64 ((k : Nat) : Int))]) (fun (k : Nat) => fun _ => True) (fun (k : Nat) => []) (fun (k : Nat) => []) (fun (k : Nat) => [SlOld pcEnc 3 162 w.heap.size none A1 n l, SlOld pcEnc 3 162 w.heap.size none A2 n l]) (fun (k : Nat) => n - k) 0 (Nat.zero_le _) ⟨rfl, rfl, rfl, rfl, trivial⟩ (fun _ hm => hm.pick [] [] [0, 1] rfl rfl) ?_
 intro k hinv
 replace hinv : k ≤ n := hinv
 refine sr_ (wl_ov (ov_lss rfl rfl) rfl (nn_ (gw_seq ?_)))
 refine gw_cond rfl (fun hh => ?_) (fun hh => ?_)
 ·have hk : ((k : Nat) : Int) < ((n : Nat) : Int) := by simpa using hh
  clear hh
  refine gw_skip (nx_then (gw_seq (gw_block (sr_ ?_))))
  obtain ⟨b1, o1, hA, _, _⟩ := h1.get (by omega)
  subst hA
  obtain ⟨b2, o2, hA, _, _⟩ := h2.get (by omega)
  subst hA
  obtain ⟨x, hx⟩ : ∃ x, l[k]? = some x := ⟨_, List.getElem?_eq_getElem (by omega)⟩
  obtain ⟨x0, x1, x2⟩ := x
  refine mv_ rfl (sg_ rfl (nn_ (gw_seq ?_)))
  refine gd (fun wz => (SlOld pcEnc 3 162 w.heap.size none (some ⟨b1, o1, none⟩) n l) wz ∧ (SlOld pcEnc 3 162 w.heap.size none (some ⟨b2, o2, none⟩) n l) wz ∧ True) mixed (fun _ hm => ⟨hm.fa 0, hm.fa 1, trivial⟩) fun z => ?_
  refine wt 0 9 1 rfl z (ov_move rfl) ?_
  refine wt 1 9 3 rfl z (ov_move rfl) ?_
  refine wt 2 9 7 rfl z (ov_index (j := k) es129 rfl rfl (by omega)) ?_
  refine wt 3 9 15 rfl z (ov_elem (vs := [.int .i64 x0, .int .i64 x1, .int .i64 x2]) rz162 rfl (fun _ hm => (hm.1).1) hx rfl rfl) ?_
  refine wt 4 9 31 rfl z (ov_move rfl) ?_
  refine wt 5 9 63 rfl z (ov_move rfl) ?_
  refine wt 6 9 127 rfl z (ov_index (j := k) es129 rfl rfl (by omega)) ?_
  refine wt 7 9 255 rfl z (ov_elem (vs := [.int .i64 x0, .int .i64 x1, .int .i64 x2]) rz162 rfl (fun _ hm => (hm.2.1).1) hx rfl rfl) ?_
  refine wt 8 9 511 rfl z (ov_bin rfl rfl (cmp_agg guard_piece (fun wx => same_piece_neq x0 x1 x2 wx))) ?_
  refine wa_done (by kernel_rfl) ?_
  refine nx_then (cf_ rfl (gw_skip (nx_blk_nrm (nx_then (gw_region (ad_ rfl rfl (mv_ rfl (wl_nil ?_))))))))
  exact nx_round (k + 1) (by omega) (by omega) ⟨rfl, rfl, rfl, (some_int (by omega)), trivial⟩ (fun _ hm => hm.pick [] [] [0, 1] rfl rfl)
 have hk : ¬ (((k : Nat) : Int) < ((n : Nat) : Int)) := by simpa using hh
 clear hh
 refine gw_exit ?_
 refine nx_then_exit (nx_then_exit ?_)
 refine nx_blk_here ?_
 refine nx_then (sr_ (sg_ rfl (nn_ ?_)))
 refine gw_ret ?_
 refine nx_ret1 rfl rfl fun wx hm => ?_
 exact ⟨rfl, hm.g⟩
theorem one_chk : chkE [(⟨⟨#[99]⟩, 0, 9, -1, 7, -1, -1⟩ : Rt)] ⟨#[99]⟩ 0 60 = 0 := by decide +kernel
theorem one_days : daysN 0 60 = 1 := by decide +kernel
theorem one_sea : seasons [(⟨⟨#[99]⟩, 0, 9, -1, 7, -1, -1⟩ : Rt)] ⟨#[99]⟩ 0 1 = [0] := by decide +kernel
theorem one_pr (k : Int) (hk : 1 ≤ k ∧ k ≤ 4) (v : Int) (h : prH [(⟨⟨#[99]⟩, 0, 9, -1, 7, -1, -1⟩ : Rt)] ⟨#[99]⟩ 0 60 k 0 1 = some v) : k = 2 ∧ v = 7 := by
  unfold prH at h
  rw [one_days, one_sea] at h
  obtain ⟨h1, h2⟩ := hk
  have hk : k = 1 ∨ k = 2 ∨ k = 3 ∨ k = 4 := by omega
  rcases hk with rfl | rfl | rfl | rfl
  · rw [show priceO [(⟨⟨#[99]⟩, 0, 9, -1, 7, -1, -1⟩ : Rt)] [0] 0 60 1 0 1 = none by decide +kernel] at h; cases h
  · rw [show priceO [(⟨⟨#[99]⟩, 0, 9, -1, 7, -1, -1⟩ : Rt)] [0] 0 60 2 0 1 = some 7 by decide +kernel] at h
    injection h with h; exact ⟨rfl, h.symm⟩
  · rw [show priceO [(⟨⟨#[99]⟩, 0, 9, -1, 7, -1, -1⟩ : Rt)] [0] 0 60 3 0 1 = none by decide +kernel] at h; cases h
  · rw [show priceO [(⟨⟨#[99]⟩, 0, 9, -1, 7, -1, -1⟩ : Rt)] [0] 0 60 4 0 1 = none by decide +kernel] at h; cases h
theorem one_best : Best (prH [(⟨⟨#[99]⟩, 0, 9, -1, 7, -1, -1⟩ : Rt)] ⟨#[99]⟩ 0 60) 0 (daysN 0 60) [⟨2, 1, 7⟩] := by
  rw [one_days]
  refine ⟨⟨⟨by decide, by decide, by decide, by decide, ?_⟩, rfl⟩, fun qs hq => .inl ?_⟩
  · unfold prH; rw [one_days, one_sea]; decide +kernel
  · cases qs with
    | nil => simp only [Chain] at hq; omega
    | cons q r =>
      have h1 := hq.1.2.2.1
      have h2 := chain_head hq
      have h3 := chain_le hq.2
      have hd : q.days = 1 := by omega
      have hv := hq.1.2.2.2.2
      rw [hd] at hv
      obtain ⟨e1, e2⟩ := one_pr q.kind ⟨hq.1.1, hq.1.2.1⟩ _ hv
      have hr : r = [] := by
        rw [hd] at h3
        cases r with
        | nil => rfl
        | cons _ _ => simp only [List.length_cons] at h3; omega
      subst hr
      obtain ⟨qk, qd, qc⟩ := q
      dsimp only at e1 e2 hd
      subst e1; subst e2; subst hd; rfl
theorem one_div {e : Int} {ps : List Pc} (h : DivIs [(⟨⟨#[99]⟩, 0, 9, -1, 7, -1, -1⟩ : Rt)] ⟨#[99]⟩ 0 60 e ps) : e = 0 ∧ ps = [⟨2, 1, 7⟩] := divIs_one h (.inr ⟨one_chk, .inr ⟨rfl, one_best⟩⟩)
theorem priced_any (w : World) : Calls Tryz.prog 20 #[] w (fun e w' => e = .returned (.bool true) ∧ w.grownBy w' none) := by
 refine gw_enter ⟨18, w, none, [162]⟩ Tryz.func20 rfl Tryz.ntmps20 rfl (mem0 (X := []) allF_nil allL_nil) ?_
 refine sr_ (sg_ rfl (nn_ (sr_ ?_)))
 refine wl_ov (ov_build (cs := [.string ⟨#[99]⟩, .int .i64 0, .int .i64 9, .int .i64 (-1), .int .i64 7, .int .i64 (-1), .int .i64 (-1)]) rfl (by kernel_rfl)) rfl ?_
 refine wl_buildSlice (e := 170) (cs := [.string ⟨#[99]⟩, .int .i64 0, .int .i64 9, .int .i64 (-1), .int .i64 7, .int .i64 (-1), .int .i64 (-1)]) rfl (by kernel_rfl) rfl fun g1 => ?_
 refine wl_ov (ov_build (cs := [.int .i64 0, .int .i64 60]) rfl (by kernel_rfl)) rfl ?_
 refine wl_callx (γ := Option Addr × Nat × Nat) (val := (fun g => .tuple #[.slice g.1 g.2.1 g.2.2, .int .i64 0])) (φ := (fun g => g.2.1 ≤ 120 ∧ g.2.1 = 1)) (Y := (fun g => fun wy => SlT pcEnc 3 162 wy g.1 g.2.1 [⟨2, 1, 7⟩])) rfl cb80 rfl rfl (fun wx hm => (tDivide_any [(⟨⟨#[99]⟩, 0, 9, -1, 7, -1, -1⟩ : Rt)] _ _ _ ⟨#[99]⟩ 0 60 wx (SlT.ofBlk (l := [(⟨⟨#[99]⟩, 0, 9, -1, 7, -1, -1⟩ : Rt)]) rt_len (hm.blkI 0 rfl)) (fun b hb => by rw [List.mem_singleton.1 hb]; exact (by decide : (1 : Nat) ≤ 1000000)) (by decide) (by decide)).mono fun _ _ ⟨A3, n3, c3, ps, er, he, hg, hs, hd, hn⟩ => ⟨(A3, n3, c3), by rw [he, (one_div hd).1], ⟨hn, by rw [← hs.len, (one_div hd).2]; rfl⟩, hg, (one_div hd).2 ▸ hs⟩) (fun _ => SlT.lasts2 rfl) ?_
 rintro ⟨A3, n3, c3⟩ hn3
 dsimp only at hn3 ⊢
 obtain ⟨_, rfl⟩ := hn3
 refine mv_ rfl (wl_ov (ov_extract rfl rfl) rfl (wl_ov (ov_extract rfl rfl) rfl (sg_ rfl (sg_ rfl (nn_ (sr_ (mv_ rfl (wl_ov (ov_eql rfl rfl) rfl ?_))))))))
 refine wl_set 11 (v' := .bool true) rfl (congrArg Value.bool (by decide)) ?_
 refine mv_ rfl (wl_guard_on rfl rfl rfl (mv_ rfl (wl_guard_on rfl rfl rfl ?_)))
 refine wl_ov (ov_build (cs := [.int .i64 2, .int .i64 1, .int .i64 7]) rfl (by kernel_rfl)) rfl ?_
 refine wl_guard_on rfl rfl rfl ?_
 refine wl_buildSlice (e := 162) (cs := [.int .i64 2, .int .i64 1, .int .i64 7]) rfl (by kernel_rfl) rfl fun g2 => ?_
 refine wl_guard_on rfl rfl rfl ?_
 refine wl_callv rfl cb117 rfl rfl (fun wx hm => (equal_piece_any [⟨2, 1, 7⟩] A3 _ 1 c3 1 wx (hm.fact 0 rfl) (SlT.ofBlk (l := [⟨2, 1, 7⟩]) pc_len (hm.blkI 0 rfl)) (by omega))) ?_
 refine pt_ rfl rfl (sg_ rfl (nn_ ?_))
 refine gw_ret ?_
 refine nx_ret1 rfl rfl fun wx hm => ?_
 exact ⟨rfl, hm.g⟩
end Go.Proofs.YtnmpniaocjmkfaaGreatDoor
namespace Go.Proofs.YtnmpniaocjmkfaaGreatDoor
open Go.RowKit
def bestCE (l : List Cd) (ks : List ByteArray) (cls : ByteArray) (fr tt cents : Int) : Int := firstE [codesE l, askE (fun k => l.any (codeP k)) ks, whenE (!keyB cls) 5, timeE fr tt, whenE (!inB cents 0 1000000000) 1]
def bestV (l : List Cd) (ks : List ByteArray) (cls : ByteArray) (fr tt cents : Int) : ByteArray × Int := if bestCE l ks cls fr tt cents = 0 then bestK l ks cls fr tt cents else (⟨#[]⟩, 0)
section
variable {l : List Cd} {ks : List ByteArray} {cls k : ByteArray} {fr tt cents : Int} {st : ByteArray × Int} {j : Nat} {c : Cd}
theorem bestS_no (hix : ixP (codeP k) l 0 = (j : Int)) (hc : l[j]? = some c) (h : countsB c cls fr tt = false) : bestS l cls fr tt cents st k = st := by
  unfold bestS; rw [hix, Int.toNat_natCast, hc]; dsimp only; rw [if_neg (fun e => by rw [h] at e; exact absurd e.1 (by decide))]
theorem bestS_yes (hix : ixP (codeP k) l 0 = (j : Int)) (hc : l[j]? = some c) (h : countsB c cls fr tt = true) (hb : emptyS st.1 = true ∨ st.2 < offV cents c ∨ (offV cents c = st.2 ∧ ltS k st.1 = true)) : bestS l cls fr tt cents st k = (k, offV cents c) := by
  unfold bestS; rw [hix, Int.toNat_natCast, hc]; dsimp only; rw [if_pos ⟨h, hb⟩]
theorem bestS_keep (hix : ixP (codeP k) l 0 = (j : Int)) (hc : l[j]? = some c) (hb : ¬ (emptyS st.1 = true ∨ st.2 < offV cents c ∨ (offV cents c = st.2 ∧ ltS k st.1 = true))) : bestS l cls fr tt cents st k = st := by
  unfold bestS; rw [hix, Int.toNat_natCast, hc]; dsimp only; rw [if_neg (fun e => hb e.2)]
theorem fold_take {α β : Type} (f : β → α → β) (z : β) {l : List α} {i : Nat} {x : α} (h : l[i]? = some x) : (l.take (i + 1)).foldl f z = f ((l.take i).foldl f z) x := by
  obtain ⟨hi, rfl⟩ := List.getElem?_eq_some_iff.1 h
  rw [List.take_add_one, List.getElem?_eq_getElem hi, List.foldl_append]; rfl
theorem counts_yes (h1 : emptyS c.cls = true ∨ (c.cls.toList == cls.toList) = true) (h2 : inB (fr / 1440) c.fr (c.to_ - 1) = true) (h3 : c.days ≤ daysV fr tt) : countsB c cls fr tt = true := by
  unfold countsB
  rw [h2, decide_eq_true h3]
  rcases h1 with h1 | h1 <;> rw [h1] <;> simp
theorem counts_cls (h1 : emptyS c.cls = false) (h2 : (c.cls.toList == cls.toList) = false) : countsB c cls fr tt = false := by unfold countsB; rw [h1, h2]; rfl
theorem counts_in (h : inB (fr / 1440) c.fr (c.to_ - 1) = false) : countsB c cls fr tt = false := by unfold countsB; rw [h]; simp
theorem counts_days (h : ¬ c.days ≤ daysV fr tt) : countsB c cls fr tt = false := by unfold countsB; rw [decide_eq_false h]; simp
theorem off_bound {m : Int} (h0 : 0 ≤ cents) (h1 : cents ≤ 1000000000) (h2 : 1 ≤ m) (h3 : m ≤ 1000) : 0 ≤ cents * m ∧ cents * m ≤ 1000000000000 := by
  have a := Int.mul_nonneg h0 (show 0 ≤ m by omega)
  have b := Int.mul_le_mul h1 h3 (by omega) (by omega)
  exact ⟨a, by omega⟩
end
theorem tBestCode_any (l : List Cd) (A : Option Addr) (n c0 : Nat) (ks : List ByteArray) (A1 : Option Addr) (n1 c1 : Nat) (cls : ByteArray) (fr tt cents : Int) (w : World) (hl : SlT cdEnc 6 262 w A n l) (hok : ∀ b ∈ l, CdOk b) (hn : n ≤ 1000000) (hs : SlT sgEnc 1 9 w A1 n1 ks) (hn1 : n1 ≤ 1000000) (hc1 : n1 ≤ c1) (hcl : cls.size ≤ 1000000) :
  Calls Tryz.prog 200 #[.slice A n c0, .slice A1 n1 c1, .string cls, .agg #[.int .i64 fr, .int .i64 tt], .int .i64 cents] w (fun e w' => e = .returned (.tuple #[.string (bestV l ks cls fr tt cents).1, .int .i64 (bestV l ks cls fr tt cents).2, .int .i64 (bestCE l ks cls fr tt cents)]) ∧ w.grownBy w' none) := by
 refine gw_enter ⟨114, w, none, []⟩ Tryz.func200 rfl Tryz.ntmps200 rfl (mem0 (X := [SlOld cdEnc 6 262 w.heap.size none A n l, SlOld sgEnc 1 9 w.heap.size none A1 n1 ks]) (allF_cons hl.old (allF_cons hs.old allF_nil)) (allL_cons SlOld.lasts (allL_cons SlOld.lasts allL_nil))) ?_
 refine sr_ ?_
 have hlen := hl.len
 have hslen := hs.len
 obtain ⟨XE, hXE⟩ : ∃ E, E = codesE l := ⟨_, rfl⟩
 obtain ⟨AE, hAE⟩ : ∃ E, E = askE (fun k => l.any (codeP k)) ks := ⟨_, rfl⟩
 have hBE : bestCE l ks cls fr tt cents = firstE [XE, AE, whenE (!keyB cls) 5, timeE fr tt, whenE (!inB cents 0 1000000000) 1] := by unfold bestCE; rw [← hXE, ← hAE]
 refine wl_box rfl rfl rfl fun g1 => ?_
 refine wl_box rfl rfl rfl fun g2 => ?_
 refine sg_ rfl (sg_ rfl (sg_ rfl (nn_ (gw_seq (sr_ (lk_ sc29 1 rfl rfl rfl ?_))))))
 refine wl_callv (v := .int .i64 XE) rfl cb106 rfl rfl (fun wx hm => (by rw [hXE]; exact checkCodes_any l A n c0 wx (hm.fact 0 rfl).1 hok hn)) ?_
 refine sg_ rfl (nn_ (sr_ (mv_ rfl (wl_ov (ov_neq rfl rfl) rfl (nn_ ?_)))))
 refine gw_cond rfl (fun hh => ?_) (fun hh => ?_)
 ·have hx : ¬ (XE = 0) := by simpa using hh
  clear hh
  refine sr_ (mv_ rfl (sg_ rfl (sg_ rfl (sg_ rfl (nn_ ?_)))))
  refine gw_ret ?_
  refine nx_then_ret ?_
  refine nx_ret3 rfl rfl rfl rfl fun wx hm => ?_
  have he : bestCE l ks cls fr tt cents = XE := by rw [hBE]; unfold firstE; rw [if_neg hx]
  refine ⟨?_, hm.g⟩
  unfold bestV
  rw [he, if_neg hx]
 have hx : XE = 0 := by simpa using hh
 clear hh
 refine gw_skip (nx_then (gw_seq (gw_seq ?_)))
 have hBE2 : bestCE l ks cls fr tt cents = firstE [AE, whenE (!keyB cls) 5, timeE fr tt, whenE (!inB cents 0 1000000000) 1] := by rw [hBE]; unfold firstE; rw [if_pos hx]; rfl
 refine gd (fun wz => Blk wz g2 35 [.int .i64 fr, .int .i64 tt] ∧ Blk wz g1 29 [.slice A n c0] ∧ (SlOld cdEnc 6 262 w.heap.size none A n l) wz ∧ (SlOld sgEnc 1 9 w.heap.size none A1 n1 ks) wz ∧ True) mixed (fun _ hm => ⟨hm.bl 0, hm.bl 1, hm.fa 0, hm.fa 1, trivial⟩) fun z => ?_
 refine wt 0 16 1 rfl z (ov_move rfl) ?_
 refine wt 1 16 3 rfl z (ov_makeFunc rfl rfl) ?_
 refine wt 3 16 11 rfl z (ov_move rfl) ?_
 refine wt 7 16 139 rfl z (ov_loads rz35 rfl (fun _ hm => hm.1) rfl rfl) ?_
 refine wt 9 16 651 rfl z (ov_move rfl) ?_
 refine wa1 2 rfl ?_
 refine wl_callv (v := .int .i64 AE) rfl cb197 rfl rfl (fun wx hm => (by rw [hAE]; exact checkAsked_codes l A n c0 ks A1 n1 c1 _ wx (hm.fact 0 rfl).1 hn (hm.fact 1 rfl).1 hn1 hc1 (hm.blkI 1 rfl))) ?_
 refine wl_nil ?_
 refine nw 16 655 (fun _ hm => ⟨hm.bl 0, hm.bl 1, hm.fa 0, hm.fa 1, trivial⟩) fun z => ?_
 refine wa1 4 rfl ?_
 refine wl_callw rfl cb137 rfl rfl (fun wx hm => (isKey_any _ wx (by omega))) ?_
 refine wl_nil ?_
 refine nw 16 671 (fun _ hm => ⟨hm.bl 0, hm.bl 1, hm.fa 0, hm.fa 1, trivial⟩) fun z => ?_
 refine wt 5 16 703 rfl z (ov_un_not rfl) ?_
 refine wa1 6 rfl ?_
 refine wl_callw rfl cb120 rfl rfl (fun wx hm => (when_any _ _ wx)) ?_
 refine wl_nil ?_
 refine nw 16 767 (fun _ hm => ⟨hm.bl 0, hm.bl 1, hm.fa 0, hm.fa 1, trivial⟩) fun z => ?_
 refine wa1 8 rfl ?_
 refine wl_callv rfl cb148 rfl rfl (fun wx hm => (time_any _ _ wx)) ?_
 refine wl_nil ?_
 refine nw 16 1023 (fun _ hm => ⟨hm.bl 0, hm.bl 1, hm.fa 0, hm.fa 1, trivial⟩) fun z => ?_
 refine wa1 10 rfl ?_
 refine wl_callw rfl cb175 rfl rfl (fun wx hm => (in_any _ _ _ wx)) ?_
 refine wl_nil ?_
 refine nw 16 2047 (fun _ hm => ⟨hm.bl 0, hm.bl 1, hm.fa 0, hm.fa 1, trivial⟩) fun z => ?_
 refine wt 11 16 4095 rfl z (ov_un_not rfl) ?_
 refine wa1 12 rfl ?_
 refine wl_callw rfl cb120 rfl rfl (fun wx hm => (when_any _ _ wx)) ?_
 refine wl_nil ?_
 refine nw 16 8191 (fun _ hm => ⟨hm.bl 0, hm.bl 1, hm.fa 0, hm.fa 1, trivial⟩) fun z => ?_
 refine wa1 13 rfl ?_
 refine wl_buildSlice (e := 41) (cs := [.int .i64 AE, .int .i64 (whenE (!(keyB cls)) 5), .int .i64 (timeE fr tt), .int .i64 (whenE (!(inB cents 0 1000000000)) 1)]) rfl (by kernel_rfl) rfl fun g3 => ?_
 refine wl_nil ?_
 refine nw 16 16383 (fun _ hm => ⟨hm.bl 1, hm.bl 2, hm.fa 0, hm.fa 1, trivial⟩) fun z => ?_
 refine wa1 14 rfl ?_
 refine wl_callw rfl cb102 rfl rfl (fun wx hm => (first_any [AE, whenE (!(keyB cls)) 5, timeE fr tt, whenE (!(inB cents 0 1000000000)) 1] _ _ _ wx (hm.blkI 0 rfl) (by simp))) ?_
 refine wl_nil ?_
 refine nw 16 32767 (fun _ hm => ⟨hm.bl 1, hm.bl 2, hm.fa 0, hm.fa 1, trivial⟩) fun z => ?_
 refine wt 15 16 65535 rfl z (ov_assign rfl) ?_
 refine wa_done (by kernel_rfl) ?_
 refine nx_then (sr_ (mv_ rfl (wl_ov (ov_neq rfl rfl) rfl (nn_ ?_))))
 refine gw_cond rfl (fun hh => ?_) (fun hh => ?_)
 ·have hz : ¬ (firstE [AE, whenE (!(keyB cls)) 5, timeE fr tt, whenE (!(inB cents 0 1000000000)) 1] = 0) := by simpa using hh
  clear hh
  refine sr_ (mv_ rfl (sg_ rfl (sg_ rfl (sg_ rfl (nn_ ?_)))))
  refine gw_ret ?_
  refine nx_then_ret ?_
  refine nx_ret3 rfl rfl rfl rfl fun wx hm => ?_
  refine ⟨?_, hm.g⟩
  unfold bestV
  rw [hBE2, if_neg hz]
 have hz : firstE [AE, whenE (!(keyB cls)) 5, timeE fr tt, whenE (!(inB cents 0 1000000000)) 1] = 0 := by simpa using hh
 clear hh
 refine gw_skip (nx_then (sr_ ?_))
 have hzz := fe_all hz
 have hcodes : codesE l = 0 := hXE.symm.trans hx
 have hask : askE (fun k => l.any (codeP k)) ks = 0 := hAE.symm.trans (hzz AE (by simp))
 have hin := (askE_ok hask).2
 obtain ⟨h0, hlt, htt, _⟩ := timeE_ok (hzz (timeE fr tt) (by simp))
 have hct : inB cents 0 1000000000 = true := by simpa using we_ok (by decide) (hzz (whenE (!inB cents 0 1000000000) 1) (by simp))
 have hct := inB_iff.1 hct
 have hct0 := hct.1
 have hct1 := hct.2
 have hB0 : bestCE l ks cls fr tt cents = 0 := hBE2.trans hz
 refine sg_ rfl (sg_ rfl (nn_ (gw_seq (sr_ (mv_ rfl (wl_ov (ov_len es36 rfl) rfl (mv_ rfl (nn_ (gw_block ?_)))))))))
 refine gw_loop (γ := Nat × ByteArray × Int) (fun g => g.1 ≤ n1 ∧ (g.2.1, g.2.2) = (ks.take g.1).foldl (bestS l cls fr tt cents) (⟨#[]⟩, 0)) (fun g => [(2, .string cls), (4, .int .i64 cents), (5, .pointer (some ⟨g1, 0, none⟩)), (8, .pointer (some ⟨g2, 0, none⟩)), (10, .string ⟨#[]⟩), (11, .int .i64 0), (12, .int .i64 0), (15, .string g.2.1), (16, .int .i64 g.2.2), (45, .slice A1 n1 c1), (46, .int .i64 ((n1 : Nat) : Int)), (47, .int .i64 ((g.1 : Nat) : Int))]) (fun g => fun _ => True) (fun g => [(g3, 41, [.int .i64 AE, .int .i64 (whenE (!(keyB cls)) 5), .int .i64 (timeE fr tt), .int .i64 (whenE (!(inB cents 0 1000000000)) 1)]), (g2, 35, [.int .i64 fr, .int .i64 tt]), (g1, 29, [.slice A n c0])]) (fun g => []) (fun g => [SlOld cdEnc 6 262 w.heap.size none A n l, SlOld sgEnc 1 9 w.heap.size none A1 n1 ks]) (fun g => n1 - g.1) (0, ⟨#[]⟩, 0) ⟨Nat.zero_le _, rfl⟩ ⟨rfl, rfl, rfl, rfl, rfl, rfl, rfl, rfl, rfl, rfl, rfl, rfl, trivial⟩ (fun _ hm => hm.pick [0, 1, 2] [] [0, 1] rfl rfl) ?_
 rintro ⟨i, ky, mo⟩ hinv
 replace hinv : i ≤ n1 ∧ (ky, mo) = (ks.take i).foldl (bestS l cls fr tt cents) (⟨#[]⟩, 0) := hinv
 dsimp only
 refine sr_ ?_
 obtain ⟨hi0, hi1⟩ := hinv
 refine wl_ov (ov_lss rfl rfl) rfl (nn_ (gw_seq ?_))
 refine gw_cond rfl (fun hh => ?_) (fun hh => ?_)
 ·have hi : ((i : Nat) : Int) < ((n1 : Nat) : Int) := by simpa using hh
  clear hh
  refine gw_skip (nx_then (gw_seq (gw_block (sr_ ?_))))
  obtain ⟨b1, off1, hA, _, _⟩ := hs.get (by omega)
  subst hA
  obtain ⟨k, hks⟩ : ∃ x, ks[i]? = some x := ⟨_, List.getElem?_eq_getElem (by omega)⟩
  have hik : l.any (codeP k) = true := hin k (List.mem_of_getElem? hks)
  rw [← ix_any] at hik
  obtain ⟨IX, hIX⟩ : ∃ E, E = ixP (codeP k) l 0 := ⟨_, rfl⟩
  obtain ⟨y, hy, _⟩ := ixP_get (p := codeP k) (l := l) (of_decide_eq_true hik)
  rw [← hIX] at hy
  have hIX0 : 0 ≤ IX := by rw [hIX]; exact of_decide_eq_true hik
  obtain ⟨j, hj⟩ := Int.eq_ofNat_of_zero_le hIX0
  subst hj
  rw [Int.toNat_natCast] at hy
  have hjn : j < n := by have := (List.getElem?_eq_some_iff.1 hy).1; omega
  obtain ⟨_, ⟨f1, f2, f3⟩, ⟨f4, f5⟩, f6, f7⟩ := (codesE_ok hcodes).2.2 y (List.mem_of_getElem? hy)
  obtain ⟨ke, cl, cf, ct, dy, mi⟩ := y
  dsimp only at f1 f2 f3 f4 f5 f6 f7
  have hob := off_bound hct0 hct1 f6 f7
  have hob0 := hob.1
  have hob1 := hob.2
  have hstep := fold_take (bestS l cls fr tt cents) (⟨#[]⟩, 0) hks
  rw [← hi1] at hstep
  obtain ⟨b, off, hA, _, _⟩ := hl.get (by omega)
  subst hA
  refine wl_ov (ov_index (j := i) es36 rfl rfl (by omega)) rfl ?_
  refine wl_ov (ov_elem1 (k := 0) (v := .string k) sc9 rfl (fun _ hm => (hm.fact 1 rfl).1) hks rfl rfl) rfl ?_
  refine sg_ rfl (nn_ ?_)
  refine gw_cut (γ := Nat) (I := (fun (gz : Nat) => True)) (S' := (fun (gz : Nat) => [(2, .string cls), (4, .int .i64 cents), (5, .pointer (some ⟨g1, 0, none⟩)), (8, .pointer (some ⟨g2, 0, none⟩)), (10, .string ⟨#[]⟩), (11, .int .i64 0), (12, .int .i64 0), (15, .string ky), (16, .int .i64 mo), (18, .string k), (19, .pointer (some ⟨gz, 0, none⟩)), (45, .slice (some ⟨b1, off1, none⟩) n1 c1), (46, .int .i64 ((n1 : Nat) : Int)), (47, .int .i64 ((i : Nat) : Int))])) (K' := (fun (gz : Nat) => fun _ => True)) (L' := (fun (gz : Nat) => [(g3, 41, [.int .i64 AE, .int .i64 (whenE (!(keyB cls)) 5), .int .i64 (timeE fr tt), .int .i64 (whenE (!(inB cents 0 1000000000)) 1)]), (g2, 35, [.int .i64 fr, .int .i64 tt]), (g1, 29, [.slice (some ⟨b, off, none⟩) n c0]), (gz, 262, [.string ke, .string cl, .int .i64 cf, .int .i64 ct, .int .i64 dy, .int .i64 mi])])) (O' := (fun (gz : Nat) => [])) (X' := (fun (gz : Nat) => [SlOld cdEnc 6 262 w.heap.size none (some ⟨b, off, none⟩) n l, SlOld sgEnc 1 9 w.heap.size none (some ⟨b1, off1, none⟩) n1 ks])) ?_ ?_
  ·refine gd (fun wz => Blk wz g3 41 [.int .i64 AE, .int .i64 (whenE (!(keyB cls)) 5), .int .i64 (timeE fr tt), .int .i64 (whenE (!(inB cents 0 1000000000)) 1)] ∧ Blk wz g2 35 [.int .i64 fr, .int .i64 tt] ∧ Blk wz g1 29 [.slice (some ⟨b, off, none⟩) n c0] ∧ (SlOld cdEnc 6 262 w.heap.size none (some ⟨b, off, none⟩) n l) wz ∧ (SlOld sgEnc 1 9 w.heap.size none (some ⟨b1, off1, none⟩) n1 ks) wz ∧ True) mixed (fun _ hm => ⟨hm.bl 0, hm.bl 1, hm.bl 2, hm.fa 0, hm.fa 1, trivial⟩) fun z => ?_
   refine wt 0 8 1 rfl z (ov_load sc29 rfl (fun _ hm => hm.2.2.1) rfl) ?_
   refine wt 1 8 3 rfl z (ov_load sc29 rfl (fun _ hm => hm.2.2.1) rfl) ?_
   refine wt 2 8 7 rfl z (ov_move rfl) ?_
   refine wa_all [3, 6] (by kernel_rfl) rfl ⟨⟨_, rfl, ?_⟩, ⟨_, rfl, ?_⟩, trivial⟩
   ·refine wl_callv (v := .int .i64 ((j : Nat) : Int)) rfl cb256 rfl rfl (fun wx hm => (by rw [hIX]; exact codeAt_any l _ n c0 k wx (hm.fact 0 rfl).1 hn)) ?_
    refine wl_nil ?_
    refine nw 8 15 (fun _ hm => ⟨hm.bl 0, hm.bl 1, hm.bl 2, hm.fa 0, hm.fa 1, trivial⟩) fun z => ?_
    refine wt 4 8 31 rfl z (ov_index (j := j) es29 rfl rfl (by omega)) ?_
    refine wt 5 8 63 rfl z (ov_elem (vs := [.string ke, .string cl, .int .i64 cf, .int .i64 ct, .int .i64 dy, .int .i64 mi]) rz262 rfl (fun _ hm => (hm.2.2.2.1).1) hy rfl rfl) ?_
    refine wa1 6 rfl ?_
    refine wl_alloc zc262 rfl fun g4 => ?_
    refine wl_nil ?_
    refine nw 8 127 (fun _ hm => ⟨hm.bl 1, hm.bl 2, hm.bl 3, hm.fa 0, hm.fa 1, trivial⟩) fun z => ?_
    refine wa1 7 rfl ?_
    refine wl_stores (cs' := [.string ke, .string cl, .int .i64 cf, .int .i64 ct, .int .i64 dy, .int .i64 mi]) 0 rz262 rfl rfl rfl rfl rfl rfl rfl rfl ?_
    refine wl_nil ?_
    refine nw 8 255 (fun _ hm => ⟨hm.bl 1, hm.bl 2, hm.bl 3, hm.fa 0, hm.fa 1, trivial⟩) fun z => ?_
    refine wa_done (by kernel_rfl) ?_
    exact nx_meet g4 trivial ⟨rfl, rfl, rfl, rfl, rfl, rfl, rfl, rfl, rfl, rfl, rfl, rfl, rfl, rfl, trivial⟩ (fun _ hm => hm.pick [1, 2, 3, 0] [] [0, 1] rfl rfl)
   refine wl_alloc zc262 rfl fun g5 => ?_
   refine wl_nil ?_
   refine nw 8 71 (fun _ hm => ⟨hm.bl 1, hm.bl 2, hm.bl 3, hm.fa 0, hm.fa 1, trivial⟩) fun z => ?_
   refine wa1 3 rfl ?_
   refine wl_callv (v := .int .i64 ((j : Nat) : Int)) rfl cb256 rfl rfl (fun wx hm => (by rw [hIX]; exact codeAt_any l _ n c0 k wx (hm.fact 0 rfl).1 hn)) ?_
   refine wl_nil ?_
   refine nw 8 79 (fun _ hm => ⟨hm.bl 1, hm.bl 2, hm.bl 3, hm.fa 0, hm.fa 1, trivial⟩) fun z => ?_
   refine wt 4 8 95 rfl z (ov_index (j := j) es29 rfl rfl (by omega)) ?_
   refine wt 5 8 127 rfl z (ov_elem (vs := [.string ke, .string cl, .int .i64 cf, .int .i64 ct, .int .i64 dy, .int .i64 mi]) rz262 rfl (fun _ hm => (hm.2.2.2.1).1) hy rfl rfl) ?_
   refine wa1 7 rfl ?_
   refine wl_stores (cs' := [.string ke, .string cl, .int .i64 cf, .int .i64 ct, .int .i64 dy, .int .i64 mi]) 0 rz262 rfl rfl rfl rfl rfl rfl rfl rfl ?_
   refine wl_nil ?_
   refine nw 8 255 (fun _ hm => ⟨hm.bl 1, hm.bl 2, hm.bl 3, hm.fa 0, hm.fa 1, trivial⟩) fun z => ?_
   refine wa_done (by kernel_rfl) ?_
   exact nx_meet g5 trivial ⟨rfl, rfl, rfl, rfl, rfl, rfl, rfl, rfl, rfl, rfl, rfl, rfl, rfl, rfl, trivial⟩ (fun _ hm => hm.pick [1, 2, 3, 0] [] [0, 1] rfl rfl)
  intro gz hinv
  replace hinv : True := hinv
  refine gw_seq ?_
  clear hinv
  refine gd (fun wz => Blk wz g3 41 [.int .i64 AE, .int .i64 (whenE (!(keyB cls)) 5), .int .i64 (timeE fr tt), .int .i64 (whenE (!(inB cents 0 1000000000)) 1)] ∧ Blk wz g2 35 [.int .i64 fr, .int .i64 tt] ∧ Blk wz g1 29 [.slice (some ⟨b, off, none⟩) n c0] ∧ Blk wz gz 262 [.string ke, .string cl, .int .i64 cf, .int .i64 ct, .int .i64 dy, .int .i64 mi] ∧ (SlOld cdEnc 6 262 w.heap.size none (some ⟨b, off, none⟩) n l) wz ∧ (SlOld sgEnc 1 9 w.heap.size none (some ⟨b1, off1, none⟩) n1 ks) wz ∧ True) mixed (fun _ hm => ⟨hm.bl 0, hm.bl 1, hm.bl 2, hm.bl 3, hm.fa 0, hm.fa 1, trivial⟩) fun z => ?_
  refine wt 0 28 1 rfl z (ov_field fo262_1 rfl rfl) ?_
  refine wt 1 28 3 rfl z (ov_load sc9 rfl (fun _ hm => hm.2.2.2.1) rfl) ?_
  refine wt 2 28 7 rfl z (ov_seql rfl rfl) ?_
  refine wt 3 28 15 rfl z (ov_move rfl) ?_
  rcases Bool.eq_false_or_eq_true (cl.toList == (⟨#[]⟩ : ByteArray).toList) with e1 | e1
  ·refine wa_set 60 rfl (congrArg Value.bool e1) ?_
   have e1 : emptyS cl = true := e1
   refine wtf 4 28 31 rfl rfl rfl z ?_
   refine wtf 5 28 63 rfl rfl rfl z ?_
   refine wtf 6 28 127 rfl rfl rfl z ?_
   refine wtf 7 28 255 rfl rfl rfl z ?_
   refine wt 8 28 511 rfl z (ov_pick_t rfl rfl) ?_
   refine wt 9 28 1023 rfl z (ov_move rfl) ?_
   refine wto 10 28 2047 rfl rfl rfl z (ov_field fo35_0 rfl rfl) ?_
   refine wto 11 28 4095 rfl rfl rfl z (ov_load sc3 rfl (fun _ hm => hm.2.1) rfl) ?_
   refine wto 12 28 8191 rfl rfl rfl z (ov_quo rfl rfl (by omega) (by omega) (by omega)) ?_
   refine wto 13 28 16383 rfl rfl rfl z (ov_field fo262_2 rfl rfl) ?_
   refine wto 14 28 32767 rfl rfl rfl z (ov_load sc3 rfl (fun _ hm => hm.2.2.2.1) rfl) ?_
   refine wto 15 28 65535 rfl rfl rfl z (ov_field fo262_3 rfl rfl) ?_
   refine wto 16 28 131071 rfl rfl rfl z (ov_load sc3 rfl (fun _ hm => hm.2.2.2.1) rfl) ?_
   refine wto 17 28 262143 rfl rfl rfl z (ov_sub rfl rfl (by omega) (by omega)) ?_
   refine wa1 18 rfl ?_
   refine wl_guard_on rfl rfl rfl ?_
   refine wl_callw rfl cb175 rfl rfl (fun wx hm => (in_any _ _ _ wx)) ?_
   refine wl_nil ?_
   refine nw 28 524287 (fun _ hm => ⟨hm.bl 0, hm.bl 1, hm.bl 2, hm.bl 3, hm.fa 0, hm.fa 1, trivial⟩) fun z => ?_
   refine wt 19 28 1048575 rfl z (ov_pick_t rfl rfl) ?_
   refine wt 20 28 2097151 rfl z (ov_move rfl) ?_
   rcases Bool.eq_false_or_eq_true (inB (fr / 1440) cf (ct - 1)) with e3 | e3
   ·refine wa_set 77 rfl (congrArg Value.bool e3) ?_
    refine wto 21 28 4194303 rfl rfl rfl z (ov_loads rz35 rfl (fun _ hm => hm.2.1) rfl rfl) ?_
    refine wto 23 28 12582911 rfl rfl rfl z (ov_field fo262_4 rfl rfl) ?_
    refine wto 24 28 29360127 rfl rfl rfl z (ov_load sc3 rfl (fun _ hm => hm.2.2.2.1) rfl) ?_
    refine wa1 22 rfl ?_
    refine wl_guard_on rfl rfl rfl ?_
    refine wl_callv rfl cb202 rfl rfl (fun wx hm => (days_any _ _ wx (by omega) (by omega) (by omega))) ?_
    refine wl_nil ?_
    refine nw 28 33554431 (fun _ hm => ⟨hm.bl 0, hm.bl 1, hm.bl 2, hm.bl 3, hm.fa 0, hm.fa 1, trivial⟩) fun z => ?_
    refine wto 25 28 67108863 rfl rfl rfl z (ov_geq rfl rfl) ?_
    refine wt 26 28 134217727 rfl z (ov_pick_t rfl rfl) ?_
    refine wt 27 28 268435455 rfl z (ov_assign rfl) ?_
    refine wa_done (by kernel_rfl) ?_
    refine nx_then (sr_ (mv_ rfl (fd_ fo262_5 rfl rfl (lk_ sc3 3 rfl rfl rfl ?_))))
    refine wl_ov (ov_mul rfl rfl (by omega) (by omega)) rfl ?_
    refine wl_ov (ov_quo rfl rfl (by omega) (by omega) (by omega)) rfl ?_
    refine sg_ rfl (nn_ (sr_ (mv_ rfl (mv_ rfl ?_))))
    rcases Bool.eq_false_or_eq_true (decide (dy ≤ daysV fr tt)) with e4 | e4
    ·refine wl_set 90 rfl (congrArg Value.bool e4) ?_
     have hcb : countsB ⟨ke, cl, cf, ct, dy, mi⟩ cls fr tt = true := counts_yes (.inl e1) e3 (of_decide_eq_true e4)
     refine wl_guard_on rfl rfl rfl (mv_ rfl (wl_guard_on rfl rfl rfl (wl_ov (ov_seql rfl rfl) rfl (wl_guard_on rfl rfl rfl (mv_ rfl ?_)))))
     rcases Bool.eq_false_or_eq_true (ky.toList == (⟨#[]⟩ : ByteArray).toList) with c1 | c1
     ·refine wl_set 93 rfl (congrArg Value.bool c1) ?_
      have hs2 := bestS_yes (st := (ky, mo)) (cents := cents) hIX.symm hy hcb (.inl c1)
      refine goff rfl rfl rfl (goff rfl rfl rfl (goff rfl rfl rfl (wl_guard_on rfl rfl rfl (pt_ rfl rfl (wl_guard_on rfl rfl rfl (mv_ rfl (goff rfl rfl rfl (goff rfl rfl rfl (goff rfl rfl rfl (goff rfl rfl rfl (gnd rfl rfl rfl (gnd rfl rfl rfl (gnd rfl rfl rfl ?_)))))))))))))
      refine goff rfl rfl rfl (wl_guard_on rfl rfl rfl (pt_ rfl rfl (pt_ rfl rfl (nn_ (ct_ rfl (gw_region (mv_ rfl (mv_ rfl (sg_ rfl (sg_ rfl (wl_nil (nx_blk_nrm ?_))))))))))))
      refine nx_then (gw_region (ad_ rfl rfl (mv_ rfl (wl_nil ?_))))
      exact nx_round (i + 1, k, cents * mi / 1000) ⟨by dsimp only; omega, by rw [hstep]; exact hs2.symm⟩ (by dsimp only; omega) ⟨rfl, rfl, rfl, rfl, rfl, rfl, rfl, rfl, rfl, rfl, rfl, (some_int (by omega)), trivial⟩ (fun _ hm => hm.pick [0, 1, 2] [] [0, 1] rfl rfl)
     refine wl_set 93 rfl (congrArg Value.bool c1) ?_
     refine wl_guard_on rfl rfl rfl (mv_ rfl (wl_guard_on rfl rfl rfl (mv_ rfl (wl_guard_on rfl rfl rfl ?_))))
     refine wl_ov (ov_gtr rfl rfl) rfl ?_
     refine wl_guard_on rfl rfl rfl (pf_ rfl rfl (wl_guard_on rfl rfl rfl (mv_ rfl ?_)))
     rcases Bool.eq_false_or_eq_true (decide (mo < (cents * mi) / 1000)) with c2 | c2
     ·refine wl_set 98 rfl (congrArg Value.bool c2) ?_
      have hs2 := bestS_yes (st := (ky, mo)) (cents := cents) hIX.symm hy hcb (.inr (.inl (of_decide_eq_true c2)))
      refine goff rfl rfl rfl (goff rfl rfl rfl (goff rfl rfl rfl (goff rfl rfl rfl (gnd rfl rfl rfl (gnd rfl rfl rfl (gnd rfl rfl rfl (goff rfl rfl rfl (wl_guard_on rfl rfl rfl (pt_ rfl rfl (pt_ rfl rfl (nn_ (ct_ rfl ?_))))))))))))
      refine gw_region (mv_ rfl (mv_ rfl (sg_ rfl (sg_ rfl (wl_nil (nx_blk_nrm (nx_then (gw_region (ad_ rfl rfl (mv_ rfl (wl_nil ?_)))))))))))
      exact nx_round (i + 1, k, cents * mi / 1000) ⟨by dsimp only; omega, by rw [hstep]; exact hs2.symm⟩ (by dsimp only; omega) ⟨rfl, rfl, rfl, rfl, rfl, rfl, rfl, rfl, rfl, rfl, rfl, (some_int (by omega)), trivial⟩ (fun _ hm => hm.pick [0, 1, 2] [] [0, 1] rfl rfl)
     refine wl_set 98 rfl (congrArg Value.bool c2) ?_
     refine wl_guard_on rfl rfl rfl (mv_ rfl (wl_guard_on rfl rfl rfl (mv_ rfl (wl_guard_on rfl rfl rfl (wl_ov (ov_eql rfl rfl) rfl (wl_guard_on rfl rfl rfl (mv_ rfl ?_)))))))
     rcases Bool.eq_false_or_eq_true (decide ((cents * mi) / 1000 = mo)) with c3 | c3
     ·refine wl_set 102 rfl (congrArg Value.bool c3) ?_
      refine wl_guard_on rfl rfl rfl (mv_ rfl (wl_guard_on rfl rfl rfl (mv_ rfl (wl_guard_on rfl rfl rfl ?_))))
      refine wl_ov (ov_slss rfl rfl) rfl ?_
      refine wl_guard_on rfl rfl rfl (pt_ rfl rfl (wl_guard_on rfl rfl rfl (pf_ rfl rfl (pt_ rfl rfl (nn_ ?_)))))
      refine gw_cond rfl (fun hh => ?_) (fun hh => ?_)
      ·have c4 : (Op.bytesLess k.toList ky.toList) = true := by simpa using hh
       clear hh
       refine gw_region ?_
       have hs2 := bestS_yes (st := (ky, mo)) (cents := cents) hIX.symm hy hcb (.inr (.inr ⟨of_decide_eq_true c3, c4⟩))
       refine mv_ rfl (mv_ rfl (sg_ rfl (sg_ rfl (wl_nil (nx_blk_nrm (nx_then (gw_region (ad_ rfl rfl (mv_ rfl (wl_nil ?_))))))))))
       exact nx_round (i + 1, k, cents * mi / 1000) ⟨by dsimp only; omega, by rw [hstep]; exact hs2.symm⟩ (by dsimp only; omega) ⟨rfl, rfl, rfl, rfl, rfl, rfl, rfl, rfl, rfl, rfl, rfl, (some_int (by omega)), trivial⟩ (fun _ hm => hm.pick [0, 1, 2] [] [0, 1] rfl rfl)
      have c4 : (Op.bytesLess k.toList ky.toList) = false := by simpa using hh
      clear hh
      refine gw_skip (nx_blk_nrm (nx_then (gw_region ?_)))
      have hno : ¬ (emptyS (ky, mo).1 = true ∨ (ky, mo).2 < offV cents ⟨ke, cl, cf, ct, dy, mi⟩ ∨ (offV cents ⟨ke, cl, cf, ct, dy, mi⟩ = (ky, mo).2 ∧ ltS k (ky, mo).1 = true)) := by
       rintro (h | h | ⟨_, h⟩)
       ·exact absurd (h.symm.trans c1) (by decide)
       ·exact of_decide_eq_false c2 h
       exact absurd (h.symm.trans c4) (by decide)
      have hs2 := bestS_keep (cls := cls) (fr := fr) (tt := tt) (st := (ky, mo)) (cents := cents) hIX.symm hy (hno)
      refine ad_ rfl rfl (mv_ rfl (wl_nil ?_))
      exact nx_round (i + 1, ky, mo) ⟨by dsimp only; omega, by rw [hstep]; exact hs2.symm⟩ (by dsimp only; omega) ⟨rfl, rfl, rfl, rfl, rfl, rfl, rfl, rfl, rfl, rfl, rfl, (some_int (by omega)), trivial⟩ (fun _ hm => hm.pick [0, 1, 2] [] [0, 1] rfl rfl)
     refine wl_set 102 rfl (congrArg Value.bool c3) ?_
     have hno : ¬ (emptyS (ky, mo).1 = true ∨ (ky, mo).2 < offV cents ⟨ke, cl, cf, ct, dy, mi⟩ ∨ (offV cents ⟨ke, cl, cf, ct, dy, mi⟩ = (ky, mo).2 ∧ ltS k (ky, mo).1 = true)) := by
      rintro (h | h | ⟨h, _⟩)
      ·exact absurd (h.symm.trans c1) (by decide)
      ·exact of_decide_eq_false c2 h
      exact of_decide_eq_false c3 h
     have hs2 := bestS_keep (cls := cls) (fr := fr) (tt := tt) (st := (ky, mo)) (cents := cents) hIX.symm hy (hno)
     refine goff rfl rfl rfl (goff rfl rfl rfl (goff rfl rfl rfl (wl_guard_on rfl rfl rfl (pf_ rfl rfl (wl_guard_on rfl rfl rfl (pf_ rfl rfl (pt_ rfl rfl (nn_ (cf_ rfl (gw_skip (nx_blk_nrm (nx_then ?_))))))))))))
     refine gw_region (ad_ rfl rfl (mv_ rfl (wl_nil ?_)))
     exact nx_round (i + 1, ky, mo) ⟨by dsimp only; omega, by rw [hstep]; exact hs2.symm⟩ (by dsimp only; omega) ⟨rfl, rfl, rfl, rfl, rfl, rfl, rfl, rfl, rfl, rfl, rfl, (some_int (by omega)), trivial⟩ (fun _ hm => hm.pick [0, 1, 2] [] [0, 1] rfl rfl)
    refine wl_set 90 rfl (congrArg Value.bool e4) ?_
    have hcb : countsB ⟨ke, cl, cf, ct, dy, mi⟩ cls fr tt = false := counts_days (of_decide_eq_false e4)
    have hs2 := bestS_no (st := (ky, mo)) (cents := cents) hIX.symm hy hcb
    refine goff rfl rfl rfl (goff rfl rfl rfl (goff rfl rfl rfl (gnd rfl rfl rfl (gnd rfl rfl rfl (gnd rfl rfl rfl (goff rfl rfl rfl (goff rfl rfl rfl (gnd rfl rfl rfl (gnd rfl rfl rfl (gnd rfl rfl rfl (gnd rfl rfl rfl (gnd rfl rfl rfl (gnd rfl rfl rfl ?_)))))))))))))
    refine gnd rfl rfl rfl (gnd rfl rfl rfl (goff rfl rfl rfl (pf_ rfl rfl (nn_ (cf_ rfl (gw_skip (nx_blk_nrm (nx_then (gw_region (ad_ rfl rfl (mv_ rfl (wl_nil ?_))))))))))))
    exact nx_round (i + 1, ky, mo) ⟨by dsimp only; omega, by rw [hstep]; exact hs2.symm⟩ (by dsimp only; omega) ⟨rfl, rfl, rfl, rfl, rfl, rfl, rfl, rfl, rfl, rfl, rfl, (some_int (by omega)), trivial⟩ (fun _ hm => hm.pick [0, 1, 2] [] [0, 1] rfl rfl)
   refine wa_set 77 rfl (congrArg Value.bool e3) ?_
   have hcb : countsB ⟨ke, cl, cf, ct, dy, mi⟩ cls fr tt = false := counts_in e3
   have hs2 := bestS_no (st := (ky, mo)) (cents := cents) hIX.symm hy hcb
   refine wtf 21 28 4194303 rfl rfl rfl z ?_
   refine wtf 22 28 8388607 rfl rfl rfl z ?_
   refine wtf 23 28 16777215 rfl rfl rfl z ?_
   refine wtf 24 28 33554431 rfl rfl rfl z ?_
   refine wtf 25 28 67108863 rfl rfl rfl z ?_
   refine wt 26 28 134217727 rfl z (ov_pick_f rfl rfl) ?_
   refine wt 27 28 268435455 rfl z (ov_assign rfl) ?_
   refine wa_done (by kernel_rfl) ?_
   refine nx_then (sr_ (mv_ rfl (fd_ fo262_5 rfl rfl (lk_ sc3 3 rfl rfl rfl ?_))))
   refine wl_ov (ov_mul rfl rfl (by omega) (by omega)) rfl ?_
   refine wl_ov (ov_quo rfl rfl (by omega) (by omega) (by omega)) rfl ?_
   refine sg_ rfl (nn_ (sr_ (mv_ rfl (mv_ rfl (goff rfl rfl rfl (goff rfl rfl rfl (goff rfl rfl rfl (gnd rfl rfl rfl (gnd rfl rfl rfl (gnd rfl rfl rfl (goff rfl rfl rfl ?_)))))))))))
   refine goff rfl rfl rfl (gnd rfl rfl rfl (gnd rfl rfl rfl (gnd rfl rfl rfl (gnd rfl rfl rfl (gnd rfl rfl rfl (gnd rfl rfl rfl (gnd rfl rfl rfl (gnd rfl rfl rfl (goff rfl rfl rfl (pf_ rfl rfl (nn_ (cf_ rfl ?_))))))))))))
   refine gw_skip (nx_blk_nrm (nx_then (gw_region (ad_ rfl rfl (mv_ rfl (wl_nil ?_))))))
   exact nx_round (i + 1, ky, mo) ⟨by dsimp only; omega, by rw [hstep]; exact hs2.symm⟩ (by dsimp only; omega) ⟨rfl, rfl, rfl, rfl, rfl, rfl, rfl, rfl, rfl, rfl, rfl, (some_int (by omega)), trivial⟩ (fun _ hm => hm.pick [0, 1, 2] [] [0, 1] rfl rfl)
  refine wa_set 60 rfl (congrArg Value.bool e1) ?_
  have e1 : emptyS cl = false := e1
  refine wto 4 28 31 rfl rfl rfl z (ov_field fo262_1 rfl rfl) ?_
  refine wto 5 28 63 rfl rfl rfl z (ov_load sc9 rfl (fun _ hm => hm.2.2.2.1) rfl) ?_
  refine wto 6 28 127 rfl rfl rfl z (ov_move rfl) ?_
  refine wto 7 28 255 rfl rfl rfl z (ov_seql rfl rfl) ?_
  refine wt 8 28 511 rfl z (ov_pick_f rfl rfl) ?_
  refine wt 9 28 1023 rfl z (ov_move rfl) ?_
  rcases Bool.eq_false_or_eq_true (cl.toList == cls.toList) with e2 | e2
  ·refine wa_set 66 rfl (congrArg Value.bool e2) ?_
   refine wto 10 28 2047 rfl rfl rfl z (ov_field fo35_0 rfl rfl) ?_
   refine wto 11 28 4095 rfl rfl rfl z (ov_load sc3 rfl (fun _ hm => hm.2.1) rfl) ?_
   refine wto 12 28 8191 rfl rfl rfl z (ov_quo rfl rfl (by omega) (by omega) (by omega)) ?_
   refine wto 13 28 16383 rfl rfl rfl z (ov_field fo262_2 rfl rfl) ?_
   refine wto 14 28 32767 rfl rfl rfl z (ov_load sc3 rfl (fun _ hm => hm.2.2.2.1) rfl) ?_
   refine wto 15 28 65535 rfl rfl rfl z (ov_field fo262_3 rfl rfl) ?_
   refine wto 16 28 131071 rfl rfl rfl z (ov_load sc3 rfl (fun _ hm => hm.2.2.2.1) rfl) ?_
   refine wto 17 28 262143 rfl rfl rfl z (ov_sub rfl rfl (by omega) (by omega)) ?_
   refine wa1 18 rfl ?_
   refine wl_guard_on rfl rfl rfl ?_
   refine wl_callw rfl cb175 rfl rfl (fun wx hm => (in_any _ _ _ wx)) ?_
   refine wl_nil ?_
   refine nw 28 524287 (fun _ hm => ⟨hm.bl 0, hm.bl 1, hm.bl 2, hm.bl 3, hm.fa 0, hm.fa 1, trivial⟩) fun z => ?_
   refine wt 19 28 1048575 rfl z (ov_pick_t rfl rfl) ?_
   refine wt 20 28 2097151 rfl z (ov_move rfl) ?_
   rcases Bool.eq_false_or_eq_true (inB (fr / 1440) cf (ct - 1)) with e3 | e3
   ·refine wa_set 77 rfl (congrArg Value.bool e3) ?_
    refine wto 21 28 4194303 rfl rfl rfl z (ov_loads rz35 rfl (fun _ hm => hm.2.1) rfl rfl) ?_
    refine wto 23 28 12582911 rfl rfl rfl z (ov_field fo262_4 rfl rfl) ?_
    refine wto 24 28 29360127 rfl rfl rfl z (ov_load sc3 rfl (fun _ hm => hm.2.2.2.1) rfl) ?_
    refine wa1 22 rfl ?_
    refine wl_guard_on rfl rfl rfl ?_
    refine wl_callv rfl cb202 rfl rfl (fun wx hm => (days_any _ _ wx (by omega) (by omega) (by omega))) ?_
    refine wl_nil ?_
    refine nw 28 33554431 (fun _ hm => ⟨hm.bl 0, hm.bl 1, hm.bl 2, hm.bl 3, hm.fa 0, hm.fa 1, trivial⟩) fun z => ?_
    refine wto 25 28 67108863 rfl rfl rfl z (ov_geq rfl rfl) ?_
    refine wt 26 28 134217727 rfl z (ov_pick_t rfl rfl) ?_
    refine wt 27 28 268435455 rfl z (ov_assign rfl) ?_
    refine wa_done (by kernel_rfl) ?_
    refine nx_then (sr_ (mv_ rfl (fd_ fo262_5 rfl rfl (lk_ sc3 3 rfl rfl rfl ?_))))
    refine wl_ov (ov_mul rfl rfl (by omega) (by omega)) rfl ?_
    refine wl_ov (ov_quo rfl rfl (by omega) (by omega) (by omega)) rfl ?_
    refine sg_ rfl (nn_ (sr_ (mv_ rfl (mv_ rfl ?_))))
    rcases Bool.eq_false_or_eq_true (decide (dy ≤ daysV fr tt)) with e4 | e4
    ·refine wl_set 90 rfl (congrArg Value.bool e4) ?_
     have hcb : countsB ⟨ke, cl, cf, ct, dy, mi⟩ cls fr tt = true := counts_yes (.inr e2) e3 (of_decide_eq_true e4)
     refine wl_guard_on rfl rfl rfl (mv_ rfl (wl_guard_on rfl rfl rfl (wl_ov (ov_seql rfl rfl) rfl (wl_guard_on rfl rfl rfl (mv_ rfl ?_)))))
     rcases Bool.eq_false_or_eq_true (ky.toList == (⟨#[]⟩ : ByteArray).toList) with c1 | c1
     ·refine wl_set 93 rfl (congrArg Value.bool c1) ?_
      have hs2 := bestS_yes (st := (ky, mo)) (cents := cents) hIX.symm hy hcb (.inl c1)
      refine goff rfl rfl rfl (goff rfl rfl rfl (goff rfl rfl rfl (wl_guard_on rfl rfl rfl (pt_ rfl rfl (wl_guard_on rfl rfl rfl (mv_ rfl (goff rfl rfl rfl (goff rfl rfl rfl (goff rfl rfl rfl (goff rfl rfl rfl (gnd rfl rfl rfl (gnd rfl rfl rfl (gnd rfl rfl rfl ?_)))))))))))))
      refine goff rfl rfl rfl (wl_guard_on rfl rfl rfl (pt_ rfl rfl (pt_ rfl rfl (nn_ (ct_ rfl (gw_region (mv_ rfl (mv_ rfl (sg_ rfl (sg_ rfl (wl_nil (nx_blk_nrm ?_))))))))))))
      refine nx_then (gw_region (ad_ rfl rfl (mv_ rfl (wl_nil ?_))))
      exact nx_round (i + 1, k, cents * mi / 1000) ⟨by dsimp only; omega, by rw [hstep]; exact hs2.symm⟩ (by dsimp only; omega) ⟨rfl, rfl, rfl, rfl, rfl, rfl, rfl, rfl, rfl, rfl, rfl, (some_int (by omega)), trivial⟩ (fun _ hm => hm.pick [0, 1, 2] [] [0, 1] rfl rfl)
     refine wl_set 93 rfl (congrArg Value.bool c1) ?_
     refine wl_guard_on rfl rfl rfl (mv_ rfl (wl_guard_on rfl rfl rfl (mv_ rfl (wl_guard_on rfl rfl rfl ?_))))
     refine wl_ov (ov_gtr rfl rfl) rfl ?_
     refine wl_guard_on rfl rfl rfl (pf_ rfl rfl (wl_guard_on rfl rfl rfl (mv_ rfl ?_)))
     rcases Bool.eq_false_or_eq_true (decide (mo < (cents * mi) / 1000)) with c2 | c2
     ·refine wl_set 98 rfl (congrArg Value.bool c2) ?_
      have hs2 := bestS_yes (st := (ky, mo)) (cents := cents) hIX.symm hy hcb (.inr (.inl (of_decide_eq_true c2)))
      refine goff rfl rfl rfl (goff rfl rfl rfl (goff rfl rfl rfl (goff rfl rfl rfl (gnd rfl rfl rfl (gnd rfl rfl rfl (gnd rfl rfl rfl (goff rfl rfl rfl (wl_guard_on rfl rfl rfl (pt_ rfl rfl (pt_ rfl rfl (nn_ (ct_ rfl ?_))))))))))))
      refine gw_region (mv_ rfl (mv_ rfl (sg_ rfl (sg_ rfl (wl_nil (nx_blk_nrm (nx_then (gw_region (ad_ rfl rfl (mv_ rfl (wl_nil ?_)))))))))))
      exact nx_round (i + 1, k, cents * mi / 1000) ⟨by dsimp only; omega, by rw [hstep]; exact hs2.symm⟩ (by dsimp only; omega) ⟨rfl, rfl, rfl, rfl, rfl, rfl, rfl, rfl, rfl, rfl, rfl, (some_int (by omega)), trivial⟩ (fun _ hm => hm.pick [0, 1, 2] [] [0, 1] rfl rfl)
     refine wl_set 98 rfl (congrArg Value.bool c2) ?_
     refine wl_guard_on rfl rfl rfl (mv_ rfl (wl_guard_on rfl rfl rfl (mv_ rfl (wl_guard_on rfl rfl rfl (wl_ov (ov_eql rfl rfl) rfl (wl_guard_on rfl rfl rfl (mv_ rfl ?_)))))))
     rcases Bool.eq_false_or_eq_true (decide ((cents * mi) / 1000 = mo)) with c3 | c3
     ·refine wl_set 102 rfl (congrArg Value.bool c3) ?_
      refine wl_guard_on rfl rfl rfl (mv_ rfl (wl_guard_on rfl rfl rfl (mv_ rfl (wl_guard_on rfl rfl rfl ?_))))
      refine wl_ov (ov_slss rfl rfl) rfl ?_
      refine wl_guard_on rfl rfl rfl (pt_ rfl rfl (wl_guard_on rfl rfl rfl (pf_ rfl rfl (pt_ rfl rfl (nn_ ?_)))))
      refine gw_cond rfl (fun hh => ?_) (fun hh => ?_)
      ·have c4 : (Op.bytesLess k.toList ky.toList) = true := by simpa using hh
       clear hh
       refine gw_region ?_
       have hs2 := bestS_yes (st := (ky, mo)) (cents := cents) hIX.symm hy hcb (.inr (.inr ⟨of_decide_eq_true c3, c4⟩))
       refine mv_ rfl (mv_ rfl (sg_ rfl (sg_ rfl (wl_nil (nx_blk_nrm (nx_then (gw_region (ad_ rfl rfl (mv_ rfl (wl_nil ?_))))))))))
       exact nx_round (i + 1, k, cents * mi / 1000) ⟨by dsimp only; omega, by rw [hstep]; exact hs2.symm⟩ (by dsimp only; omega) ⟨rfl, rfl, rfl, rfl, rfl, rfl, rfl, rfl, rfl, rfl, rfl, (some_int (by omega)), trivial⟩ (fun _ hm => hm.pick [0, 1, 2] [] [0, 1] rfl rfl)
      have c4 : (Op.bytesLess k.toList ky.toList) = false := by simpa using hh
      clear hh
      refine gw_skip (nx_blk_nrm (nx_then (gw_region ?_)))
      have hno : ¬ (emptyS (ky, mo).1 = true ∨ (ky, mo).2 < offV cents ⟨ke, cl, cf, ct, dy, mi⟩ ∨ (offV cents ⟨ke, cl, cf, ct, dy, mi⟩ = (ky, mo).2 ∧ ltS k (ky, mo).1 = true)) := by
       rintro (h | h | ⟨_, h⟩)
       ·exact absurd (h.symm.trans c1) (by decide)
       ·exact of_decide_eq_false c2 h
       exact absurd (h.symm.trans c4) (by decide)
      have hs2 := bestS_keep (cls := cls) (fr := fr) (tt := tt) (st := (ky, mo)) (cents := cents) hIX.symm hy (hno)
      refine ad_ rfl rfl (mv_ rfl (wl_nil ?_))
      exact nx_round (i + 1, ky, mo) ⟨by dsimp only; omega, by rw [hstep]; exact hs2.symm⟩ (by dsimp only; omega) ⟨rfl, rfl, rfl, rfl, rfl, rfl, rfl, rfl, rfl, rfl, rfl, (some_int (by omega)), trivial⟩ (fun _ hm => hm.pick [0, 1, 2] [] [0, 1] rfl rfl)
     refine wl_set 102 rfl (congrArg Value.bool c3) ?_
     have hno : ¬ (emptyS (ky, mo).1 = true ∨ (ky, mo).2 < offV cents ⟨ke, cl, cf, ct, dy, mi⟩ ∨ (offV cents ⟨ke, cl, cf, ct, dy, mi⟩ = (ky, mo).2 ∧ ltS k (ky, mo).1 = true)) := by
      rintro (h | h | ⟨h, _⟩)
      ·exact absurd (h.symm.trans c1) (by decide)
      ·exact of_decide_eq_false c2 h
      exact of_decide_eq_false c3 h
     have hs2 := bestS_keep (cls := cls) (fr := fr) (tt := tt) (st := (ky, mo)) (cents := cents) hIX.symm hy (hno)
     refine goff rfl rfl rfl (goff rfl rfl rfl (goff rfl rfl rfl (wl_guard_on rfl rfl rfl (pf_ rfl rfl (wl_guard_on rfl rfl rfl (pf_ rfl rfl (pt_ rfl rfl (nn_ (cf_ rfl (gw_skip (nx_blk_nrm (nx_then ?_))))))))))))
     refine gw_region (ad_ rfl rfl (mv_ rfl (wl_nil ?_)))
     exact nx_round (i + 1, ky, mo) ⟨by dsimp only; omega, by rw [hstep]; exact hs2.symm⟩ (by dsimp only; omega) ⟨rfl, rfl, rfl, rfl, rfl, rfl, rfl, rfl, rfl, rfl, rfl, (some_int (by omega)), trivial⟩ (fun _ hm => hm.pick [0, 1, 2] [] [0, 1] rfl rfl)
    refine wl_set 90 rfl (congrArg Value.bool e4) ?_
    have hcb : countsB ⟨ke, cl, cf, ct, dy, mi⟩ cls fr tt = false := counts_days (of_decide_eq_false e4)
    have hs2 := bestS_no (st := (ky, mo)) (cents := cents) hIX.symm hy hcb
    refine goff rfl rfl rfl (goff rfl rfl rfl (goff rfl rfl rfl (gnd rfl rfl rfl (gnd rfl rfl rfl (gnd rfl rfl rfl (goff rfl rfl rfl (goff rfl rfl rfl (gnd rfl rfl rfl (gnd rfl rfl rfl (gnd rfl rfl rfl (gnd rfl rfl rfl (gnd rfl rfl rfl (gnd rfl rfl rfl ?_)))))))))))))
    refine gnd rfl rfl rfl (gnd rfl rfl rfl (goff rfl rfl rfl (pf_ rfl rfl (nn_ (cf_ rfl (gw_skip (nx_blk_nrm (nx_then (gw_region (ad_ rfl rfl (mv_ rfl (wl_nil ?_))))))))))))
    exact nx_round (i + 1, ky, mo) ⟨by dsimp only; omega, by rw [hstep]; exact hs2.symm⟩ (by dsimp only; omega) ⟨rfl, rfl, rfl, rfl, rfl, rfl, rfl, rfl, rfl, rfl, rfl, (some_int (by omega)), trivial⟩ (fun _ hm => hm.pick [0, 1, 2] [] [0, 1] rfl rfl)
   refine wa_set 77 rfl (congrArg Value.bool e3) ?_
   have hcb : countsB ⟨ke, cl, cf, ct, dy, mi⟩ cls fr tt = false := counts_in e3
   have hs2 := bestS_no (st := (ky, mo)) (cents := cents) hIX.symm hy hcb
   refine wtf 21 28 4194303 rfl rfl rfl z ?_
   refine wtf 22 28 8388607 rfl rfl rfl z ?_
   refine wtf 23 28 16777215 rfl rfl rfl z ?_
   refine wtf 24 28 33554431 rfl rfl rfl z ?_
   refine wtf 25 28 67108863 rfl rfl rfl z ?_
   refine wt 26 28 134217727 rfl z (ov_pick_f rfl rfl) ?_
   refine wt 27 28 268435455 rfl z (ov_assign rfl) ?_
   refine wa_done (by kernel_rfl) ?_
   refine nx_then (sr_ (mv_ rfl (fd_ fo262_5 rfl rfl (lk_ sc3 3 rfl rfl rfl ?_))))
   refine wl_ov (ov_mul rfl rfl (by omega) (by omega)) rfl ?_
   refine wl_ov (ov_quo rfl rfl (by omega) (by omega) (by omega)) rfl ?_
   refine sg_ rfl (nn_ (sr_ (mv_ rfl (mv_ rfl (goff rfl rfl rfl (goff rfl rfl rfl (goff rfl rfl rfl (gnd rfl rfl rfl (gnd rfl rfl rfl (gnd rfl rfl rfl (goff rfl rfl rfl ?_)))))))))))
   refine goff rfl rfl rfl (gnd rfl rfl rfl (gnd rfl rfl rfl (gnd rfl rfl rfl (gnd rfl rfl rfl (gnd rfl rfl rfl (gnd rfl rfl rfl (gnd rfl rfl rfl (gnd rfl rfl rfl (goff rfl rfl rfl (pf_ rfl rfl (nn_ (cf_ rfl ?_))))))))))))
   refine gw_skip (nx_blk_nrm (nx_then (gw_region (ad_ rfl rfl (mv_ rfl (wl_nil ?_))))))
   exact nx_round (i + 1, ky, mo) ⟨by dsimp only; omega, by rw [hstep]; exact hs2.symm⟩ (by dsimp only; omega) ⟨rfl, rfl, rfl, rfl, rfl, rfl, rfl, rfl, rfl, rfl, rfl, (some_int (by omega)), trivial⟩ (fun _ hm => hm.pick [0, 1, 2] [] [0, 1] rfl rfl)
  refine wa_set 66 rfl (congrArg Value.bool e2) ?_
  have hcb : countsB ⟨ke, cl, cf, ct, dy, mi⟩ cls fr tt = false := counts_cls e1 e2
  have hs2 := bestS_no (st := (ky, mo)) (cents := cents) hIX.symm hy hcb
  refine wtf 10 28 2047 rfl rfl rfl z ?_
  refine wtf 11 28 4095 rfl rfl rfl z ?_
  refine wtf 12 28 8191 rfl rfl rfl z ?_
  refine wtf 13 28 16383 rfl rfl rfl z ?_
  refine wtf 14 28 32767 rfl rfl rfl z ?_
  refine wtf 15 28 65535 rfl rfl rfl z ?_
  refine wtf 16 28 131071 rfl rfl rfl z ?_
  refine wtf 17 28 262143 rfl rfl rfl z ?_
  refine wtf 18 28 524287 rfl rfl rfl z ?_
  refine wt 19 28 1048575 rfl z (ov_pick_f rfl rfl) ?_
  refine wt 20 28 2097151 rfl z (ov_move rfl) ?_
  refine wtf 21 28 4194303 rfl rfl rfl z ?_
  refine wtf 22 28 8388607 rfl rfl rfl z ?_
  refine wtf 23 28 16777215 rfl rfl rfl z ?_
  refine wtf 24 28 33554431 rfl rfl rfl z ?_
  refine wtf 25 28 67108863 rfl rfl rfl z ?_
  refine wt 26 28 134217727 rfl z (ov_pick_f rfl rfl) ?_
  refine wt 27 28 268435455 rfl z (ov_assign rfl) ?_
  refine wa_done (by kernel_rfl) ?_
  refine nx_then (sr_ (mv_ rfl (fd_ fo262_5 rfl rfl (lk_ sc3 3 rfl rfl rfl ?_))))
  refine wl_ov (ov_mul rfl rfl (by omega) (by omega)) rfl ?_
  refine wl_ov (ov_quo rfl rfl (by omega) (by omega) (by omega)) rfl ?_
  refine sg_ rfl (nn_ (sr_ (mv_ rfl (mv_ rfl (goff rfl rfl rfl (goff rfl rfl rfl (goff rfl rfl rfl (gnd rfl rfl rfl (gnd rfl rfl rfl (gnd rfl rfl rfl (goff rfl rfl rfl ?_)))))))))))
  refine goff rfl rfl rfl (gnd rfl rfl rfl (gnd rfl rfl rfl (gnd rfl rfl rfl (gnd rfl rfl rfl (gnd rfl rfl rfl (gnd rfl rfl rfl (gnd rfl rfl rfl (gnd rfl rfl rfl (goff rfl rfl rfl (pf_ rfl rfl (nn_ (cf_ rfl ?_))))))))))))
  refine gw_skip (nx_blk_nrm (nx_then (gw_region (ad_ rfl rfl (mv_ rfl (wl_nil ?_))))))
  exact nx_round (i + 1, ky, mo) ⟨by dsimp only; omega, by rw [hstep]; exact hs2.symm⟩ (by dsimp only; omega) ⟨rfl, rfl, rfl, rfl, rfl, rfl, rfl, rfl, rfl, rfl, rfl, (some_int (by omega)), trivial⟩ (fun _ hm => hm.pick [0, 1, 2] [] [0, 1] rfl rfl)
 have hi : ¬ (((i : Nat) : Int) < ((n1 : Nat) : Int)) := by simpa using hh
 clear hh
 refine gw_exit ?_
 refine nx_then_exit (nx_then_exit ?_)
 refine nx_blk_here ?_
 refine nx_then (sr_ ?_)
 have hin1 : i = n1 := by omega
 subst hin1
 rw [List.take_of_length_le (by omega)] at hi1
 have hv : bestV l ks cls fr tt cents = (ky, mo) := by unfold bestV; rw [if_pos hB0, hi1]; rfl
 refine mv_ rfl (mv_ rfl (sg_ rfl (sg_ rfl (sg_ rfl (nn_ ?_)))))
 refine gw_ret ?_
 refine nx_ret3 rfl rfl rfl rfl fun wx hm => ?_
 exact ⟨by rw [hv, hB0], hm.g⟩
theorem codeOf_any (l : List Cd) (A : Option Addr) (n c0 : Nat) (ks : List ByteArray) (A1 : Option Addr) (n1 c1 : Nat) (cls : ByteArray) (fr tt cents : Int) (w : World) (hl : SlT cdEnc 6 262 w A n l) (hn : n ≤ 1000000) (hs : SlT sgEnc 1 9 w A1 n1 ks) (hn1 : n1 ≤ 1000000) (hcodes : codesE l = 0) (h0 : 0 ≤ fr) (hlt : fr < tt) (htt : tt ≤ 5761439) (hct0 : 0 ≤ cents) (hct1 : cents ≤ 1000000000) :
  Calls Tryz.prog 112 #[.slice A n c0, .slice A1 n1 c1, .string cls, .agg #[.int .i64 fr, .int .i64 tt], .int .i64 cents] w (fun e w' => e = .returned (.tuple #[.string (bestC l ks cls fr tt cents).1, .int .i64 (max 0 (bestC l ks cls fr tt cents).2)]) ∧ w.grownBy w' none) := by
 refine gw_enter ⟨73, w, none, []⟩ Tryz.func112 rfl Tryz.ntmps112 rfl (mem0 (X := [SlOld cdEnc 6 262 w.heap.size none A n l, SlOld sgEnc 1 9 w.heap.size none A1 n1 ks]) (allF_cons hl.old (allF_cons hs.old allF_nil)) (allL_cons SlOld.lasts (allL_cons SlOld.lasts allL_nil))) ?_
 refine sr_ ?_
 have hlen := hl.len
 have hslen := hs.len
 refine wl_box rfl rfl rfl fun g1 => ?_
 refine sg_ rfl (sg_ rfl (nn_ (sr_ (sg_ rfl (sg_ rfl ?_)))))
 refine wl_set 13 (v' := .int .i64 (-1)) rfl rfl ?_
 refine nn_ (gw_seq (sr_ (mv_ rfl (wl_ov (ov_len es29 rfl) rfl (mv_ rfl (nn_ (gw_block ?_)))))))
 refine gw_loop (γ := Nat × ByteArray × Int) (fun g => g.1 ≤ n ∧ (g.2.1, g.2.2) = (l.take g.1).foldl (bestT ks cls fr tt cents) (⟨#[]⟩, -1)) (fun g => [(1, .slice A1 n1 c1), (2, .string cls), (4, .int .i64 cents), (8, .pointer (some ⟨g1, 0, none⟩)), (10, .string ⟨#[]⟩), (11, .int .i64 0), (12, .string g.2.1), (13, .int .i64 g.2.2), (17, .slice A n c0), (18, .int .i64 ((n : Nat) : Int)), (19, .int .i64 ((g.1 : Nat) : Int))]) (fun g => fun _ => True) (fun g => [(g1, 35, [.int .i64 fr, .int .i64 tt])]) (fun g => []) (fun g => [SlOld cdEnc 6 262 w.heap.size none A n l, SlOld sgEnc 1 9 w.heap.size none A1 n1 ks]) (fun g => n - g.1) (0, ⟨#[]⟩, -1) ⟨Nat.zero_le _, rfl⟩ ⟨rfl, rfl, rfl, rfl, rfl, rfl, rfl, rfl, rfl, rfl, rfl, trivial⟩ (fun _ hm => hm.pick [0] [] [0, 1] rfl rfl) ?_
 rintro ⟨i, ky, mo⟩ hinv
 replace hinv : i ≤ n ∧ (ky, mo) = (l.take i).foldl (bestT ks cls fr tt cents) (⟨#[]⟩, -1) := hinv
 dsimp only
 refine sr_ ?_
 obtain ⟨hi0, hi1⟩ := hinv
 refine wl_ov (ov_lss rfl rfl) rfl (nn_ (gw_seq ?_))
 refine gw_cond rfl (fun hh => ?_) (fun hh => ?_)
 ·have hi : ((i : Nat) : Int) < ((n : Nat) : Int) := by simpa using hh
  clear hh
  refine gw_skip (nx_then (gw_seq (gw_block (sr_ ?_))))
  obtain ⟨b, off, hA, _, _⟩ := hl.get (by omega)
  subst hA
  obtain ⟨y, hy⟩ : ∃ x, l[i]? = some x := ⟨_, List.getElem?_eq_getElem (by omega)⟩
  obtain ⟨ke, cl, cf, ct, dy, mi⟩ := y
  obtain ⟨_, ⟨f1, f2, f3⟩, ⟨f4, f5⟩, f6, f7⟩ := (codesE_ok hcodes).2.2 _ (List.mem_of_getElem? hy)
  dsimp only at f1 f2 f3 f4 f5 f6 f7
  have hob := off_bound hct0 hct1 f6 f7
  have hob0 := hob.1
  have hob1 := hob.2
  have hstep := fold_take (bestT ks cls fr tt cents) (⟨#[]⟩, -1) hy
  rw [← hi1] at hstep
  refine wl_ov (ov_index (j := i) es29 rfl rfl (by omega)) rfl ?_
  refine wl_ov (ov_elem (vs := [.string ke, .string cl, .int .i64 cf, .int .i64 ct, .int .i64 dy, .int .i64 mi]) rz262 rfl (fun _ hm => (hm.fact 0 rfl).1) hy rfl rfl) rfl ?_
  refine wl_alloc zc262 rfl fun g2 => ?_
  refine wl_stores (cs' := [.string ke, .string cl, .int .i64 cf, .int .i64 ct, .int .i64 dy, .int .i64 mi]) 0 rz262 rfl rfl rfl rfl rfl rfl rfl rfl ?_
  refine nn_ (sr_ (mv_ rfl (fd_ fo262_5 rfl rfl (lk_ sc3 0 rfl rfl rfl ?_))))
  refine wl_ov (ov_mul rfl rfl (by omega) (by omega)) rfl ?_
  refine wl_ov (ov_quo rfl rfl (by omega) (by omega) (by omega)) rfl ?_
  refine sg_ rfl (nn_ (gw_seq ?_))
  refine gd (fun wz => Blk wz g2 262 [.string ke, .string cl, .int .i64 cf, .int .i64 ct, .int .i64 dy, .int .i64 mi] ∧ Blk wz g1 35 [.int .i64 fr, .int .i64 tt] ∧ (SlOld cdEnc 6 262 w.heap.size none (some ⟨b, off, none⟩) n l) wz ∧ (SlOld sgEnc 1 9 w.heap.size none A1 n1 ks) wz ∧ True) mixed (fun _ hm => ⟨hm.bl 0, hm.bl 1, hm.fa 0, hm.fa 1, trivial⟩) fun z => ?_
  refine wt 0 38 1 rfl z (ov_move rfl) ?_
  refine wt 1 38 3 rfl z (ov_field fo262_0 rfl rfl) ?_
  refine wt 2 38 7 rfl z (ov_load sc9 rfl (fun _ hm => hm.1) rfl) ?_
  refine wa1 3 rfl ?_
  refine wl_callv rfl cb50 rfl rfl (fun wx hm => (contains_str ks A1 n1 c1 ke wx (hm.fact 1 rfl).1 hn1)) ?_
  refine wl_nil ?_
  refine nw 38 15 (fun _ hm => ⟨hm.bl 0, hm.bl 1, hm.fa 0, hm.fa 1, trivial⟩) fun z => ?_
  refine wt 4 38 31 rfl z (ov_move rfl) ?_
  rcases Bool.eq_false_or_eq_true (ks.any (fun y => ke.toList == y.toList)) with d1 | d1
  ·refine wa_set 32 rfl (congrArg Value.bool d1) ?_
   refine wto 5 38 63 rfl rfl rfl z (ov_field fo262_1 rfl rfl) ?_
   refine wto 6 38 127 rfl rfl rfl z (ov_load sc9 rfl (fun _ hm => hm.1) rfl) ?_
   refine wto 7 38 255 rfl rfl rfl z (ov_seql rfl rfl) ?_
   refine wto 8 38 511 rfl rfl rfl z (ov_move rfl) ?_
   rcases Bool.eq_false_or_eq_true (cl.toList == (⟨#[]⟩ : ByteArray).toList) with e1 | e1
   ·refine wa_set 36 rfl (congrArg Value.bool e1) ?_
    have e1 : emptyS cl = true := e1
    refine wtf 9 38 1023 rfl rfl rfl z ?_
    refine wtf 10 38 2047 rfl rfl rfl z ?_
    refine wtf 11 38 4095 rfl rfl rfl z ?_
    refine wtf 12 38 8191 rfl rfl rfl z ?_
    refine wto 13 38 16383 rfl rfl rfl z (ov_pick_t rfl rfl) ?_
    refine wt 14 38 32767 rfl z (ov_pick_t rfl rfl) ?_
    refine wt 15 38 65535 rfl z (ov_move rfl) ?_
    refine wto 16 38 131071 rfl rfl rfl z (ov_field fo35_0 rfl rfl) ?_
    refine wto 17 38 262143 rfl rfl rfl z (ov_load sc3 rfl (fun _ hm => hm.2.1) rfl) ?_
    refine wto 18 38 524287 rfl rfl rfl z (ov_quo rfl rfl (by omega) (by omega) (by omega)) ?_
    refine wto 19 38 1048575 rfl rfl rfl z (ov_field fo262_2 rfl rfl) ?_
    refine wto 20 38 2097151 rfl rfl rfl z (ov_load sc3 rfl (fun _ hm => hm.1) rfl) ?_
    refine wto 21 38 4194303 rfl rfl rfl z (ov_field fo262_3 rfl rfl) ?_
    refine wto 22 38 8388607 rfl rfl rfl z (ov_load sc3 rfl (fun _ hm => hm.1) rfl) ?_
    refine wto 23 38 16777215 rfl rfl rfl z (ov_sub rfl rfl (by omega) (by omega)) ?_
    refine wa1 24 rfl ?_
    refine wl_guard_on rfl rfl rfl ?_
    refine wl_callw rfl cb133 rfl rfl (fun wx hm => (rin_any _ _ _ wx)) ?_
    refine wl_nil ?_
    refine nw 38 33554431 (fun _ hm => ⟨hm.bl 0, hm.bl 1, hm.fa 0, hm.fa 1, trivial⟩) fun z => ?_
    refine wt 25 38 67108863 rfl z (ov_pick_t rfl rfl) ?_
    refine wt 26 38 134217727 rfl z (ov_move rfl) ?_
    rcases Bool.eq_false_or_eq_true (inB (fr / 1440) cf (ct - 1)) with e3 | e3
    ·refine wa_set 54 rfl (congrArg Value.bool e3) ?_
     refine wto 27 38 268435455 rfl rfl rfl z (ov_loads rz35 rfl (fun _ hm => hm.2.1) rfl rfl) ?_
     refine wto 29 38 805306367 rfl rfl rfl z (ov_field fo262_4 rfl rfl) ?_
     refine wto 30 38 1879048191 rfl rfl rfl z (ov_load sc3 rfl (fun _ hm => hm.1) rfl) ?_
     refine wa1 28 rfl ?_
     refine wl_guard_on rfl rfl rfl ?_
     refine wl_callv rfl cb115 rfl rfl (fun wx hm => (daysOf_any fr tt wx h0 (by omega) htt)) ?_
     refine wl_nil ?_
     refine nw 38 2147483647 (fun _ hm => ⟨hm.bl 0, hm.bl 1, hm.fa 0, hm.fa 1, trivial⟩) fun z => ?_
     refine wto 31 38 4294967295 rfl rfl rfl z (ov_geq rfl rfl) ?_
     refine wt 32 38 8589934591 rfl z (ov_pick_t rfl rfl) ?_
     refine wt 33 38 17179869183 rfl z (ov_move rfl) ?_
     rcases Bool.eq_false_or_eq_true (decide (dy ≤ daysV fr tt)) with e4 | e4
     ·refine wa_set 61 rfl (congrArg Value.bool e4) ?_
      have hcb : countsB ⟨ke, cl, cf, ct, dy, mi⟩ cls fr tt = true := counts_yes (.inl e1) e3 (of_decide_eq_true e4)
      refine wto 34 38 34359738367 rfl rfl rfl z (ov_move rfl) ?_
      refine wto 35 38 68719476735 rfl rfl rfl z (ov_move rfl) ?_
      refine wto 36 38 137438953471 rfl rfl rfl z (ov_gtr rfl rfl) ?_
      refine wt 37 38 274877906943 rfl z (ov_pick_t rfl rfl) ?_
      refine wa_done (by kernel_rfl) ?_
      refine nx_then ?_
      refine gw_cond rfl (fun hh => ?_) (fun hh => ?_)
      ·have d2 : mo < (cents * mi) / 1000 := by simpa using hh
       clear hh
       refine gw_region (fd_ fo262_0 rfl rfl (lk_ sc9 0 rfl rfl rfl (mv_ rfl (sg_ rfl (sg_ rfl (wl_nil (nx_blk_nrm (nx_then (gw_region (ad_ rfl rfl (mv_ rfl (wl_nil ?_))))))))))))
       exact nx_round (i + 1, ke, cents * mi / 1000) ⟨by dsimp only; omega, by rw [hstep]; unfold bestT; rw [if_pos ⟨d1, hcb, d2⟩]; rfl⟩ (by dsimp only; omega) ⟨rfl, rfl, rfl, rfl, rfl, rfl, rfl, rfl, rfl, rfl, (some_int (by omega)), trivial⟩ (fun _ hm => hm.pick [1] [] [0, 1] rfl rfl)
      have d2 : ¬ (mo < (cents * mi) / 1000) := by simpa using hh
      clear hh
      refine gw_skip (nx_blk_nrm (nx_then (gw_region (ad_ rfl rfl (mv_ rfl (wl_nil ?_))))))
      exact nx_round (i + 1, ky, mo) ⟨by dsimp only; omega, by rw [hstep]; unfold bestT; rw [if_neg (fun h => d2 h.2.2)]⟩ (by dsimp only; omega) ⟨rfl, rfl, rfl, rfl, rfl, rfl, rfl, rfl, rfl, rfl, (some_int (by omega)), trivial⟩ (fun _ hm => hm.pick [1] [] [0, 1] rfl rfl)
     refine wa_set 61 rfl (congrArg Value.bool e4) ?_
     have hcb : countsB ⟨ke, cl, cf, ct, dy, mi⟩ cls fr tt = false := counts_days (of_decide_eq_false e4)
     refine wtf 34 38 34359738367 rfl rfl rfl z ?_
     refine wtf 35 38 68719476735 rfl rfl rfl z ?_
     refine wtf 36 38 137438953471 rfl rfl rfl z ?_
     refine wt 37 38 274877906943 rfl z (ov_pick_f rfl rfl) ?_
     refine wa_done (by kernel_rfl) ?_
     refine nx_then (cf_ rfl (gw_skip (nx_blk_nrm (nx_then (gw_region (ad_ rfl rfl (mv_ rfl (wl_nil ?_))))))))
     exact nx_round (i + 1, ky, mo) ⟨by dsimp only; omega, by rw [hstep]; unfold bestT; rw [if_neg (fun h => by rw [hcb] at h; exact absurd h.2.1 (by decide))]⟩ (by dsimp only; omega) ⟨rfl, rfl, rfl, rfl, rfl, rfl, rfl, rfl, rfl, rfl, (some_int (by omega)), trivial⟩ (fun _ hm => hm.pick [1] [] [0, 1] rfl rfl)
    refine wa_set 54 rfl (congrArg Value.bool e3) ?_
    have hcb : countsB ⟨ke, cl, cf, ct, dy, mi⟩ cls fr tt = false := counts_in e3
    refine wtf 27 38 268435455 rfl rfl rfl z ?_
    refine wtf 28 38 536870911 rfl rfl rfl z ?_
    refine wtf 29 38 1073741823 rfl rfl rfl z ?_
    refine wtf 30 38 2147483647 rfl rfl rfl z ?_
    refine wtf 31 38 4294967295 rfl rfl rfl z ?_
    refine wt 32 38 8589934591 rfl z (ov_pick_f rfl rfl) ?_
    refine wt 33 38 17179869183 rfl z (ov_move rfl) ?_
    refine wtf 34 38 34359738367 rfl rfl rfl z ?_
    refine wtf 35 38 68719476735 rfl rfl rfl z ?_
    refine wtf 36 38 137438953471 rfl rfl rfl z ?_
    refine wt 37 38 274877906943 rfl z (ov_pick_f rfl rfl) ?_
    refine wa_done (by kernel_rfl) ?_
    refine nx_then (cf_ rfl (gw_skip (nx_blk_nrm (nx_then (gw_region (ad_ rfl rfl (mv_ rfl (wl_nil ?_))))))))
    exact nx_round (i + 1, ky, mo) ⟨by dsimp only; omega, by rw [hstep]; unfold bestT; rw [if_neg (fun h => by rw [hcb] at h; exact absurd h.2.1 (by decide))]⟩ (by dsimp only; omega) ⟨rfl, rfl, rfl, rfl, rfl, rfl, rfl, rfl, rfl, rfl, (some_int (by omega)), trivial⟩ (fun _ hm => hm.pick [1] [] [0, 1] rfl rfl)
   refine wa_set 36 rfl (congrArg Value.bool e1) ?_
   have e1 : emptyS cl = false := e1
   refine wto 9 38 1023 rfl rfl rfl z (ov_field fo262_1 rfl rfl) ?_
   refine wto 10 38 2047 rfl rfl rfl z (ov_load sc9 rfl (fun _ hm => hm.1) rfl) ?_
   refine wto 11 38 4095 rfl rfl rfl z (ov_move rfl) ?_
   refine wto 12 38 8191 rfl rfl rfl z (ov_seql rfl rfl) ?_
   refine wto 13 38 16383 rfl rfl rfl z (ov_pick_f rfl rfl) ?_
   refine wt 14 38 32767 rfl z (ov_pick_t rfl rfl) ?_
   refine wt 15 38 65535 rfl z (ov_move rfl) ?_
   rcases Bool.eq_false_or_eq_true (cl.toList == cls.toList) with e2 | e2
   ·refine wa_set 43 rfl (congrArg Value.bool e2) ?_
    refine wto 16 38 131071 rfl rfl rfl z (ov_field fo35_0 rfl rfl) ?_
    refine wto 17 38 262143 rfl rfl rfl z (ov_load sc3 rfl (fun _ hm => hm.2.1) rfl) ?_
    refine wto 18 38 524287 rfl rfl rfl z (ov_quo rfl rfl (by omega) (by omega) (by omega)) ?_
    refine wto 19 38 1048575 rfl rfl rfl z (ov_field fo262_2 rfl rfl) ?_
    refine wto 20 38 2097151 rfl rfl rfl z (ov_load sc3 rfl (fun _ hm => hm.1) rfl) ?_
    refine wto 21 38 4194303 rfl rfl rfl z (ov_field fo262_3 rfl rfl) ?_
    refine wto 22 38 8388607 rfl rfl rfl z (ov_load sc3 rfl (fun _ hm => hm.1) rfl) ?_
    refine wto 23 38 16777215 rfl rfl rfl z (ov_sub rfl rfl (by omega) (by omega)) ?_
    refine wa1 24 rfl ?_
    refine wl_guard_on rfl rfl rfl ?_
    refine wl_callw rfl cb133 rfl rfl (fun wx hm => (rin_any _ _ _ wx)) ?_
    refine wl_nil ?_
    refine nw 38 33554431 (fun _ hm => ⟨hm.bl 0, hm.bl 1, hm.fa 0, hm.fa 1, trivial⟩) fun z => ?_
    refine wt 25 38 67108863 rfl z (ov_pick_t rfl rfl) ?_
    refine wt 26 38 134217727 rfl z (ov_move rfl) ?_
    rcases Bool.eq_false_or_eq_true (inB (fr / 1440) cf (ct - 1)) with e3 | e3
    ·refine wa_set 54 rfl (congrArg Value.bool e3) ?_
     refine wto 27 38 268435455 rfl rfl rfl z (ov_loads rz35 rfl (fun _ hm => hm.2.1) rfl rfl) ?_
     refine wto 29 38 805306367 rfl rfl rfl z (ov_field fo262_4 rfl rfl) ?_
     refine wto 30 38 1879048191 rfl rfl rfl z (ov_load sc3 rfl (fun _ hm => hm.1) rfl) ?_
     refine wa1 28 rfl ?_
     refine wl_guard_on rfl rfl rfl ?_
     refine wl_callv rfl cb115 rfl rfl (fun wx hm => (daysOf_any fr tt wx h0 (by omega) htt)) ?_
     refine wl_nil ?_
     refine nw 38 2147483647 (fun _ hm => ⟨hm.bl 0, hm.bl 1, hm.fa 0, hm.fa 1, trivial⟩) fun z => ?_
     refine wto 31 38 4294967295 rfl rfl rfl z (ov_geq rfl rfl) ?_
     refine wt 32 38 8589934591 rfl z (ov_pick_t rfl rfl) ?_
     refine wt 33 38 17179869183 rfl z (ov_move rfl) ?_
     rcases Bool.eq_false_or_eq_true (decide (dy ≤ daysV fr tt)) with e4 | e4
     ·refine wa_set 61 rfl (congrArg Value.bool e4) ?_
      have hcb : countsB ⟨ke, cl, cf, ct, dy, mi⟩ cls fr tt = true := counts_yes (.inr e2) e3 (of_decide_eq_true e4)
      refine wto 34 38 34359738367 rfl rfl rfl z (ov_move rfl) ?_
      refine wto 35 38 68719476735 rfl rfl rfl z (ov_move rfl) ?_
      refine wto 36 38 137438953471 rfl rfl rfl z (ov_gtr rfl rfl) ?_
      refine wt 37 38 274877906943 rfl z (ov_pick_t rfl rfl) ?_
      refine wa_done (by kernel_rfl) ?_
      refine nx_then ?_
      refine gw_cond rfl (fun hh => ?_) (fun hh => ?_)
      ·have d2 : mo < (cents * mi) / 1000 := by simpa using hh
       clear hh
       refine gw_region (fd_ fo262_0 rfl rfl (lk_ sc9 0 rfl rfl rfl (mv_ rfl (sg_ rfl (sg_ rfl (wl_nil (nx_blk_nrm (nx_then (gw_region (ad_ rfl rfl (mv_ rfl (wl_nil ?_))))))))))))
       exact nx_round (i + 1, ke, cents * mi / 1000) ⟨by dsimp only; omega, by rw [hstep]; unfold bestT; rw [if_pos ⟨d1, hcb, d2⟩]; rfl⟩ (by dsimp only; omega) ⟨rfl, rfl, rfl, rfl, rfl, rfl, rfl, rfl, rfl, rfl, (some_int (by omega)), trivial⟩ (fun _ hm => hm.pick [1] [] [0, 1] rfl rfl)
      have d2 : ¬ (mo < (cents * mi) / 1000) := by simpa using hh
      clear hh
      refine gw_skip (nx_blk_nrm (nx_then (gw_region (ad_ rfl rfl (mv_ rfl (wl_nil ?_))))))
      exact nx_round (i + 1, ky, mo) ⟨by dsimp only; omega, by rw [hstep]; unfold bestT; rw [if_neg (fun h => d2 h.2.2)]⟩ (by dsimp only; omega) ⟨rfl, rfl, rfl, rfl, rfl, rfl, rfl, rfl, rfl, rfl, (some_int (by omega)), trivial⟩ (fun _ hm => hm.pick [1] [] [0, 1] rfl rfl)
     refine wa_set 61 rfl (congrArg Value.bool e4) ?_
     have hcb : countsB ⟨ke, cl, cf, ct, dy, mi⟩ cls fr tt = false := counts_days (of_decide_eq_false e4)
     refine wtf 34 38 34359738367 rfl rfl rfl z ?_
     refine wtf 35 38 68719476735 rfl rfl rfl z ?_
     refine wtf 36 38 137438953471 rfl rfl rfl z ?_
     refine wt 37 38 274877906943 rfl z (ov_pick_f rfl rfl) ?_
     refine wa_done (by kernel_rfl) ?_
     refine nx_then (cf_ rfl (gw_skip (nx_blk_nrm (nx_then (gw_region (ad_ rfl rfl (mv_ rfl (wl_nil ?_))))))))
     exact nx_round (i + 1, ky, mo) ⟨by dsimp only; omega, by rw [hstep]; unfold bestT; rw [if_neg (fun h => by rw [hcb] at h; exact absurd h.2.1 (by decide))]⟩ (by dsimp only; omega) ⟨rfl, rfl, rfl, rfl, rfl, rfl, rfl, rfl, rfl, rfl, (some_int (by omega)), trivial⟩ (fun _ hm => hm.pick [1] [] [0, 1] rfl rfl)
    refine wa_set 54 rfl (congrArg Value.bool e3) ?_
    have hcb : countsB ⟨ke, cl, cf, ct, dy, mi⟩ cls fr tt = false := counts_in e3
    refine wtf 27 38 268435455 rfl rfl rfl z ?_
    refine wtf 28 38 536870911 rfl rfl rfl z ?_
    refine wtf 29 38 1073741823 rfl rfl rfl z ?_
    refine wtf 30 38 2147483647 rfl rfl rfl z ?_
    refine wtf 31 38 4294967295 rfl rfl rfl z ?_
    refine wt 32 38 8589934591 rfl z (ov_pick_f rfl rfl) ?_
    refine wt 33 38 17179869183 rfl z (ov_move rfl) ?_
    refine wtf 34 38 34359738367 rfl rfl rfl z ?_
    refine wtf 35 38 68719476735 rfl rfl rfl z ?_
    refine wtf 36 38 137438953471 rfl rfl rfl z ?_
    refine wt 37 38 274877906943 rfl z (ov_pick_f rfl rfl) ?_
    refine wa_done (by kernel_rfl) ?_
    refine nx_then (cf_ rfl (gw_skip (nx_blk_nrm (nx_then (gw_region (ad_ rfl rfl (mv_ rfl (wl_nil ?_))))))))
    exact nx_round (i + 1, ky, mo) ⟨by dsimp only; omega, by rw [hstep]; unfold bestT; rw [if_neg (fun h => by rw [hcb] at h; exact absurd h.2.1 (by decide))]⟩ (by dsimp only; omega) ⟨rfl, rfl, rfl, rfl, rfl, rfl, rfl, rfl, rfl, rfl, (some_int (by omega)), trivial⟩ (fun _ hm => hm.pick [1] [] [0, 1] rfl rfl)
   refine wa_set 43 rfl (congrArg Value.bool e2) ?_
   have hcb : countsB ⟨ke, cl, cf, ct, dy, mi⟩ cls fr tt = false := counts_cls e1 e2
   refine wtf 16 38 131071 rfl rfl rfl z ?_
   refine wtf 17 38 262143 rfl rfl rfl z ?_
   refine wtf 18 38 524287 rfl rfl rfl z ?_
   refine wtf 19 38 1048575 rfl rfl rfl z ?_
   refine wtf 20 38 2097151 rfl rfl rfl z ?_
   refine wtf 21 38 4194303 rfl rfl rfl z ?_
   refine wtf 22 38 8388607 rfl rfl rfl z ?_
   refine wtf 23 38 16777215 rfl rfl rfl z ?_
   refine wtf 24 38 33554431 rfl rfl rfl z ?_
   refine wt 25 38 67108863 rfl z (ov_pick_f rfl rfl) ?_
   refine wt 26 38 134217727 rfl z (ov_move rfl) ?_
   refine wtf 27 38 268435455 rfl rfl rfl z ?_
   refine wtf 28 38 536870911 rfl rfl rfl z ?_
   refine wtf 29 38 1073741823 rfl rfl rfl z ?_
   refine wtf 30 38 2147483647 rfl rfl rfl z ?_
   refine wtf 31 38 4294967295 rfl rfl rfl z ?_
   refine wt 32 38 8589934591 rfl z (ov_pick_f rfl rfl) ?_
   refine wt 33 38 17179869183 rfl z (ov_move rfl) ?_
   refine wtf 34 38 34359738367 rfl rfl rfl z ?_
   refine wtf 35 38 68719476735 rfl rfl rfl z ?_
   refine wtf 36 38 137438953471 rfl rfl rfl z ?_
   refine wt 37 38 274877906943 rfl z (ov_pick_f rfl rfl) ?_
   refine wa_done (by kernel_rfl) ?_
   refine nx_then (cf_ rfl (gw_skip (nx_blk_nrm (nx_then (gw_region (ad_ rfl rfl (mv_ rfl (wl_nil ?_))))))))
   exact nx_round (i + 1, ky, mo) ⟨by dsimp only; omega, by rw [hstep]; unfold bestT; rw [if_neg (fun h => by rw [hcb] at h; exact absurd h.2.1 (by decide))]⟩ (by dsimp only; omega) ⟨rfl, rfl, rfl, rfl, rfl, rfl, rfl, rfl, rfl, rfl, (some_int (by omega)), trivial⟩ (fun _ hm => hm.pick [1] [] [0, 1] rfl rfl)
  refine wa_set 32 rfl (congrArg Value.bool d1) ?_
  refine wtf 5 38 63 rfl rfl rfl z ?_
  refine wtf 6 38 127 rfl rfl rfl z ?_
  refine wtf 7 38 255 rfl rfl rfl z ?_
  refine wtf 8 38 511 rfl rfl rfl z ?_
  refine wtu 9 38 1023 rfl rfl rfl z ?_
  refine wtu 10 38 2047 rfl rfl rfl z ?_
  refine wtu 11 38 4095 rfl rfl rfl z ?_
  refine wtu 12 38 8191 rfl rfl rfl z ?_
  refine wtf 13 38 16383 rfl rfl rfl z ?_
  refine wt 14 38 32767 rfl z (ov_pick_f rfl rfl) ?_
  refine wt 15 38 65535 rfl z (ov_move rfl) ?_
  refine wtf 16 38 131071 rfl rfl rfl z ?_
  refine wtf 17 38 262143 rfl rfl rfl z ?_
  refine wtf 18 38 524287 rfl rfl rfl z ?_
  refine wtf 19 38 1048575 rfl rfl rfl z ?_
  refine wtf 20 38 2097151 rfl rfl rfl z ?_
  refine wtf 21 38 4194303 rfl rfl rfl z ?_
  refine wtf 22 38 8388607 rfl rfl rfl z ?_
  refine wtf 23 38 16777215 rfl rfl rfl z ?_
  refine wtf 24 38 33554431 rfl rfl rfl z ?_
  refine wt 25 38 67108863 rfl z (ov_pick_f rfl rfl) ?_
  refine wt 26 38 134217727 rfl z (ov_move rfl) ?_
  refine wtf 27 38 268435455 rfl rfl rfl z ?_
  refine wtf 28 38 536870911 rfl rfl rfl z ?_
  refine wtf 29 38 1073741823 rfl rfl rfl z ?_
  refine wtf 30 38 2147483647 rfl rfl rfl z ?_
  refine wtf 31 38 4294967295 rfl rfl rfl z ?_
  refine wt 32 38 8589934591 rfl z (ov_pick_f rfl rfl) ?_
  refine wt 33 38 17179869183 rfl z (ov_move rfl) ?_
  refine wtf 34 38 34359738367 rfl rfl rfl z ?_
  refine wtf 35 38 68719476735 rfl rfl rfl z ?_
  refine wtf 36 38 137438953471 rfl rfl rfl z ?_
  refine wt 37 38 274877906943 rfl z (ov_pick_f rfl rfl) ?_
  refine wa_done (by kernel_rfl) ?_
  refine nx_then (cf_ rfl (gw_skip (nx_blk_nrm (nx_then (gw_region (ad_ rfl rfl (mv_ rfl (wl_nil ?_))))))))
  exact nx_round (i + 1, ky, mo) ⟨by dsimp only; omega, by rw [hstep]; unfold bestT; rw [if_neg (fun h => by rw [d1] at h; exact absurd h.1 (by decide))]⟩ (by dsimp only; omega) ⟨rfl, rfl, rfl, rfl, rfl, rfl, rfl, rfl, rfl, rfl, (some_int (by omega)), trivial⟩ (fun _ hm => hm.pick [1] [] [0, 1] rfl rfl)
 have hi : ¬ (((i : Nat) : Int) < ((n : Nat) : Int)) := by simpa using hh
 clear hh
 refine gw_exit ?_
 refine nx_then_exit (nx_then_exit ?_)
 refine nx_blk_here ?_
 refine nx_then (sr_ ?_)
 have hin1 : i = n := by omega
 subst hin1
 rw [List.take_of_length_le (by omega)] at hi1
 have hv : bestC l ks cls fr tt cents = (ky, mo) := by unfold bestC; rw [hi1]
 refine mv_ rfl (mv_ rfl ?_)
 refine wl_ov (ov_max rfl rfl) rfl ?_
 refine sg_ rfl (sg_ rfl (nn_ ?_))
 refine gw_ret ?_
 refine nx_ret2 rfl rfl rfl fun wx hm => ?_
 exact ⟨by rw [hv], hm.g⟩
end Go.Proofs.YtnmpniaocjmkfaaGreatDoor
namespace Go.Proofs.YtnmpniaocjmkfaaGreatDoor
open Go.RowKit
structure Ex where
  key : ByteArray
  once : Int
  day : Int
  most : Int
def exEnc (x : Ex) : List Value := [.string x.key, .int .i64 x.once, .int .i64 x.day, .int .i64 x.most]
def ExOk (x : Ex) : Prop := x.key.size ≤ 1000000
def leEx (p : Option Ex) (b : Ex) : Bool := match p with
  | none => false
  | some q => leB b.key q.key
def exE (p : Option Ex) (b : Ex) : Int := if !keyB b.key then 5 else if leEx p b then 7 else if !inB b.once 0 1000000 then 1 else if !inB b.day 0 1000000 then 1 else if !inB b.most (-1) 1000000 then 1 else 0
def extrasE (l : List Ex) : Int := if 30 < l.length then 2 else scanE exE none l
def prevEx (l : List Ex) (k : Nat) : ByteArray := match prevOf l k with
  | none => ⟨#[]⟩
  | some q => q.key
theorem prevEx_succ {l : List Ex} {k : Nat} {x : Ex} (h : l[k]? = some x) : prevEx l (k + 1) = x.key := by
  unfold prevEx prevOf; rw [if_neg (by omega), Nat.add_sub_cancel, h]
theorem prevEx_le {l : List Ex} {k : Nat} {b : Ex} (h : keyB b.key = true) : leB b.key (prevEx l k) = leEx (prevOf l k) b := by
  unfold prevEx leEx
  cases prevOf l k with
  | none => exact key_low h
  | some q => rfl
theorem checkExtras_any (l : List Ex) (A : Option Addr) (n c : Nat) (w : World) (hl : SlT exEnc 4 256 w A n l) (hok : ∀ b ∈ l, ExOk b) (hn : n ≤ 1000000) :
  Calls Tryz.prog 104 #[.slice A n c] w (GotE w (extrasE l)) := by
 refine gw_enter ⟨52, w, none, []⟩ Tryz.func104 rfl Tryz.ntmps104 rfl (mem0 (X := [SlOld exEnc 4 256 w.heap.size none A n l]) (allF_cons hl.old allF_nil) (allL_cons SlOld.lasts allL_nil)) ?_
 refine sr_ ?_
 have hlen := hl.len
 refine sg_ rfl (nn_ (gw_seq (sr_ (mv_ rfl (wl_ov (ov_len es27 rfl) rfl ?_)))))
 refine wl_ov (ov_gtr rfl rfl) rfl ?_
 refine nn_ ?_
 refine gw_cond rfl (fun hh => ?_) (fun hh => ?_)
 ·have h1 : 30 < ((n : Nat) : Int) := by simpa using hh
  clear hh
  refine sr_ (sg_ rfl (nn_ ?_))
  refine gw_ret ?_
  refine nx_then_ret ?_
  refine nx_ret1 rfl rfl fun wx hm => ?_
  exact ⟨ret_int (by unfold extrasE; rw [if_pos (by omega)]), hm.g⟩
 have h1 : ¬ (30 < ((n : Nat) : Int)) := by simpa using hh
 clear hh
 refine gw_skip (nx_then (gw_seq (sr_ (mv_ rfl (wl_ov (ov_len es27 rfl) rfl (mv_ rfl (nn_ (gw_block ?_))))))))
 refine gw_loop (γ := Nat) (fun (k : Nat) => k ≤ n ∧ extrasE l = scanE exE (prevOf l k) (l.drop k)) (fun (k : Nat) => [(0, .slice A n c), (8, .slice A n c), (9, .int .i64 ((n : Nat) : Int)), (10, .int .i64 ((k : Nat) : Int))]) (fun (k : Nat) => fun _ => True) (fun (k : Nat) => []) (fun (k : Nat) => []) (fun (k : Nat) => [SlOld exEnc 4 256 w.heap.size none A n l]) (fun (k : Nat) => n - k) 0 ⟨Nat.zero_le _, by unfold extrasE; rw [if_neg (by omega)]; rfl⟩ ⟨rfl, rfl, rfl, rfl, trivial⟩ (fun _ hm => hm.pick [] [] [0] rfl rfl) ?_
 intro k hinv
 replace hinv : k ≤ n ∧ extrasE l = scanE exE (prevOf l k) (l.drop k) := hinv
 refine sr_ (wl_ov (ov_lss rfl rfl) rfl (nn_ (gw_seq ?_)))
 refine gw_cond rfl (fun hh => ?_) (fun hh => ?_)
 ·have hk : ((k : Nat) : Int) < ((n : Nat) : Int) := by simpa using hh
  clear hh
  refine gw_skip (nx_then (gw_seq (gw_block (sr_ ?_))))
  obtain ⟨b, off, hA, _, _⟩ := hl.get (by omega)
  subst hA
  obtain ⟨x, hx⟩ : ∃ x, l[k]? = some x := ⟨_, List.getElem?_eq_getElem (by omega)⟩
  obtain ⟨ke, on, dy, mo⟩ := x
  have hat := scanE_at exE l k _ hx
  have hk1 : ke.size ≤ 1000000 := hok _ (List.mem_of_getElem? hx)
  refine mv_ rfl ?_
  refine wl_ov (ov_index (j := k) es27 rfl rfl (by omega)) rfl ?_
  refine wl_ov (ov_elem (vs := [.string ke, .int .i64 on, .int .i64 dy, .int .i64 mo]) rz256 rfl (fun _ hm => (hm.fact 0 rfl).1) hx rfl rfl) rfl ?_
  refine wl_alloc zc256 rfl fun g1 => ?_
  refine sg_ rfl ?_
  refine wl_stores (cs' := [.string ke, .int .i64 on, .int .i64 dy, .int .i64 mo]) 0 rz256 rfl rfl rfl rfl rfl rfl rfl rfl ?_
  refine nn_ (gw_block (sr_ (fd_ fo256_0 rfl rfl (lk_ sc9 0 rfl rfl rfl ?_))))
  refine wl_callw rfl cb137 rfl rfl (fun wx hm => (isKey_any _ wx (by omega))) ?_
  refine wl_ov (ov_un_not rfl) rfl (sg_ rfl (nn_ ?_))
  refine gw_cond rfl (fun hh => ?_) (fun hh => ?_)
  ·have h2 : (keyB ke) = false := by simpa using hh
   clear hh
   refine sr_ (sg_ rfl (nn_ ?_))
   refine gw_ret ?_
   refine nx_blk_ret (nx_blk_ret (nx_then_ret (nx_then_ret (nx_blk_ret (nx_then_ret ?_)))))
   have hE : exE (prevOf l k) ⟨ke, on, dy, mo⟩ = 5 := by unfold exE; simp [h2]
   refine nx_ret1 rfl rfl fun wx hm => ?_
   exact ⟨ret_int (by rw [hinv.2, hat, if_neg (by rw [hE]; decide), hE]), hm.g⟩
  have h2 : (keyB ke) = true := by simpa using hh
  clear hh
  refine gw_seq ?_
  by_cases hk0 : k = 0
  ·have hO : leEx (prevOf l k) ⟨ke, on, dy, mo⟩ = false := by rw [prevOf_zero hk0]; rfl
   refine gd (fun wz => Blk wz g1 256 [.string ke, .int .i64 on, .int .i64 dy, .int .i64 mo] ∧ (SlOld exEnc 4 256 w.heap.size none (some ⟨b, off, none⟩) n l) wz ∧ True) mixed (fun _ hm => ⟨hm.bl 0, hm.fa 0, trivial⟩) fun z => ?_
   refine wt 0 14 1 rfl z (ov_move rfl) ?_
   refine wt 1 14 3 rfl z (ov_gtr rfl rfl) ?_
   refine wa_set 22 (v' := .bool false) rfl (congrArg Value.bool (decide_eq_false (by omega))) ?_
   refine wt 2 14 7 rfl z (ov_move rfl) ?_
   refine wtf 3 14 15 rfl rfl rfl z ?_
   refine wtf 4 14 31 rfl rfl rfl z ?_
   refine wtf 5 14 63 rfl rfl rfl z ?_
   refine wtf 6 14 127 rfl rfl rfl z ?_
   refine wtf 7 14 255 rfl rfl rfl z ?_
   refine wtf 8 14 511 rfl rfl rfl z ?_
   refine wtf 9 14 1023 rfl rfl rfl z ?_
   refine wtf 10 14 2047 rfl rfl rfl z ?_
   refine wtf 11 14 4095 rfl rfl rfl z ?_
   refine wt 12 14 8191 rfl z (ov_pick_f rfl rfl) ?_
   refine wt 13 14 16383 rfl z (ov_assign rfl) ?_
   refine wa_done (by kernel_rfl) ?_
   refine nx_then (cf_ rfl (sr_ (fd_ fo256_1 rfl rfl (lk_ sc3 0 rfl rfl rfl ?_))))
   refine wl_callw rfl cb175 rfl rfl (fun wx hm => (in_any _ _ _ wx)) ?_
   refine wl_ov (ov_un_not rfl) rfl (mv_ rfl ?_)
   rcases Bool.eq_false_or_eq_true (!(inB on 0 1000000)) with h4 | h4
   ·refine wl_set 39 rfl (congrArg Value.bool h4) ?_
    refine goff rfl rfl rfl (goff rfl rfl rfl (goff rfl rfl rfl (goff rfl rfl rfl (pt_ rfl rfl (mv_ rfl (goff rfl rfl rfl (goff rfl rfl rfl (goff rfl rfl rfl (goff rfl rfl rfl (pt_ rfl rfl (sg_ rfl (nn_ ?_))))))))))))
    refine ct_ rfl (sr_ (sg_ rfl (nn_ ?_)))
    refine gw_ret ?_
    refine nx_blk_ret (nx_blk_ret (nx_then_ret (nx_then_ret (nx_blk_ret (nx_then_ret ?_)))))
    have hE : exE (prevOf l k) ⟨ke, on, dy, mo⟩ = 1 := by unfold exE; simp [h2, hO, h4]
    refine nx_ret1 rfl rfl fun wx hm => ?_
    exact ⟨ret_int (by rw [hinv.2, hat, if_neg (by rw [hE]; decide), hE]), hm.g⟩
   refine wl_set 39 rfl (congrArg Value.bool h4) ?_
   refine wl_guard_on rfl rfl rfl (fd_ fo256_2 rfl rfl (wl_guard_on rfl rfl rfl (lk_ sc3 0 rfl rfl rfl (wl_guard_on rfl rfl rfl ?_))))
   refine wl_callw rfl cb175 rfl rfl (fun wx hm => (in_any _ _ _ wx)) ?_
   refine wl_guard_on rfl rfl rfl (wl_ov (ov_un_not rfl) rfl (pf_ rfl rfl (mv_ rfl ?_)))
   rcases Bool.eq_false_or_eq_true (!(inB dy 0 1000000)) with h5 | h5
   ·refine wl_set 45 rfl (congrArg Value.bool h5) ?_
    refine goff rfl rfl rfl (goff rfl rfl rfl (goff rfl rfl rfl (goff rfl rfl rfl (pt_ rfl rfl (sg_ rfl (nn_ (ct_ rfl (sr_ (sg_ rfl (nn_ ?_))))))))))
    refine gw_ret ?_
    refine nx_blk_ret (nx_blk_ret (nx_then_ret (nx_then_ret (nx_blk_ret (nx_then_ret ?_)))))
    have hE : exE (prevOf l k) ⟨ke, on, dy, mo⟩ = 1 := by unfold exE; simp [h2, hO, h4, h5]
    refine nx_ret1 rfl rfl fun wx hm => ?_
    exact ⟨ret_int (by rw [hinv.2, hat, if_neg (by rw [hE]; decide), hE]), hm.g⟩
   refine wl_set 45 rfl (congrArg Value.bool h5) ?_
   refine wl_guard_on rfl rfl rfl (fd_ fo256_3 rfl rfl (wl_guard_on rfl rfl rfl (lk_ sc3 0 rfl rfl rfl (wl_guard_on rfl rfl rfl ?_))))
   refine wl_callw rfl cb175 rfl rfl (fun wx hm => (in_any _ _ _ wx)) ?_
   refine wl_guard_on rfl rfl rfl (wl_ov (ov_un_not rfl) rfl (pf_ rfl rfl (sg_ rfl (nn_ ?_))))
   refine gw_cond rfl (fun hh => ?_) (fun hh => ?_)
   ·have h6 : (inB mo (-1) 1000000) = false := by simpa using hh
    clear hh
    refine sr_ (sg_ rfl (nn_ ?_))
    refine gw_ret ?_
    refine nx_blk_ret (nx_blk_ret (nx_then_ret (nx_then_ret (nx_blk_ret (nx_then_ret ?_)))))
    have hE : exE (prevOf l k) ⟨ke, on, dy, mo⟩ = 1 := by unfold exE; simp [h2, hO, h4, h5, h6]
    refine nx_ret1 rfl rfl fun wx hm => ?_
    exact ⟨ret_int (by rw [hinv.2, hat, if_neg (by rw [hE]; decide), hE]), hm.g⟩
   have h6 : (inB mo (-1) 1000000) = true := by simpa using hh
   clear hh
   refine gw_skip (nx_blk_nrm (nx_blk_nrm (nx_then (gw_region ?_))))
   have hE : exE (prevOf l k) ⟨ke, on, dy, mo⟩ = 0 := by unfold exE; simp [h2, hO, h4, h5, h6]
   refine ad_ rfl rfl (mv_ rfl (wl_nil ?_))
   exact nx_round (k + 1) ⟨by omega, by rw [hinv.2, hat, if_pos hE]⟩ (by omega) ⟨rfl, rfl, rfl, (some_int (by omega)), trivial⟩ (fun _ hm => hm.pick [] [] [0] rfl rfl)
  obtain ⟨y, hy⟩ : ∃ x, l[k - 1]? = some x := ⟨_, List.getElem?_eq_getElem (by omega)⟩
  obtain ⟨p0, p1, p2, p3⟩ := y
  refine gd (fun wz => Blk wz g1 256 [.string ke, .int .i64 on, .int .i64 dy, .int .i64 mo] ∧ (SlOld exEnc 4 256 w.heap.size none (some ⟨b, off, none⟩) n l) wz ∧ True) mixed (fun _ hm => ⟨hm.bl 0, hm.fa 0, trivial⟩) fun z => ?_
  refine wt 0 14 1 rfl z (ov_move rfl) ?_
  refine wt 1 14 3 rfl z (ov_gtr rfl rfl) ?_
  refine wa_set 22 (v' := .bool true) rfl (congrArg Value.bool (decide_eq_true (by omega))) ?_
  refine wt 2 14 7 rfl z (ov_move rfl) ?_
  refine wto 3 14 15 rfl rfl rfl z (ov_field fo256_0 rfl rfl) ?_
  refine wto 4 14 31 rfl rfl rfl z (ov_load sc9 rfl (fun _ hm => hm.1) rfl) ?_
  refine wto 5 14 63 rfl rfl rfl z (ov_move rfl) ?_
  refine wto 6 14 127 rfl rfl rfl z (ov_move rfl) ?_
  refine wto 7 14 255 rfl rfl rfl z (ov_sub rfl rfl (by omega) (by omega)) ?_
  refine wa_set 28 (v' := .int .i64 ((k - 1 : Nat) : Int)) rfl (congrArg (Value.int .i64) (by omega)) ?_
  refine wto 8 14 511 rfl rfl rfl z (ov_index (j := k - 1) es27 rfl rfl (by omega)) ?_
  refine wto 9 14 1023 rfl rfl rfl z (ov_field fo256_0 rfl rfl) ?_
  refine wto 10 14 2047 rfl rfl rfl z (ov_elem1 (k := 0) (v := .string p0) sc9 rfl (fun _ hm => (hm.2.1).1) hy rfl rfl) ?_
  refine wto 11 14 4095 rfl rfl rfl z (ov_sleq rfl rfl) ?_
  refine wt 12 14 8191 rfl z (ov_pick_t rfl rfl) ?_
  refine wt 13 14 16383 rfl z (ov_assign rfl) ?_
  refine wa_done (by kernel_rfl) ?_
  refine nx_then ?_
  refine gw_cond rfl (fun hh => ?_) (fun hh => ?_)
  ·have h9 : (Op.bytesLess ke.toList p0.toList || ke.toList == p0.toList) = true := by simpa using hh
   clear hh
   refine sr_ ?_
   have hO : leEx (prevOf l k) ⟨ke, on, dy, mo⟩ = true := by rw [prevOf_pos hk0 hy]; exact h9
   refine sg_ rfl (nn_ ?_)
   refine gw_ret ?_
   refine nx_blk_ret (nx_blk_ret (nx_then_ret (nx_then_ret (nx_blk_ret (nx_then_ret ?_)))))
   have hE : exE (prevOf l k) ⟨ke, on, dy, mo⟩ = 7 := by unfold exE; simp [h2, hO]
   refine nx_ret1 rfl rfl fun wx hm => ?_
   exact ⟨ret_int (by rw [hinv.2, hat, if_neg (by rw [hE]; decide), hE]), hm.g⟩
  have h9 : (Op.bytesLess ke.toList p0.toList || ke.toList == p0.toList) = false := by simpa using hh
  clear hh
  refine sr_ ?_
  have hO : leEx (prevOf l k) ⟨ke, on, dy, mo⟩ = false := by rw [prevOf_pos hk0 hy]; exact h9
  refine fd_ fo256_1 rfl rfl (lk_ sc3 0 rfl rfl rfl ?_)
  refine wl_callw rfl cb175 rfl rfl (fun wx hm => (in_any _ _ _ wx)) ?_
  refine wl_ov (ov_un_not rfl) rfl (mv_ rfl ?_)
  rcases Bool.eq_false_or_eq_true (!(inB on 0 1000000)) with h4 | h4
  ·refine wl_set 39 rfl (congrArg Value.bool h4) ?_
   refine goff rfl rfl rfl (goff rfl rfl rfl (goff rfl rfl rfl (goff rfl rfl rfl (pt_ rfl rfl (mv_ rfl (goff rfl rfl rfl (goff rfl rfl rfl (goff rfl rfl rfl (goff rfl rfl rfl (pt_ rfl rfl (sg_ rfl (nn_ ?_))))))))))))
   refine ct_ rfl (sr_ (sg_ rfl (nn_ ?_)))
   refine gw_ret ?_
   refine nx_blk_ret (nx_blk_ret (nx_then_ret (nx_then_ret (nx_blk_ret (nx_then_ret ?_)))))
   have hE : exE (prevOf l k) ⟨ke, on, dy, mo⟩ = 1 := by unfold exE; simp [h2, hO, h4]
   refine nx_ret1 rfl rfl fun wx hm => ?_
   exact ⟨ret_int (by rw [hinv.2, hat, if_neg (by rw [hE]; decide), hE]), hm.g⟩
  refine wl_set 39 rfl (congrArg Value.bool h4) ?_
  refine wl_guard_on rfl rfl rfl (fd_ fo256_2 rfl rfl (wl_guard_on rfl rfl rfl (lk_ sc3 0 rfl rfl rfl (wl_guard_on rfl rfl rfl ?_))))
  refine wl_callw rfl cb175 rfl rfl (fun wx hm => (in_any _ _ _ wx)) ?_
  refine wl_guard_on rfl rfl rfl (wl_ov (ov_un_not rfl) rfl (pf_ rfl rfl (mv_ rfl ?_)))
  rcases Bool.eq_false_or_eq_true (!(inB dy 0 1000000)) with h5 | h5
  ·refine wl_set 45 rfl (congrArg Value.bool h5) ?_
   refine goff rfl rfl rfl (goff rfl rfl rfl (goff rfl rfl rfl (goff rfl rfl rfl (pt_ rfl rfl (sg_ rfl (nn_ (ct_ rfl (sr_ (sg_ rfl (nn_ ?_))))))))))
   refine gw_ret ?_
   refine nx_blk_ret (nx_blk_ret (nx_then_ret (nx_then_ret (nx_blk_ret (nx_then_ret ?_)))))
   have hE : exE (prevOf l k) ⟨ke, on, dy, mo⟩ = 1 := by unfold exE; simp [h2, hO, h4, h5]
   refine nx_ret1 rfl rfl fun wx hm => ?_
   exact ⟨ret_int (by rw [hinv.2, hat, if_neg (by rw [hE]; decide), hE]), hm.g⟩
  refine wl_set 45 rfl (congrArg Value.bool h5) ?_
  refine wl_guard_on rfl rfl rfl (fd_ fo256_3 rfl rfl (wl_guard_on rfl rfl rfl (lk_ sc3 0 rfl rfl rfl (wl_guard_on rfl rfl rfl ?_))))
  refine wl_callw rfl cb175 rfl rfl (fun wx hm => (in_any _ _ _ wx)) ?_
  refine wl_guard_on rfl rfl rfl (wl_ov (ov_un_not rfl) rfl (pf_ rfl rfl (sg_ rfl (nn_ ?_))))
  refine gw_cond rfl (fun hh => ?_) (fun hh => ?_)
  ·have h6 : (inB mo (-1) 1000000) = false := by simpa using hh
   clear hh
   refine sr_ (sg_ rfl (nn_ ?_))
   refine gw_ret ?_
   refine nx_blk_ret (nx_blk_ret (nx_then_ret (nx_then_ret (nx_blk_ret (nx_then_ret ?_)))))
   have hE : exE (prevOf l k) ⟨ke, on, dy, mo⟩ = 1 := by unfold exE; simp [h2, hO, h4, h5, h6]
   refine nx_ret1 rfl rfl fun wx hm => ?_
   exact ⟨ret_int (by rw [hinv.2, hat, if_neg (by rw [hE]; decide), hE]), hm.g⟩
  have h6 : (inB mo (-1) 1000000) = true := by simpa using hh
  clear hh
  refine gw_skip (nx_blk_nrm (nx_blk_nrm (nx_then (gw_region ?_))))
  have hE : exE (prevOf l k) ⟨ke, on, dy, mo⟩ = 0 := by unfold exE; simp [h2, hO, h4, h5, h6]
  refine ad_ rfl rfl (mv_ rfl (wl_nil ?_))
  exact nx_round (k + 1) ⟨by omega, by rw [hinv.2, hat, if_pos hE]⟩ (by omega) ⟨rfl, rfl, rfl, (some_int (by omega)), trivial⟩ (fun _ hm => hm.pick [] [] [0] rfl rfl)
 have hk : ¬ (((k : Nat) : Int) < ((n : Nat) : Int)) := by simpa using hh
 clear hh
 refine gw_exit ?_
 refine nx_then_exit (nx_then_exit ?_)
 refine nx_blk_here ?_
 refine nx_then (sr_ (sg_ rfl (nn_ ?_)))
 refine gw_ret ?_
 refine nx_ret1 rfl rfl fun wx hm => ?_
 exact ⟨ret_int (by rw [hinv.2, scanE_end _ _ _ _ (by omega)]), hm.g⟩
theorem extrasFault_any (l : List Ex) (A : Option Addr) (n c : Nat) (w : World) (hl : SlT exEnc 4 256 w A n l) (hok : ∀ b ∈ l, ExOk b) (hn : n ≤ 1000000) :
  Calls Tryz.prog 98 #[.slice A n c] w (GotE w (extrasE l)) := by
 refine gw_enter ⟨45, w, none, []⟩ Tryz.func98 rfl Tryz.ntmps98 rfl (mem0 (X := [SlOld exEnc 4 256 w.heap.size none A n l]) (allF_cons hl.old allF_nil) (allL_cons SlOld.lasts allL_nil)) ?_
 refine sr_ ?_
 have hlen := hl.len
 refine sg_ rfl (nn_ (gw_seq (sr_ (mv_ rfl (wl_ov (ov_len es27 rfl) rfl ?_)))))
 refine wl_ov (ov_gtr rfl rfl) rfl ?_
 refine nn_ ?_
 refine gw_cond rfl (fun hh => ?_) (fun hh => ?_)
 ·have h1 : 30 < ((n : Nat) : Int) := by simpa using hh
  clear hh
  refine sr_ (sg_ rfl (nn_ ?_))
  refine gw_ret ?_
  refine nx_then_ret ?_
  refine nx_ret1 rfl rfl fun wx hm => ?_
  exact ⟨ret_int (by unfold extrasE; rw [if_pos (by omega)]), hm.g⟩
 have h1 : ¬ (30 < ((n : Nat) : Int)) := by simpa using hh
 clear hh
 refine gw_skip (nx_then (sr_ (sg_ rfl (nn_ (gw_seq (sr_ (mv_ rfl (wl_ov (ov_len es27 rfl) rfl (mv_ rfl (wl_nil ?_))))))))))
 refine nx_then (gw_block ?_)
 refine gw_loop (γ := Nat) (fun (k : Nat) => k ≤ n ∧ extrasE l = scanE exE (prevOf l k) (l.drop k)) (fun (k : Nat) => [(3, .string (prevEx l k)), (9, .slice A n c), (10, .int .i64 ((n : Nat) : Int)), (11, .int .i64 ((k : Nat) : Int))]) (fun (k : Nat) => fun _ => True) (fun (k : Nat) => []) (fun (k : Nat) => []) (fun (k : Nat) => [SlOld exEnc 4 256 w.heap.size none A n l]) (fun (k : Nat) => n - k) 0 ⟨Nat.zero_le _, by unfold extrasE; rw [if_neg (by omega)]; rfl⟩ ⟨rfl, rfl, rfl, rfl, trivial⟩ (fun _ hm => hm.pick [] [] [0] rfl rfl) ?_
 intro k hinv
 replace hinv : k ≤ n ∧ extrasE l = scanE exE (prevOf l k) (l.drop k) := hinv
 refine sr_ (wl_ov (ov_lss rfl rfl) rfl (nn_ (gw_seq ?_)))
 refine gw_cond rfl (fun hh => ?_) (fun hh => ?_)
 ·have hk : ((k : Nat) : Int) < ((n : Nat) : Int) := by simpa using hh
  clear hh
  refine gw_skip (nx_then (gw_seq (gw_block (sr_ ?_))))
  obtain ⟨b, off, hA, _, _⟩ := hl.get (by omega)
  subst hA
  obtain ⟨x, hx⟩ : ∃ x, l[k]? = some x := ⟨_, List.getElem?_eq_getElem (by omega)⟩
  obtain ⟨ke, on, dy, mo⟩ := x
  have hat := scanE_at exE l k _ hx
  have hk1 : ke.size ≤ 1000000 := hok _ (List.mem_of_getElem? hx)
  refine wl_ov (ov_index (j := k) es27 rfl rfl (by omega)) rfl ?_
  refine wl_ov (ov_elem (vs := [.string ke, .int .i64 on, .int .i64 dy, .int .i64 mo]) rz256 rfl (fun _ hm => (hm.fact 0 rfl).1) hx rfl rfl) rfl ?_
  refine wl_alloc zc256 rfl fun g1 => ?_
  refine wl_stores (cs' := [.string ke, .int .i64 on, .int .i64 dy, .int .i64 mo]) 0 rz256 rfl rfl rfl rfl rfl rfl rfl rfl ?_
  refine nn_ (gw_seq (gw_block (sr_ (fd_ fo256_0 rfl rfl (lk_ sc9 0 rfl rfl rfl ?_)))))
  refine wl_callv rfl cb108 rfl rfl (fun wx hm => (key_any _ wx (by omega))) ?_
  refine wl_ov (ov_un_not rfl) rfl (sg_ rfl (nn_ ?_))
  refine gw_cond rfl (fun hh => ?_) (fun hh => ?_)
  ·have h2 : (keyB ke) = false := by simpa using hh
   clear hh
   refine sr_ (sg_ rfl (nn_ ?_))
   refine gw_ret ?_
   refine nx_blk_ret (nx_then_ret (nx_blk_ret (nx_then_ret (nx_then_ret (nx_blk_ret (nx_then_ret ?_))))))
   have hE : exE (prevOf l k) ⟨ke, on, dy, mo⟩ = 5 := by unfold exE; simp [h2]
   refine nx_ret1 rfl rfl fun wx hm => ?_
   exact ⟨ret_int (by rw [hinv.2, hat, if_neg (by rw [hE]; decide), hE]), hm.g⟩
  have h2 : (keyB ke) = true := by simpa using hh
  clear hh
  refine sr_ (fd_ fo256_0 rfl rfl (lk_ sc9 0 rfl rfl rfl (mv_ rfl ?_)))
  refine wl_ov (ov_sleq rfl rfl) rfl ?_
  refine sg_ rfl (nn_ ?_)
  refine gw_cond rfl (fun hh => ?_) (fun hh => ?_)
  ·have h9 : (Op.bytesLess ke.toList (prevEx l k).toList || ke.toList == (prevEx l k).toList) = true := by simpa using hh
   clear hh
   refine sr_ ?_
   have hO : leEx (prevOf l k) ⟨ke, on, dy, mo⟩ = true := (prevEx_le (b := ⟨ke, on, dy, mo⟩) (by simpa using h2)).symm.trans h9
   refine sg_ rfl (nn_ ?_)
   refine gw_ret ?_
   refine nx_blk_ret (nx_then_ret (nx_blk_ret (nx_then_ret (nx_then_ret (nx_blk_ret (nx_then_ret ?_))))))
   have hE : exE (prevOf l k) ⟨ke, on, dy, mo⟩ = 7 := by unfold exE; simp [h2, hO]
   refine nx_ret1 rfl rfl fun wx hm => ?_
   exact ⟨ret_int (by rw [hinv.2, hat, if_neg (by rw [hE]; decide), hE]), hm.g⟩
  have h9 : (Op.bytesLess ke.toList (prevEx l k).toList || ke.toList == (prevEx l k).toList) = false := by simpa using hh
  clear hh
  refine sr_ ?_
  have hO : leEx (prevOf l k) ⟨ke, on, dy, mo⟩ = false := (prevEx_le (b := ⟨ke, on, dy, mo⟩) (by simpa using h2)).symm.trans h9
  refine fd_ fo256_1 rfl rfl (lk_ sc3 0 rfl rfl rfl ?_)
  refine wl_callw rfl cb133 rfl rfl (fun wx hm => (rin_any _ _ _ wx)) ?_
  refine wl_ov (ov_un_not rfl) rfl (mv_ rfl ?_)
  rcases Bool.eq_false_or_eq_true (!(inB on 0 1000000)) with h4 | h4
  ·refine wl_set 30 rfl (congrArg Value.bool h4) ?_
   refine goff rfl rfl rfl (goff rfl rfl rfl (goff rfl rfl rfl (goff rfl rfl rfl (pt_ rfl rfl (mv_ rfl (goff rfl rfl rfl (goff rfl rfl rfl (goff rfl rfl rfl (goff rfl rfl rfl (pt_ rfl rfl (sg_ rfl (nn_ ?_))))))))))))
   refine ct_ rfl (sr_ (sg_ rfl (nn_ ?_)))
   refine gw_ret ?_
   refine nx_blk_ret (nx_then_ret (nx_blk_ret (nx_then_ret (nx_then_ret (nx_blk_ret (nx_then_ret ?_))))))
   have hE : exE (prevOf l k) ⟨ke, on, dy, mo⟩ = 1 := by unfold exE; simp [h2, hO, h4]
   refine nx_ret1 rfl rfl fun wx hm => ?_
   exact ⟨ret_int (by rw [hinv.2, hat, if_neg (by rw [hE]; decide), hE]), hm.g⟩
  refine wl_set 30 rfl (congrArg Value.bool h4) ?_
  refine wl_guard_on rfl rfl rfl (fd_ fo256_2 rfl rfl (wl_guard_on rfl rfl rfl (lk_ sc3 0 rfl rfl rfl (wl_guard_on rfl rfl rfl ?_))))
  refine wl_callw rfl cb133 rfl rfl (fun wx hm => (rin_any _ _ _ wx)) ?_
  refine wl_guard_on rfl rfl rfl (wl_ov (ov_un_not rfl) rfl (pf_ rfl rfl (mv_ rfl ?_)))
  rcases Bool.eq_false_or_eq_true (!(inB dy 0 1000000)) with h5 | h5
  ·refine wl_set 36 rfl (congrArg Value.bool h5) ?_
   refine goff rfl rfl rfl (goff rfl rfl rfl (goff rfl rfl rfl (goff rfl rfl rfl (pt_ rfl rfl (sg_ rfl (nn_ (ct_ rfl (sr_ (sg_ rfl (nn_ ?_))))))))))
   refine gw_ret ?_
   refine nx_blk_ret (nx_then_ret (nx_blk_ret (nx_then_ret (nx_then_ret (nx_blk_ret (nx_then_ret ?_))))))
   have hE : exE (prevOf l k) ⟨ke, on, dy, mo⟩ = 1 := by unfold exE; simp [h2, hO, h4, h5]
   refine nx_ret1 rfl rfl fun wx hm => ?_
   exact ⟨ret_int (by rw [hinv.2, hat, if_neg (by rw [hE]; decide), hE]), hm.g⟩
  refine wl_set 36 rfl (congrArg Value.bool h5) ?_
  refine wl_guard_on rfl rfl rfl (fd_ fo256_3 rfl rfl (wl_guard_on rfl rfl rfl (lk_ sc3 0 rfl rfl rfl (wl_guard_on rfl rfl rfl ?_))))
  refine wl_callw rfl cb133 rfl rfl (fun wx hm => (rin_any _ _ _ wx)) ?_
  refine wl_guard_on rfl rfl rfl (wl_ov (ov_un_not rfl) rfl (pf_ rfl rfl (sg_ rfl (nn_ ?_))))
  refine gw_cond rfl (fun hh => ?_) (fun hh => ?_)
  ·have h6 : (inB mo (-1) 1000000) = false := by simpa using hh
   clear hh
   refine sr_ (sg_ rfl (nn_ ?_))
   refine gw_ret ?_
   refine nx_blk_ret (nx_then_ret (nx_blk_ret (nx_then_ret (nx_then_ret (nx_blk_ret (nx_then_ret ?_))))))
   have hE : exE (prevOf l k) ⟨ke, on, dy, mo⟩ = 1 := by unfold exE; simp [h2, hO, h4, h5, h6]
   refine nx_ret1 rfl rfl fun wx hm => ?_
   exact ⟨ret_int (by rw [hinv.2, hat, if_neg (by rw [hE]; decide), hE]), hm.g⟩
  have h6 : (inB mo (-1) 1000000) = true := by simpa using hh
  clear hh
  refine gw_skip (nx_blk_nrm (nx_then (gw_region ?_)))
  have hE : exE (prevOf l k) ⟨ke, on, dy, mo⟩ = 0 := by unfold exE; simp [h2, hO, h4, h5, h6]
  refine fd_ fo256_0 rfl rfl (lk_ sc9 0 rfl rfl rfl (sg_ rfl (wl_nil (nx_blk_nrm (nx_then (gw_region (ad_ rfl rfl (mv_ rfl (wl_nil ?_)))))))))
  exact nx_round (k + 1) ⟨by omega, by rw [hinv.2, hat, if_pos hE]⟩ (by omega) ⟨(congrArg (fun z => some (Value.string z)) (prevEx_succ hx).symm), rfl, rfl, (some_int (by omega)), trivial⟩ (fun _ hm => hm.pick [] [] [0] rfl rfl)
 have hk : ¬ (((k : Nat) : Int) < ((n : Nat) : Int)) := by simpa using hh
 clear hh
 refine gw_exit ?_
 refine nx_then_exit (nx_then_exit ?_)
 refine nx_blk_here ?_
 refine nx_then (sr_ (sg_ rfl (nn_ ?_)))
 refine gw_ret ?_
 refine nx_ret1 rfl rfl fun wx hm => ?_
 exact ⟨ret_int (by rw [hinv.2, scanE_end _ _ _ _ (by omega)]), hm.g⟩
theorem ex_len (x : Ex) : (exEnc x).length = 4 := rfl
theorem extrasE_ok {l : List Ex} (h : extrasE l = 0) : l.length ≤ 30 ∧ ∀ x ∈ l, keyB x.key = true ∧ (0 ≤ x.once ∧ x.once ≤ 1000000) ∧ (0 ≤ x.day ∧ x.day ≤ 1000000) ∧ (-1 ≤ x.most ∧ x.most ≤ 1000000) := by
  unfold extrasE at h
  split at h
  · cases h
  · refine ⟨by omega, fun x hx => ?_⟩
    obtain ⟨q, hq⟩ := scan_each h x hx
    unfold exE at hq
    repeat (split at hq; · cases hq)
    rename_i h1 h2 h3 h4 h5
    simp [inB] at h1 h3 h4 h5
    exact ⟨h1, h3, h4, h5⟩
def exP (k : ByteArray) (x : Ex) : Bool := x.key.toList == k.toList
/-- What an extra costs. -/
def exV (x : Ex) (n : Int) : Int := x.once + (if 0 ≤ x.most then min (x.day * n) x.most else x.day * n)
def exAt (l : List Ex) (k : ByteArray) (n : Int) : Int := match l[(ixP (exP k) l 0).toNat]? with
  | some x => exV x n
  | none => 0
theorem exV_step {x : Ex} (h1 : 0 ≤ x.day) (j : Nat) : (if 0 ≤ x.most then min ((exV x j - x.once) + x.day) x.most else (exV x j - x.once) + x.day) = exV x (j + 1 : Nat) - x.once := by
  unfold exV
  have e : x.day * ((j + 1 : Nat) : Int) = x.day * (j : Int) + x.day := by rw [Int.natCast_add, Int.mul_add]; simp
  rw [e]
  by_cases hm : 0 ≤ x.most
  · simp only [hm, if_true]; omega
  · simp only [hm, if_false]; omega
theorem exV_bound {x : Ex} {n : Int} (h1 : 0 ≤ x.once ∧ x.once ≤ 1000000) (h2 : 0 ≤ x.day ∧ x.day ≤ 1000000) (h3 : -1 ≤ x.most ∧ x.most ≤ 1000000) (hn : 0 ≤ n ∧ n ≤ 120) : (0 ≤ x.day * n ∧ x.day * n ≤ 120000000) ∧ 0 ≤ exV x n ∧ exV x n ≤ 121000000 := by
  have a : 0 ≤ x.day * n := Int.mul_nonneg h2.1 hn.1
  have b := Int.mul_le_mul h2.2 hn.2 hn.1 (by omega)
  unfold exV
  refine ⟨⟨a, by omega⟩, ?_⟩
  split <;> omega
theorem pred_extraAt_1_tariff (ke : ByteArray) (on : Int) (dy : Int) (mo : Int) (gk : Nat) (k : ByteArray) (w : World) (hk : Blk w gk 9 [.string k]) :
  Calls Tryz.prog 254 #[.agg #[.string ke, .int .i64 on, .int .i64 dy, .int .i64 mo], .pointer (some ⟨gk, 0, none⟩)] w (fun e w' => e = .returned (.bool (exP k ⟨ke, on, dy, mo⟩)) ∧ w.grownBy w' none) := by
 refine gw_enter ⟨8, w, none, []⟩ Tryz.func254 rfl Tryz.ntmps254 rfl (mem0 (X := [BlkOld w.heap.size none gk 9 [.string k]]) (allF_cons hk.old allF_nil) (allL_cons BlkOld.lasts allL_nil)) ?_
 refine sr_ ?_
 refine wl_box rfl rfl rfl fun g1 => ?_
 refine sg_ rfl (nn_ (sr_ (fd_ fo256_0 rfl rfl (lk_ sc9 0 rfl rfl rfl ?_))))
 refine wl_ov (ov_load (v := .string k) sc9 rfl (fun _ hm => (hm.fact 0 rfl).2) rfl) rfl ?_
 refine wl_ov (ov_seql rfl rfl) rfl (sg_ rfl (nn_ ?_))
 refine gw_ret ?_
 refine nx_ret1 rfl rfl fun wx hm => ?_
 exact ⟨rfl, hm.g⟩
theorem index_extraAt_1_tariff (l : List Ex) (A : Option Addr) (n c0 : Nat) (gk : Nat) (k : ByteArray) (w : World) (hl : SlT exEnc 4 256 w A n l) (hn : n ≤ 1000000) (hk : Blk w gk 9 [.string k]) :
  Calls Tryz.prog 253 #[.slice A n c0, .func (.func 254) #[] #[.pointer (some ⟨gk, 0, none⟩)]] w (GotE w (ixP (exP k) l 0)) := by
 refine gw_enter ⟨19, w, none, []⟩ Tryz.func253 rfl Tryz.ntmps253 rfl (mem0 (X := [SlOld exEnc 4 256 w.heap.size none A n l, BlkOld w.heap.size none gk 9 [.string k]]) (allF_cons hl.old (allF_cons hk.old allF_nil)) (allL_cons SlOld.lasts (allL_cons BlkOld.lasts allL_nil))) ?_
 refine sr_ ?_
 have hlen := hl.len
 refine sg_ rfl (nn_ (gw_seq (sr_ (mv_ rfl (wl_ov (ov_len es27 rfl) rfl (mv_ rfl (nn_ (gw_block ?_))))))))
 refine gw_loop (γ := Nat) (fun (i : Nat) => i ≤ n ∧ ixP (exP k) l 0 = ixP (exP k) (l.drop i) i) (fun (i : Nat) => [(0, .slice A n c0), (1, .func (.func 254) #[] #[.pointer (some ⟨gk, 0, none⟩)]), (7, .int .i64 ((n : Nat) : Int)), (8, .int .i64 ((i : Nat) : Int))]) (fun (i : Nat) => fun _ => True) (fun (i : Nat) => []) (fun (i : Nat) => []) (fun (i : Nat) => [SlOld exEnc 4 256 w.heap.size none A n l, BlkOld w.heap.size none gk 9 [.string k]]) (fun (i : Nat) => n - i) 0 ⟨Nat.zero_le _, rfl⟩ ⟨rfl, rfl, rfl, rfl, trivial⟩ (fun _ hm => hm.pick [] [] [0, 1] rfl rfl) ?_
 intro i hinv
 replace hinv : i ≤ n ∧ ixP (exP k) l 0 = ixP (exP k) (l.drop i) i := hinv
 refine sr_ (wl_ov (ov_lss rfl rfl) rfl (nn_ (gw_seq ?_)))
 refine gw_cond rfl (fun hh => ?_) (fun hh => ?_)
 ·have hi : ((i : Nat) : Int) < ((n : Nat) : Int) := by simpa using hh
  clear hh
  refine gw_skip (nx_then (gw_seq (gw_block (sr_ ?_))))
  obtain ⟨b, off, hA, _, _⟩ := hl.get (by omega)
  subst hA
  obtain ⟨x, hx⟩ : ∃ x, l[i]? = some x := ⟨_, List.getElem?_eq_getElem (by omega)⟩
  obtain ⟨ke, on, dy, mo⟩ := x
  have hat := ixP_at (p := exP k) hx
  refine mv_ rfl (sg_ rfl (nn_ (sr_ (mv_ rfl (mv_ rfl (mv_ rfl ?_))))))
  refine wl_ov (ov_index (j := i) es27 rfl rfl (by omega)) rfl ?_
  refine wl_ov (ov_elem (vs := [.string ke, .int .i64 on, .int .i64 dy, .int .i64 mo]) rz256 rfl (fun _ hm => (hm.fact 0 rfl).1) hx rfl rfl) rfl ?_
  refine wl_callv rfl cb254 rfl rfl (fun wx hm => (pred_extraAt_1_tariff ke on dy mo gk k wx (hm.fact 1 rfl).2)) ?_
  refine nn_ ?_
  refine gw_cond rfl (fun hh => ?_) (fun hh => ?_)
  ·have hq : (exP k ⟨ke, on, dy, mo⟩) = true := by simpa using hh
   clear hh
   refine sr_ (mv_ rfl (sg_ rfl (nn_ ?_)))
   refine gw_ret ?_
   refine nx_blk_ret (nx_then_ret (nx_then_ret (nx_blk_ret (nx_then_ret ?_))))
   refine nx_ret1 rfl rfl fun wx hm => ?_
   exact ⟨ret_int (by rw [hinv.2, hat, if_pos hq]), hm.g⟩
  have hq : (exP k ⟨ke, on, dy, mo⟩) = false := by simpa using hh
  clear hh
  refine gw_skip (nx_blk_nrm (nx_then (gw_region (ad_ rfl rfl (mv_ rfl (wl_nil ?_))))))
  exact nx_round (i + 1) ⟨by omega, by rw [hinv.2, hat, if_neg (by rw [hq]; decide)]⟩ (by omega) ⟨rfl, rfl, rfl, (some_int (by omega)), trivial⟩ (fun _ hm => hm.pick [] [] [0, 1] rfl rfl)
 have hi : ¬ (((i : Nat) : Int) < ((n : Nat) : Int)) := by simpa using hh
 clear hh
 refine gw_exit ?_
 refine nx_then_exit (nx_then_exit ?_)
 refine nx_blk_here ?_
 refine nx_then (sr_ (sg_ rfl ?_))
 refine wl_set 4 (v' := .int .i64 (-1)) rfl rfl ?_
 refine nn_ ?_
 refine gw_ret ?_
 refine nx_ret1 rfl rfl fun wx hm => ?_
 exact ⟨ret_int (by rw [hinv.2, List.drop_eq_nil_of_le (by omega)]; rfl), hm.g⟩
theorem extraAt_any (l : List Ex) (A : Option Addr) (n c0 : Nat) (k : ByteArray) (w : World) (hl : SlT exEnc 4 256 w A n l) (hn : n ≤ 1000000) :
  Calls Tryz.prog 199 #[.slice A n c0, .string k] w (GotE w (ixP (exP k) l 0)) := by
 refine gw_enter ⟨8, w, none, []⟩ Tryz.func199 rfl Tryz.ntmps199 rfl (mem0 (X := [SlOld exEnc 4 256 w.heap.size none A n l]) (allF_cons hl.old allF_nil) (allL_cons SlOld.lasts allL_nil)) ?_
 refine sr_ ?_
 refine wl_box rfl rfl rfl fun g1 => ?_
 refine sg_ rfl (nn_ (sr_ (mv_ rfl (wl_ov (ov_makeFunc rfl rfl) rfl ?_))))
 refine wl_callv rfl cb253 rfl rfl (fun wx hm => (index_extraAt_1_tariff l A n c0 _ k wx (hm.fact 0 rfl).1 hn (hm.blkI 0 rfl))) ?_
 refine sg_ rfl (nn_ ?_)
 refine gw_ret ?_
 refine nx_ret1 rfl rfl fun wx hm => ?_
 exact ⟨rfl, hm.g⟩
theorem extraCost_any (ke : ByteArray) (on dy mo nn : Int) (w : World) (h1 : 0 ≤ (⟨ke, on, dy, mo⟩ : Ex).once ∧ (⟨ke, on, dy, mo⟩ : Ex).once ≤ 1000000) (h2 : 0 ≤ (⟨ke, on, dy, mo⟩ : Ex).day ∧ (⟨ke, on, dy, mo⟩ : Ex).day ≤ 1000000) (h3 : -1 ≤ (⟨ke, on, dy, mo⟩ : Ex).most ∧ (⟨ke, on, dy, mo⟩ : Ex).most ≤ 1000000) (h4 : 0 ≤ nn ∧ nn ≤ 120) :
  Calls Tryz.prog 201 #[.agg #[.string ke, .int .i64 on, .int .i64 dy, .int .i64 mo], .int .i64 nn] w (GotE w (exV ⟨ke, on, dy, mo⟩ nn)) := by
 refine gw_enter ⟨21, w, none, []⟩ Tryz.func201 rfl Tryz.ntmps201 rfl (mem0 (X := []) allF_nil allL_nil) ?_
 refine sr_ ?_
 obtain ⟨⟨a1, a2⟩, a3, a4⟩ := exV_bound (x := ⟨ke, on, dy, mo⟩) h1 h2 h3 h4
 dsimp only at a1 a2
 obtain ⟨h10, h11⟩ := h1
 obtain ⟨h20, h21⟩ := h2
 obtain ⟨h30, h31⟩ := h3
 unfold exV at a3 a4
 dsimp only at a3 a4 h10 h11 h20 h21 h30 h31
 refine wl_box rfl rfl rfl fun g1 => ?_
 refine sg_ rfl (nn_ (sr_ (fd_ fo256_2 rfl rfl (lk_ sc3 0 rfl rfl rfl (mv_ rfl ?_)))))
 refine wl_ov (ov_mul rfl rfl (by omega) (by omega)) rfl ?_
 refine sg_ rfl (nn_ (gw_seq (sr_ (fd_ fo256_3 rfl rfl (lk_ sc3 0 rfl rfl rfl ?_)))))
 refine wl_ov (ov_geq rfl rfl) rfl ?_
 refine nn_ ?_
 refine gw_cond rfl (fun hh => ?_) (fun hh => ?_)
 ·have hm0 : 0 ≤ mo := by simpa using hh
  clear hh
  refine gw_region ?_
  rw [if_pos hm0] at a3 a4
  refine mv_ rfl (fd_ fo256_3 rfl rfl (lk_ sc3 0 rfl rfl rfl ?_))
  refine wl_ov (ov_min rfl rfl) rfl ?_
  refine sg_ rfl (nn_ (sr_ (fd_ fo256_1 rfl rfl (lk_ sc3 0 rfl rfl rfl (mv_ rfl (ad_ rfl rfl (sg_ rfl (nn_ ?_))))))))
  refine gw_ret ?_
  refine nx_ret1 rfl rfl fun wx hm => ?_
  exact ⟨ret_int (by unfold exV; rw [if_pos (show 0 ≤ mo from hm0)]), hm.g⟩
 have hm0 : ¬ (0 ≤ mo) := by simpa using hh
 clear hh
 refine gw_skip (nx_then (sr_ ?_))
 rw [if_neg hm0] at a3 a4
 refine fd_ fo256_1 rfl rfl (lk_ sc3 0 rfl rfl rfl (mv_ rfl (ad_ rfl rfl (sg_ rfl (nn_ ?_)))))
 refine gw_ret ?_
 refine nx_ret1 rfl rfl fun wx hm => ?_
 exact ⟨ret_int (by unfold exV; rw [if_neg (show ¬ 0 ≤ mo from hm0)]), hm.g⟩
theorem extraOf_any (l : List Ex) (A : Option Addr) (n c0 : Nat) (k : ByteArray) (nn : Nat) (w : World) (hl : SlT exEnc 4 256 w A n l) (hn : n ≤ 1000000) (hx0 : extrasE l = 0) (hnn : nn ≤ 120) :
  Calls Tryz.prog 114 #[.slice A n c0, .string k, .int .i64 ((nn : Nat) : Int)] w (fun e w' => e = .returned (.tuple #[.int .i64 (if 0 ≤ ixP (exP k) l 0 then exAt l k ((nn : Nat) : Int) else 0), .bool (decide (0 ≤ ixP (exP k) l 0))]) ∧ w.grownBy w' none) := by
 refine gw_enter ⟨41, w, none, []⟩ Tryz.func114 rfl Tryz.ntmps114 rfl (mem0 (X := [SlOld exEnc 4 256 w.heap.size none A n l]) (allF_cons hl.old allF_nil) (allL_cons SlOld.lasts allL_nil)) ?_
 refine sr_ ?_
 have hlen := hl.len
 refine sg_ rfl (sg_ rfl (nn_ (gw_seq (sr_ (mv_ rfl (wl_ov (ov_len es27 rfl) rfl (mv_ rfl (nn_ (gw_block ?_)))))))))
 refine gw_loop (γ := Nat) (fun (i : Nat) => i ≤ n ∧ ixP (exP k) l 0 = ixP (exP k) (l.drop i) i) (fun (i : Nat) => [(1, .string k), (2, .int .i64 ((nn : Nat) : Int)), (11, .slice A n c0), (12, .int .i64 ((n : Nat) : Int)), (13, .int .i64 ((i : Nat) : Int))]) (fun (i : Nat) => fun _ => True) (fun (i : Nat) => []) (fun (i : Nat) => []) (fun (i : Nat) => [SlOld exEnc 4 256 w.heap.size none A n l]) (fun (i : Nat) => n - i) 0 ⟨Nat.zero_le _, rfl⟩ ⟨rfl, rfl, rfl, rfl, rfl, trivial⟩ (fun _ hm => hm.pick [] [] [0] rfl rfl) ?_
 intro i hinv
 replace hinv : i ≤ n ∧ ixP (exP k) l 0 = ixP (exP k) (l.drop i) i := hinv
 refine sr_ (wl_ov (ov_lss rfl rfl) rfl (nn_ (gw_seq ?_)))
 refine gw_cond rfl (fun hh => ?_) (fun hh => ?_)
 ·have hi : ((i : Nat) : Int) < ((n : Nat) : Int) := by simpa using hh
  clear hh
  refine gw_skip (nx_then (gw_seq (gw_block (sr_ ?_))))
  obtain ⟨b, off, hA, _, _⟩ := hl.get (by omega)
  subst hA
  obtain ⟨x, hx⟩ : ∃ x, l[i]? = some x := ⟨_, List.getElem?_eq_getElem (by omega)⟩
  obtain ⟨ke, on, dy, mo⟩ := x
  have hat := ixP_at (p := exP k) hx
  obtain ⟨_, ⟨e1, e2⟩, ⟨e3, e4⟩, e5, e6⟩ := (extrasE_ok hx0).2 _ (List.mem_of_getElem? hx)
  dsimp only at e1 e2 e3 e4 e5 e6
  refine wl_ov (ov_index (j := i) es27 rfl rfl (by omega)) rfl ?_
  refine wl_ov (ov_elem (vs := [.string ke, .int .i64 on, .int .i64 dy, .int .i64 mo]) rz256 rfl (fun _ hm => (hm.fact 0 rfl).1) hx rfl rfl) rfl ?_
  refine wl_alloc zc256 rfl fun g1 => ?_
  refine wl_stores (cs' := [.string ke, .int .i64 on, .int .i64 dy, .int .i64 mo]) 0 rz256 rfl rfl rfl rfl rfl rfl rfl rfl ?_
  refine nn_ (gw_seq (sr_ (fd_ fo256_0 rfl rfl (lk_ sc9 0 rfl rfl rfl (mv_ rfl (wl_ov (ov_sneq rfl rfl) rfl (nn_ ?_)))))))
  refine gw_cond rfl (fun hh => ?_) (fun hh => ?_)
  ·have hq : (ke.toList == k.toList) = false := by simpa using hh
   clear hh
   refine gw_exit ?_
   refine nx_then_exit ?_
   refine nx_blk_here ?_
   refine nx_then (gw_region ?_)
   have hq : exP k ⟨ke, on, dy, mo⟩ = false := by unfold exP; simpa using hq
   refine ad_ rfl rfl (mv_ rfl (wl_nil ?_))
   exact nx_round (i + 1) ⟨by omega, by rw [hinv.2, hat, if_neg (by rw [hq]; decide)]⟩ (by omega) ⟨rfl, rfl, rfl, rfl, (some_int (by omega)), trivial⟩ (fun _ hm => hm.pick [] [] [0] rfl rfl)
  have hq : (ke.toList == k.toList) = true := by simpa using hh
  clear hh
  refine gw_skip (nx_then (sr_ ?_))
  have hq : exP k ⟨ke, on, dy, mo⟩ = true := by unfold exP; simpa using hq
  have hix : ixP (exP k) l 0 = ((i : Nat) : Int) := by rw [hinv.2, hat, if_pos hq]
  refine sg_ rfl (nn_ (gw_seq (sr_ (mv_ rfl (mv_ rfl (nn_ (gw_block ?_)))))))
  refine gw_loop (γ := Nat × Int) (fun g => g.1 ≤ nn ∧ g.2 = exV ⟨ke, on, dy, mo⟩ ((g.1 : Nat) : Int) - on) (fun g => [(1, .string k), (2, .int .i64 ((nn : Nat) : Int)), (9, .pointer (some ⟨g1, 0, none⟩)), (10, .int .i64 g.2), (11, .slice (some ⟨b, off, none⟩) n c0), (12, .int .i64 ((n : Nat) : Int)), (13, .int .i64 ((i : Nat) : Int)), (21, .int .i64 ((nn : Nat) : Int)), (22, .int .i64 ((g.1 : Nat) : Int))]) (fun g => fun _ => True) (fun g => [(g1, 256, [.string ke, .int .i64 on, .int .i64 dy, .int .i64 mo])]) (fun g => []) (fun g => [SlOld exEnc 4 256 w.heap.size none (some ⟨b, off, none⟩) n l]) (fun g => nn - g.1) (0, 0) ⟨Nat.zero_le _, by unfold exV; dsimp only; split <;> simp <;> omega⟩ ⟨rfl, rfl, rfl, rfl, rfl, rfl, rfl, rfl, rfl, trivial⟩ (fun _ hm => hm.pick [0] [] [0] rfl rfl) ?_
  rintro ⟨j, v⟩ hinv
  replace hinv : j ≤ nn ∧ v = exV ⟨ke, on, dy, mo⟩ ((j : Nat) : Int) - on := hinv
  dsimp only
  refine sr_ ?_
  obtain ⟨hj0, hj1⟩ := hinv
  have hvb := (exV_bound (x := ⟨ke, on, dy, mo⟩) (n := ((j : Nat) : Int)) ⟨e1, e2⟩ ⟨e3, e4⟩ ⟨e5, e6⟩ (by omega)).2
  have hvb0 := hvb.1
  have hvb1 := hvb.2
  refine wl_ov (ov_lss rfl rfl) rfl (nn_ (gw_seq ?_))
  refine gw_cond rfl (fun hh => ?_) (fun hh => ?_)
  ·have hj : ((j : Nat) : Int) < ((nn : Nat) : Int) := by simpa using hh
   clear hh
   refine gw_skip (nx_then (gw_seq (gw_block (sr_ (mv_ rfl (fd_ fo256_2 rfl rfl (lk_ sc3 0 rfl rfl rfl (ad_ rfl rfl (sg_ rfl (nn_ (gw_seq ?_)))))))))))
   refine gw_region (fd_ fo256_3 rfl rfl (lk_ sc3 0 rfl rfl rfl ?_))
   refine wl_ov (ov_geq rfl rfl) rfl ?_
   refine nn_ ?_
   refine gw_cond rfl (fun hh => ?_) (fun hh => ?_)
   ·have hm0 : 0 ≤ mo := by simpa using hh
    clear hh
    refine gw_region (mv_ rfl (fd_ fo256_3 rfl rfl (lk_ sc3 0 rfl rfl rfl ?_)))
    refine wl_ov (ov_min rfl rfl) rfl ?_
    refine sg_ rfl (wl_nil (nx_blk_nrm (nx_then (gw_region (ad_ rfl rfl (mv_ rfl (wl_nil ?_)))))))
    exact nx_round (j + 1, min (v + dy) mo) ⟨by dsimp only; omega, by dsimp only; rw [hj1, ← exV_step (x := ⟨ke, on, dy, mo⟩) e3 j, if_pos (show 0 ≤ mo from hm0)]⟩ (by dsimp only; omega) ⟨rfl, rfl, rfl, rfl, rfl, rfl, rfl, rfl, (some_int (by omega)), trivial⟩ (fun _ hm => hm.pick [0] [] [0] rfl rfl)
   have hm0 : ¬ (0 ≤ mo) := by simpa using hh
   clear hh
   refine gw_skip (nx_blk_nrm (nx_then (gw_region (ad_ rfl rfl (mv_ rfl (wl_nil ?_))))))
   exact nx_round (j + 1, v + dy) ⟨by dsimp only; omega, by dsimp only; rw [hj1, ← exV_step (x := ⟨ke, on, dy, mo⟩) e3 j, if_neg (show ¬ 0 ≤ mo from hm0)]⟩ (by dsimp only; omega) ⟨rfl, rfl, rfl, rfl, rfl, rfl, rfl, rfl, (some_int (by omega)), trivial⟩ (fun _ hm => hm.pick [0] [] [0] rfl rfl)
  have hj : ¬ (((j : Nat) : Int) < ((nn : Nat) : Int)) := by simpa using hh
  clear hh
  refine gw_exit ?_
  refine nx_then_exit (nx_then_exit ?_)
  refine nx_blk_here ?_
  refine nx_then (sr_ (fd_ fo256_1 rfl rfl (lk_ sc3 0 rfl rfl rfl (mv_ rfl (ad_ rfl rfl (sg_ rfl (sg_ rfl (nn_ ?_))))))))
  refine gw_ret ?_
  refine nx_blk_ret (nx_then_ret (nx_then_ret (nx_blk_ret (nx_then_ret ?_))))
  refine nx_ret2 rfl rfl rfl fun wx hm => ?_
  have hjn : j = nn := by omega
  subst hjn
  have hv : exAt l k ((j : Nat) : Int) = exV ⟨ke, on, dy, mo⟩ ((j : Nat) : Int) := by unfold exAt; rw [hix, Int.toNat_natCast, hx]
  refine ⟨?_, hm.g⟩
  rw [hix, decide_eq_true (show 0 ≤ ((i : Nat) : Int) by omega), if_pos (show 0 ≤ ((i : Nat) : Int) by omega), hv, hj1, show on + (exV ⟨ke, on, dy, mo⟩ ((j : Nat) : Int) - on) = exV ⟨ke, on, dy, mo⟩ ((j : Nat) : Int) by omega]
 have hi : ¬ (((i : Nat) : Int) < ((n : Nat) : Int)) := by simpa using hh
 clear hh
 refine gw_exit ?_
 refine nx_then_exit (nx_then_exit ?_)
 refine nx_blk_here ?_
 refine nx_then (sr_ (sg_ rfl (sg_ rfl (nn_ ?_))))
 refine gw_ret ?_
 refine nx_ret2 rfl rfl rfl fun wx hm => ?_
 have hix : ixP (exP k) l 0 = -1 := by rw [hinv.2, List.drop_eq_nil_of_le (by omega)]; rfl
 exact ⟨by rw [hix]; rfl, hm.g⟩
theorem ex_two {a b : Ex} {q : Nat} (ha : a.key.size ≤ 1000000) (hb : b.key.size ≤ 1000000) : ∀ x ∈ [a, b].take q, ExOk x := fun x hx => by
  have h := List.mem_of_mem_take hx
  rcases List.mem_cons.1 h with rfl | h
  · exact ha
  · rw [List.mem_singleton.1 h]; exact hb
theorem gextras_any (w : World) (B sb m : Nat) (hS : Strm 25 w B sb m) (hm : m ≤ 100000000000) :
  Calls Tryz.prog 89 #[.pointer (some ⟨sb, 0, none⟩)] w (fun e w' => ∃ (A : Option Addr) (n c : Nat) (l : List Ex), e = .returned (.slice A n c) ∧ SlT exEnc 4 256 w' A n l ∧ (∀ x ∈ l, ExOk x) ∧ n ≤ 2 ∧ n ≤ c ∧ Strm 25 w' B sb (m + 30) ∧ w.grownBy w' (some sb)) := by
 refine gw_enter ⟨42, w, (some sb), []⟩ Tryz.func89 rfl Tryz.ntmps89 rfl (memS (X := []) hS allF_nil allL_nil) ?_
 refine sr_ (sg_ rfl (nn_ (sr_ (mv_ rfl ?_))))
 refine wl_buildSlice (e := 3) (cs := [.int .i64 0, .int .i64 5, .int .i64 100]) rfl (by kernel_rfl) rfl fun g1 => ?_
 refine wl_got (γ := Int) (val := fun v => .int .i64 v) (φ := fun v => v ∈ ([0, 5, 100] : List Int)) rfl cb24 rfl rfl rfl rfl (fun wx hm => (pick_any [0, 5, 100] _ _ _ wx B sb _ hm.k (by omega) (by simp) (by simp) (hm.blkI 0 rfl) (hm.neRow 0 rfl rfl))) fun v2 hv2 => ?_
 have bv2 : 0 ≤ v2 ∧ v2 ≤ 100 := mem_rng hv2 (by decide)
 have bv20 := bv2.1
 have bv21 := bv2.2
 clear bv2
 refine mv_ rfl ?_
 refine wl_buildSlice (e := 3) (cs := [.int .i64 0, .int .i64 2]) rfl (by kernel_rfl) rfl fun g3 => ?_
 refine wl_got (γ := Int) (val := fun v => .int .i64 v) (φ := fun v => v ∈ ([0, 2] : List Int)) rfl cb24 rfl rfl rfl rfl (fun wx hm => (pick_any [0, 2] _ _ _ wx B sb _ hm.k (by omega) (by simp) (by simp) (hm.blkI 0 rfl) (hm.neRow 0 rfl rfl))) fun v4 hv4 => ?_
 have bv4 : 0 ≤ v4 ∧ v4 ≤ 2 := mem_rng hv4 (by decide)
 have bv40 := bv4.1
 have bv41 := bv4.2
 clear bv4
 refine mv_ rfl ?_
 refine wl_buildSlice (e := 3) (cs := [.int .i64 (-1), .int .i64 0, .int .i64 7]) rfl (by kernel_rfl) rfl fun g5 => ?_
 refine wl_got (γ := Int) (val := fun v => .int .i64 v) (φ := fun v => v ∈ ([-1, 0, 7] : List Int)) rfl cb24 rfl rfl rfl rfl (fun wx hm => (pick_any [-1, 0, 7] _ _ _ wx B sb _ hm.k (by omega) (by simp) (by simp) (hm.blkI 0 rfl) (hm.neRow 0 rfl rfl))) fun v6 hv6 => ?_
 have bv6 : -1 ≤ v6 ∧ v6 ≤ 7 := mem_rng hv6 (by decide)
 have bv60 := bv6.1
 have bv61 := bv6.2
 clear bv6
 refine wl_ov (ov_build (cs := [.string ⟨#[109, 97, 112]⟩, .int .i64 v2, .int .i64 v4, .int .i64 v6]) rfl (by kernel_rfl)) rfl ?_
 refine mv_ rfl ?_
 refine wl_buildSlice (e := 3) (cs := [.int .i64 0, .int .i64 10]) rfl (by kernel_rfl) rfl fun g7 => ?_
 refine wl_got (γ := Int) (val := fun v => .int .i64 v) (φ := fun v => v ∈ ([0, 10] : List Int)) rfl cb24 rfl rfl rfl rfl (fun wx hm => (pick_any [0, 10] _ _ _ wx B sb _ hm.k (by omega) (by simp) (by simp) (hm.blkI 0 rfl) (hm.neRow 0 rfl rfl))) fun v8 hv8 => ?_
 have bv8 : 0 ≤ v8 ∧ v8 ≤ 10 := mem_rng hv8 (by decide)
 have bv80 := bv8.1
 have bv81 := bv8.2
 clear bv8
 refine mv_ rfl ?_
 refine wl_buildSlice (e := 3) (cs := [.int .i64 0, .int .i64 3, .int .i64 50]) rfl (by kernel_rfl) rfl fun g9 => ?_
 refine wl_got (γ := Int) (val := fun v => .int .i64 v) (φ := fun v => v ∈ ([0, 3, 50] : List Int)) rfl cb24 rfl rfl rfl rfl (fun wx hm => (pick_any [0, 3, 50] _ _ _ wx B sb _ hm.k (by omega) (by simp) (by simp) (hm.blkI 0 rfl) (hm.neRow 0 rfl rfl))) fun v10 hv10 => ?_
 have bv10 : 0 ≤ v10 ∧ v10 ≤ 50 := mem_rng hv10 (by decide)
 have bv100 := bv10.1
 have bv101 := bv10.2
 clear bv10
 refine mv_ rfl ?_
 refine wl_buildSlice (e := 3) (cs := [.int .i64 (-1), .int .i64 (-1), .int .i64 20, .int .i64 1000]) rfl (by kernel_rfl) rfl fun g11 => ?_
 refine wl_got (γ := Int) (val := fun v => .int .i64 v) (φ := fun v => v ∈ ([-1, -1, 20, 1000] : List Int)) rfl cb24 rfl rfl rfl rfl (fun wx hm => (pick_any [-1, -1, 20, 1000] _ _ _ wx B sb _ hm.k (by omega) (by simp) (by simp) (hm.blkI 0 rfl) (hm.neRow 0 rfl rfl))) fun v12 hv12 => ?_
 have bv12 : -1 ≤ v12 ∧ v12 ≤ 1000 := mem_rng hv12 (by decide)
 have bv120 := bv12.1
 have bv121 := bv12.2
 clear bv12
 refine wl_ov (ov_build (cs := [.string ⟨#[115, 101, 97, 116]⟩, .int .i64 v8, .int .i64 v10, .int .i64 v12]) rfl (by kernel_rfl)) rfl ?_
 refine wl_buildSlice (e := 256) (cs := [.string ⟨#[109, 97, 112]⟩, .int .i64 v2, .int .i64 v4, .int .i64 v6, .string ⟨#[115, 101, 97, 116]⟩, .int .i64 v8, .int .i64 v10, .int .i64 v12]) rfl (by kernel_rfl) rfl fun g13 => ?_
 refine sg_ rfl (nn_ (gw_seq (sr_ (mv_ rfl ?_))))
 refine wl_got (γ := Bool) (val := fun v => .bool v) (φ := fun v => True) rfl cb70 rfl rfl rfl rfl (fun wx hm => ((flip_any _ wx B sb _ hm.k (by omega) (by omega) (by omega)).mono fun _ _ ⟨v, he, hS, hg⟩ => ⟨v, trivial, he, hS, hg⟩)) fun f14 _ => ?_
 refine nn_ ?_
 refine gw_cond rfl (fun hh => ?_) (fun hh => ?_)
 ·have hf : f14 = true := by simpa using hh
  clear hh
  refine gw_region (mv_ rfl (mv_ rfl ?_))
  refine wl_buildSlice (e := 9) (cs := [.string ⟨#[]⟩, .string ⟨#[65]⟩, .string ⟨#[109, 97, 112]⟩, .string ⟨#[115, 101, 97, 116]⟩]) rfl (by kernel_rfl) rfl fun g15 => ?_
  refine wl_got (γ := ByteArray) (val := fun v => .string v) (φ := fun v => v ∈ ([⟨#[]⟩, ⟨#[65]⟩, ⟨#[109, 97, 112]⟩, ⟨#[115, 101, 97, 116]⟩] : List ByteArray)) rfl cb60 rfl rfl rfl rfl (fun wx hm => (some_any [⟨#[]⟩, ⟨#[65]⟩, ⟨#[109, 97, 112]⟩, ⟨#[115, 101, 97, 116]⟩] _ _ _ wx B sb _ hm.k (by omega) (by simp) (by simp) (hm.blkI 0 rfl) (hm.neRow 0 rfl rfl))) fun s16 hs16 => ?_
  have zs16 : s16.size ≤ 100 := mem_sz hs16 (by decide)
  refine mv_ rfl ?_
  refine wl_got (γ := Int) (val := fun v => .int .i64 v) (φ := fun v => -2000000000000000 ≤ v ∧ v ≤ 2000000000000000) rfl cb119 rfl rfl rfl rfl (fun wx hm => (odd_any _ _ wx B sb _ hm.k (by omega) (by omega) (by omega) (by omega))) fun v17 hv17 => ?_
  refine mv_ rfl ?_
  refine wl_got (γ := Int) (val := fun v => .int .i64 v) (φ := fun v => -2000000000000000 ≤ v ∧ v ≤ 2000000000000000) rfl cb119 rfl rfl rfl rfl (fun wx hm => (odd_any _ _ wx B sb _ hm.k (by omega) (by omega) (by omega) (by omega))) fun v18 hv18 => ?_
  refine wl_ov (ov_build (cs := [.string s16, .int .i64 v17, .int .i64 0, .int .i64 v18]) rfl (by kernel_rfl)) rfl ?_
  refine wl_ov (ov_index (j := 1) es27 rfl rfl (by decide)) rfl ?_
  refine wl_stores (cs' := [.string ⟨#[109, 97, 112]⟩, .int .i64 v2, .int .i64 v4, .int .i64 v6, .string s16, .int .i64 v17, .int .i64 0, .int .i64 v18]) 1 rz256 rfl rfl rfl rfl rfl rfl rfl rfl ?_
  refine nn_ (sr_ (mv_ rfl (mv_ rfl ?_)))
  refine wl_buildSlice (e := 3) (cs := [.int .i64 0, .int .i64 1, .int .i64 2, .int .i64 2]) rfl (by kernel_rfl) rfl fun g19 => ?_
  refine wl_got (γ := Int) (val := fun v => .int .i64 v) (φ := fun v => v ∈ ([0, 1, 2, 2] : List Int)) rfl cb24 rfl rfl rfl rfl (fun wx hm => (pick_any [0, 1, 2, 2] _ _ _ wx B sb _ hm.k (by omega) (by simp) (by simp) (hm.blkI 0 rfl) (hm.neRow 0 rfl rfl))) fun vp hvp => ?_
  have bvp : 0 ≤ vp ∧ vp ≤ 2 := mem_rng hvp (by decide)
  have bvp0 := bvp.1
  have bvp1 := bvp.2
  clear bvp
  obtain ⟨q, rfl⟩ := Int.eq_ofNat_of_zero_le bvp0
  have hq2 : q ≤ 2 := by omega
  refine wl_ov (ov_sliceHi (hi := q) es27 rfl rfl rfl (by omega)) rfl ?_
  refine sg_ rfl (nn_ ?_)
  refine gw_ret ?_
  refine nx_ret1 rfl rfl fun wx hm => ?_
  have hS := SlT.ofBlk (l := ([⟨⟨#[109, 97, 112]⟩, v2, v4, v6⟩, ⟨s16, v17, 0, v18⟩] : List Ex)) ex_len (hm.blkI 2 rfl)
  exact ⟨_, q, 2, ([⟨⟨#[109, 97, 112]⟩, v2, v4, v6⟩, ⟨s16, v17, 0, v18⟩] : List Ex).take q, rfl, hS.takeT hq2, ex_two (show (⟨#[109, 97, 112]⟩ : ByteArray).size ≤ 1000000 by decide) (show (s16 : ByteArray).size ≤ 1000000 by omega), hq2, hq2, hm.k.more (by omega), hm.g⟩
 have hf : f14 = false := by simpa using hh
 clear hh
 refine gw_skip (nx_then (sr_ (mv_ rfl (mv_ rfl ?_))))
 refine wl_buildSlice (e := 3) (cs := [.int .i64 0, .int .i64 1, .int .i64 2, .int .i64 2]) rfl (by kernel_rfl) rfl fun g20 => ?_
 refine wl_got (γ := Int) (val := fun v => .int .i64 v) (φ := fun v => v ∈ ([0, 1, 2, 2] : List Int)) rfl cb24 rfl rfl rfl rfl (fun wx hm => (pick_any [0, 1, 2, 2] _ _ _ wx B sb _ hm.k (by omega) (by simp) (by simp) (hm.blkI 0 rfl) (hm.neRow 0 rfl rfl))) fun vp hvp => ?_
 have bvp : 0 ≤ vp ∧ vp ≤ 2 := mem_rng hvp (by decide)
 have bvp0 := bvp.1
 have bvp1 := bvp.2
 clear bvp
 obtain ⟨q, rfl⟩ := Int.eq_ofNat_of_zero_le bvp0
 have hq2 : q ≤ 2 := by omega
 refine wl_ov (ov_sliceHi (hi := q) es27 rfl rfl rfl (by omega)) rfl ?_
 refine sg_ rfl (nn_ ?_)
 refine gw_ret ?_
 refine nx_ret1 rfl rfl fun wx hm => ?_
 have hS := SlT.ofBlk (l := ([⟨⟨#[109, 97, 112]⟩, v2, v4, v6⟩, ⟨⟨#[115, 101, 97, 116]⟩, v8, v10, v12⟩] : List Ex)) ex_len (hm.blkI 1 rfl)
 exact ⟨_, q, 2, ([⟨⟨#[109, 97, 112]⟩, v2, v4, v6⟩, ⟨⟨#[115, 101, 97, 116]⟩, v8, v10, v12⟩] : List Ex).take q, rfl, hS.takeT hq2, ex_two (show (⟨#[109, 97, 112]⟩ : ByteArray).size ≤ 1000000 by decide) (show (⟨#[115, 101, 97, 116]⟩ : ByteArray).size ≤ 1000000 by decide), hq2, hq2, hm.k.more (by omega), hm.g⟩
end Go.Proofs.YtnmpniaocjmkfaaGreatDoor
namespace Go.Proofs.YtnmpniaocjmkfaaGreatDoor
open Go.RowKit
structure Fe where
  a : ByteArray
  b : ByteArray
  cents : Int
def feEnc (x : Fe) : List Value := [.string x.a, .string x.b, .int .i64 x.cents]
theorem fee_len (x : Fe) : (feEnc x).length = 3 := rfl
def FeOk (x : Fe) : Prop := x.a.size ≤ 1000000 ∧ x.b.size ≤ 1000000
def feLt (q r : Fe) : Bool := ltS q.a r.a || (eqS q.a r.a && ltS q.b r.b)
def leFe (p : Option Fe) (x : Fe) : Bool := match p with
  | none => false
  | some q => !feLt q x
def feeE (p : Option Fe) (x : Fe) : Int :=
  if keyB x.a = false then 5 else if keyB x.b = false then 5 else if (x.a.toList == x.b.toList) = true then 14 else
  if leFe p x = true then 7 else if inB x.cents 0 1000000 = false then 1 else 0
def feesE (l : List Fe) : Int := if 500 < l.length then 2 else scanE feeE none l
theorem feesE_ok {l : List Fe} (h : feesE l = 0) : l.length ≤ 500 ∧ ∀ x ∈ l, (x.a.toList == x.b.toList) = false ∧ 0 ≤ x.cents ∧ x.cents ≤ 1000000 := by
  unfold feesE at h
  split at h
  · cases h
  · refine ⟨by omega, fun x hx => ?_⟩
    obtain ⟨q, hq⟩ := scan_each h x hx
    unfold feeE at hq
    repeat (split at hq; · cases hq)
    rename_i h1 h2 h3 h4 h5
    exact ⟨by simpa using h3, inB_iff.1 (by simpa using h5)⟩
theorem cmpS_lt {a b : ByteArray} : (0 ≤ cmpS a b) ↔ ltS a b = false := by
  unfold cmpS ltS
  cases h : Go.Op.bytesLess a.toList b.toList
  · by_cases e : (a.toList == b.toList) = true
    · rw [e]; simp
    · have e : (a.toList == b.toList) = false := by simpa using e
      rw [e]; simp
  · simp
theorem or_fe (q r : Fe) : 0 ≤ firstE [cmpS q.a r.a, cmpS q.b r.b] ↔ feLt q r = false := by
  unfold feLt eqS
  rw [firstE_pair]
  by_cases h : cmpS q.a r.a = 0
  · rw [if_pos h]
    obtain ⟨h1, h2⟩ := cmpS_zero.1 h
    rw [cmpS_lt, h2]
    unfold ltS
    rw [h2, bl_irrefl]; simp
  · rw [if_neg h, cmpS_lt]
    have hne : (q.a.toList == r.a.toList) = false ∨ ltS q.a r.a = true := by
      cases h1 : ltS q.a r.a
      · left
        cases h2 : (q.a.toList == r.a.toList)
        · rfl
        · exact absurd (cmpS_zero.2 ⟨h1, by simpa using h2⟩) h
      · exact .inr rfl
    rcases hne with h1 | h1
    · rw [h1]; simp
    · rw [h1]; simp
theorem lt_fe (q r : Fe) : (Go.Op.bytesLess r.a.toList q.a.toList || (r.a.toList == q.a.toList && (Go.Op.bytesLess r.b.toList q.b.toList || r.b.toList == q.b.toList))) = !feLt q r := by
  have key : ∀ x y : ByteArray, (Go.Op.bytesLess x.toList y.toList || x.toList == y.toList) = !ltS y x := fun x y => by
    unfold ltS
    cases h1 : Go.Op.bytesLess x.toList y.toList
    · cases h2 : Go.Op.bytesLess y.toList x.toList
      · rw [bl_tri h1 h2]; simp
      · have e := bl_ne h2
        have e2 : (x.toList == y.toList) = false := by simpa using fun h => e h.symm
        rw [e2]; rfl
    · rw [bl_asymm h1]; rfl
  unfold feLt eqS
  rw [key r.b q.b]
  unfold ltS
  cases h1 : Go.Op.bytesLess r.a.toList q.a.toList
  · cases h2 : Go.Op.bytesLess q.a.toList r.a.toList
    · rw [bl_tri h1 h2]; simp
    · have e := bl_ne h2
      have e2 : (r.a.toList == q.a.toList) = false := by simpa using fun h => e h.symm
      rw [e2]; simp
  · have e := bl_ne h1
    have e2 : (q.a.toList == r.a.toList) = false := by simpa using fun h => e h.symm
    rw [bl_asymm h1, e2]; simp
theorem ar257 : arrSz Tryz.prog 257 = some (2, 1) := by kernel_rfl
theorem checkFees_any (l : List Fe) (A : Option Addr) (n c : Nat) (w : World) (hl : SlT feEnc 3 260 w A n l) (hok : ∀ b ∈ l, FeOk b) (hn : n ≤ 1000000) :
  Calls Tryz.prog 105 #[.slice A n c] w (GotE w (feesE l)) := by
 refine gw_enter ⟨64, w, none, []⟩ Tryz.func105 rfl Tryz.ntmps105 rfl (mem0 (X := [SlOld feEnc 3 260 w.heap.size none A n l]) (allF_cons hl.old allF_nil) (allL_cons SlOld.lasts allL_nil)) ?_
 refine sr_ ?_
 have hlen := hl.len
 refine sg_ rfl (nn_ (gw_seq (sr_ (mv_ rfl (wl_ov (ov_len es28 rfl) rfl ?_)))))
 refine wl_ov (ov_gtr rfl rfl) rfl ?_
 refine nn_ ?_
 refine gw_cond rfl (fun hh => ?_) (fun hh => ?_)
 ·have h1 : 500 < ((n : Nat) : Int) := by simpa using hh
  clear hh
  refine sr_ (sg_ rfl (nn_ ?_))
  refine gw_ret ?_
  refine nx_then_ret ?_
  refine nx_ret1 rfl rfl fun wx hm => ?_
  exact ⟨ret_int (by unfold feesE; rw [if_pos (by omega)]), hm.g⟩
 have h1 : ¬ (500 < ((n : Nat) : Int)) := by simpa using hh
 clear hh
 refine gw_skip (nx_then (gw_seq (sr_ (mv_ rfl (wl_ov (ov_len es28 rfl) rfl (mv_ rfl (nn_ (gw_block ?_))))))))
 refine gw_loop (γ := Nat) (fun (k : Nat) => k ≤ n ∧ feesE l = scanE feeE (prevOf l k) (l.drop k)) (fun (k : Nat) => [(0, .slice A n c), (8, .slice A n c), (9, .int .i64 ((n : Nat) : Int)), (10, .int .i64 ((k : Nat) : Int))]) (fun (k : Nat) => fun _ => True) (fun (k : Nat) => []) (fun (k : Nat) => []) (fun (k : Nat) => [SlOld feEnc 3 260 w.heap.size none A n l]) (fun (k : Nat) => n - k) 0 ⟨Nat.zero_le _, by unfold feesE; rw [if_neg (by omega)]; rfl⟩ ⟨rfl, rfl, rfl, rfl, trivial⟩ (fun _ hm => hm.pick [] [] [0] rfl rfl) ?_
 intro k hinv
 replace hinv : k ≤ n ∧ feesE l = scanE feeE (prevOf l k) (l.drop k) := hinv
 refine sr_ (wl_ov (ov_lss rfl rfl) rfl (nn_ (gw_seq ?_)))
 refine gw_cond rfl (fun hh => ?_) (fun hh => ?_)
 ·have hk : ((k : Nat) : Int) < ((n : Nat) : Int) := by simpa using hh
  clear hh
  refine gw_skip (nx_then (gw_seq (gw_block (sr_ ?_))))
  obtain ⟨b, off, hA, _, _⟩ := hl.get (by omega)
  subst hA
  obtain ⟨x, hx⟩ : ∃ x, l[k]? = some x := ⟨_, List.getElem?_eq_getElem (by omega)⟩
  obtain ⟨ka, kb, ce⟩ := x
  have hat := scanE_at feeE l k _ hx
  obtain ⟨hs1, hs2⟩ := hok _ (List.mem_of_getElem? hx)
  have hs1 : ka.size ≤ 1000000 := hs1
  have hs2 : kb.size ≤ 1000000 := hs2
  refine mv_ rfl ?_
  refine wl_ov (ov_index (j := k) es28 rfl rfl (by omega)) rfl ?_
  refine wl_ov (ov_elem (vs := [.string ka, .string kb, .int .i64 ce]) rz260 rfl (fun _ hm => (hm.fact 0 rfl).1) hx rfl rfl) rfl ?_
  refine wl_alloc zc260 rfl fun g1 => ?_
  refine sg_ rfl ?_
  refine wl_stores (cs' := [.string ka, .string kb, .int .i64 ce]) 0 rz260 rfl rfl rfl rfl rfl rfl rfl rfl ?_
  refine nn_ (gw_block (sr_ (fd_ fo260_0 rfl rfl (lk_ sc9 0 rfl rfl rfl ?_))))
  refine wl_callw rfl cb137 rfl rfl (fun wx hm => (isKey_any _ wx (by omega))) ?_
  refine wl_ov (ov_un_not rfl) rfl (mv_ rfl ?_)
  rcases Bool.eq_false_or_eq_true (!(keyB ka)) with h2 | h2
  ·refine wl_set 20 rfl (congrArg Value.bool h2) ?_
   have h2 : keyB ka = false := by simpa using h2
   refine goff rfl rfl rfl (goff rfl rfl rfl (goff rfl rfl rfl (goff rfl rfl rfl (pt_ rfl rfl (sg_ rfl (nn_ (ct_ rfl (sr_ (sg_ rfl (nn_ ?_))))))))))
   refine gw_ret ?_
   refine nx_blk_ret (nx_blk_ret (nx_then_ret (nx_then_ret (nx_blk_ret (nx_then_ret ?_)))))
   have hE : feeE (prevOf l k) ⟨ka, kb, ce⟩ = 5 := by unfold feeE leFe; simp [h2]
   refine nx_ret1 rfl rfl fun wx hm => ?_
   exact ⟨ret_int (by rw [hinv.2, hat, if_neg (by rw [hE]; decide), hE]), hm.g⟩
  refine wl_set 20 rfl (congrArg Value.bool h2) ?_
  have h2 : keyB ka = true := by simpa using h2
  refine wl_guard_on rfl rfl rfl (fd_ fo260_1 rfl rfl (wl_guard_on rfl rfl rfl (lk_ sc9 0 rfl rfl rfl (wl_guard_on rfl rfl rfl ?_))))
  refine wl_callw rfl cb137 rfl rfl (fun wx hm => (isKey_any _ wx (by omega))) ?_
  refine wl_guard_on rfl rfl rfl (wl_ov (ov_un_not rfl) rfl (pf_ rfl rfl (sg_ rfl (nn_ ?_))))
  refine gw_cond rfl (fun hh => ?_) (fun hh => ?_)
  ·have h3 : (keyB kb) = false := by simpa using hh
   clear hh
   refine sr_ ?_
   have h3 : keyB kb = false := by simpa using h3
   refine sg_ rfl (nn_ ?_)
   refine gw_ret ?_
   refine nx_blk_ret (nx_blk_ret (nx_then_ret (nx_then_ret (nx_blk_ret (nx_then_ret ?_)))))
   have hE : feeE (prevOf l k) ⟨ka, kb, ce⟩ = 5 := by unfold feeE leFe; simp [h2, h3]
   refine nx_ret1 rfl rfl fun wx hm => ?_
   exact ⟨ret_int (by rw [hinv.2, hat, if_neg (by rw [hE]; decide), hE]), hm.g⟩
  have h3 : (keyB kb) = true := by simpa using hh
  clear hh
  refine sr_ ?_
  have h3 : keyB kb = true := by simpa using h3
  refine fd_ fo260_0 rfl rfl (lk_ sc9 0 rfl rfl rfl (fd_ fo260_1 rfl rfl (lk_ sc9 0 rfl rfl rfl (wl_ov (ov_seql rfl rfl) rfl (sg_ rfl (nn_ ?_))))))
  refine gw_cond rfl (fun hh => ?_) (fun hh => ?_)
  ·have h4 : (ka.toList == kb.toList) = true := by simpa using hh
   clear hh
   refine sr_ (sg_ rfl (nn_ ?_))
   refine gw_ret ?_
   refine nx_blk_ret (nx_blk_ret (nx_then_ret (nx_then_ret (nx_blk_ret (nx_then_ret ?_)))))
   have hE : feeE (prevOf l k) ⟨ka, kb, ce⟩ = 14 := by unfold feeE leFe; simp [h2, h3, (beq_iff_eq.1 h4)]
   refine nx_ret1 rfl rfl fun wx hm => ?_
   exact ⟨ret_int (by rw [hinv.2, hat, if_neg (by rw [hE]; decide), hE]), hm.g⟩
  have h4 : (ka.toList == kb.toList) = false := by simpa using hh
  clear hh
  refine gw_seq ?_
  have h4 : ¬ ka.toList = kb.toList := by simpa using h4
  by_cases hk0 : k = 0
  ·refine gd (fun wz => Blk wz g1 260 [.string ka, .string kb, .int .i64 ce] ∧ (SlOld feEnc 3 260 w.heap.size none (some ⟨b, off, none⟩) n l) wz ∧ True) mixed (fun _ hm => ⟨hm.bl 0, hm.fa 0, trivial⟩) fun z => ?_
   refine wt 0 26 1 rfl z (ov_move rfl) ?_
   refine wt 1 26 3 rfl z (ov_gtr rfl rfl) ?_
   refine wa_set 34 (v' := .bool false) rfl (congrArg Value.bool (decide_eq_false (by omega))) ?_
   refine wt 2 26 7 rfl z (ov_move rfl) ?_
   refine wtf 3 26 15 rfl rfl rfl z ?_
   refine wtf 4 26 31 rfl rfl rfl z ?_
   refine wtf 5 26 63 rfl rfl rfl z ?_
   refine wtf 6 26 127 rfl rfl rfl z ?_
   refine wtf 7 26 255 rfl rfl rfl z ?_
   refine wtf 8 26 511 rfl rfl rfl z ?_
   refine wtf 9 26 1023 rfl rfl rfl z ?_
   refine wtf 10 26 2047 rfl rfl rfl z ?_
   refine wtf 11 26 4095 rfl rfl rfl z ?_
   refine wtf 12 26 8191 rfl rfl rfl z ?_
   refine wtf 13 26 16383 rfl rfl rfl z ?_
   refine wtf 14 26 32767 rfl rfl rfl z ?_
   refine wtf 15 26 65535 rfl rfl rfl z ?_
   refine wtf 16 26 131071 rfl rfl rfl z ?_
   refine wtf 17 26 262143 rfl rfl rfl z ?_
   refine wtf 18 26 524287 rfl rfl rfl z ?_
   refine wtf 19 26 1048575 rfl rfl rfl z ?_
   refine wtf 20 26 2097151 rfl rfl rfl z ?_
   refine wtf 21 26 4194303 rfl rfl rfl z ?_
   refine wtf 22 26 8388607 rfl rfl rfl z ?_
   refine wtf 23 26 16777215 rfl rfl rfl z ?_
   refine wt 24 26 33554431 rfl z (ov_pick_f rfl rfl) ?_
   refine wt 25 26 67108863 rfl z (ov_assign rfl) ?_
   refine wa_done (by kernel_rfl) ?_
   refine nx_then (cf_ rfl (sr_ (fd_ fo260_2 rfl rfl (lk_ sc3 0 rfl rfl rfl ?_))))
   refine wl_callw rfl cb175 rfl rfl (fun wx hm => (in_any _ _ _ wx)) ?_
   refine wl_ov (ov_un_not rfl) rfl (sg_ rfl (nn_ ?_))
   refine gw_cond rfl (fun hh => ?_) (fun hh => ?_)
   ·have h9 : (inB ce 0 1000000) = false := by simpa using hh
    clear hh
    refine sr_ (sg_ rfl (nn_ ?_))
    refine gw_ret ?_
    refine nx_blk_ret (nx_blk_ret (nx_then_ret (nx_then_ret (nx_blk_ret (nx_then_ret ?_)))))
    have hE : feeE (prevOf l k) ⟨ka, kb, ce⟩ = 1 := by unfold feeE leFe; rw [pv_zero hk0]; simp [h2, h3, h4, h9]
    refine nx_ret1 rfl rfl fun wx hm => ?_
    exact ⟨ret_int (by rw [hinv.2, hat, if_neg (by rw [hE]; decide), hE]), hm.g⟩
   have h9 : (inB ce 0 1000000) = true := by simpa using hh
   clear hh
   refine gw_skip (nx_blk_nrm (nx_blk_nrm (nx_then (gw_region ?_))))
   have hE : feeE (prevOf l k) ⟨ka, kb, ce⟩ = 0 := by unfold feeE leFe; rw [pv_zero hk0]; simp [h2, h3, h4, h9]
   refine ad_ rfl rfl (mv_ rfl (wl_nil ?_))
   exact nx_round (k + 1) ⟨by omega, by rw [hinv.2, hat, if_pos hE]⟩ (by omega) ⟨rfl, rfl, rfl, (some_int (by omega)), trivial⟩ (fun _ hm => hm.pick [] [] [0] rfl rfl)
  obtain ⟨y, hy⟩ : ∃ x, l[k - 1]? = some x := ⟨_, List.getElem?_eq_getElem (by omega)⟩
  obtain ⟨p0, p1, p2⟩ := y
  have hpv := pv_pos hk0 hy
  refine gd (fun wz => Blk wz g1 260 [.string ka, .string kb, .int .i64 ce] ∧ (SlOld feEnc 3 260 w.heap.size none (some ⟨b, off, none⟩) n l) wz ∧ True) mixed (fun _ hm => ⟨hm.bl 0, hm.fa 0, trivial⟩) fun z => ?_
  refine wt 0 26 1 rfl z (ov_move rfl) ?_
  refine wt 1 26 3 rfl z (ov_gtr rfl rfl) ?_
  refine wa_set 34 (v' := .bool true) rfl (congrArg Value.bool (decide_eq_true (by omega))) ?_
  refine wt 2 26 7 rfl z (ov_move rfl) ?_
  refine wto 3 26 15 rfl rfl rfl z (ov_move rfl) ?_
  refine wto 4 26 31 rfl rfl rfl z (ov_move rfl) ?_
  refine wto 5 26 63 rfl rfl rfl z (ov_sub rfl rfl (by omega) (by omega)) ?_
  refine wa_set 38 (v' := .int .i64 ((k - 1 : Nat) : Int)) rfl (congrArg (Value.int .i64) (by omega)) ?_
  refine wto 6 26 127 rfl rfl rfl z (ov_index (j := k - 1) es28 rfl rfl (by omega)) ?_
  refine wto 7 26 255 rfl rfl rfl z (ov_field fo260_0 rfl rfl) ?_
  refine wto 8 26 511 rfl rfl rfl z (ov_elem1 (k := 0) (v := .string p0) sc9 rfl (fun _ hm => (hm.2.1).1) hy rfl rfl) ?_
  refine wto 9 26 1023 rfl rfl rfl z (ov_field fo260_0 rfl rfl) ?_
  refine wto 10 26 2047 rfl rfl rfl z (ov_load sc9 rfl (fun _ hm => hm.1) rfl) ?_
  refine wto 12 26 6143 rfl rfl rfl z (ov_move rfl) ?_
  refine wto 13 26 14335 rfl rfl rfl z (ov_move rfl) ?_
  refine wto 14 26 30719 rfl rfl rfl z (ov_sub rfl rfl (by omega) (by omega)) ?_
  refine wa_set 47 (v' := .int .i64 ((k - 1 : Nat) : Int)) rfl (congrArg (Value.int .i64) (by omega)) ?_
  refine wto 15 26 63487 rfl rfl rfl z (ov_index (j := k - 1) es28 rfl rfl (by omega)) ?_
  refine wto 16 26 129023 rfl rfl rfl z (ov_field fo260_1 rfl rfl) ?_
  refine wto 17 26 260095 rfl rfl rfl z (ov_elem1 (k := 1) (v := .string p1) sc9 rfl (fun _ hm => (hm.2.1).1) hy rfl rfl) ?_
  refine wto 18 26 522239 rfl rfl rfl z (ov_field fo260_1 rfl rfl) ?_
  refine wto 19 26 1046527 rfl rfl rfl z (ov_load sc9 rfl (fun _ hm => hm.1) rfl) ?_
  refine wa1 11 rfl ?_
  refine wl_guard_on rfl rfl rfl ?_
  refine wl_callv rfl cb154 rfl rfl (fun wx hm => (cmp_string _ _ wx)) ?_
  refine wl_nil ?_
  refine nw 26 1048575 (fun _ hm => ⟨hm.bl 0, hm.fa 0, trivial⟩) fun z => ?_
  refine wa1 20 rfl ?_
  refine wl_guard_on rfl rfl rfl ?_
  refine wl_callv rfl cb154 rfl rfl (fun wx hm => (cmp_string _ _ wx)) ?_
  refine wl_nil ?_
  refine nw 26 2097151 (fun _ hm => ⟨hm.bl 0, hm.fa 0, trivial⟩) fun z => ?_
  refine wa1 21 rfl ?_
  refine wl_guard_on rfl rfl rfl ?_
  refine wl_buildSlice (e := 3) (cs := [.int .i64 (cmpS p0 ka), .int .i64 (cmpS p1 kb)]) rfl (by kernel_rfl) rfl fun g2 => ?_
  refine wl_nil ?_
  refine nw 26 4194303 (fun _ hm => ⟨hm.bl 1, hm.fa 0, trivial⟩) fun z => ?_
  refine wa1 22 rfl ?_
  refine wl_guard_on rfl rfl rfl ?_
  refine wl_callv rfl cb152 rfl rfl (fun wx hm => (or_two _ _ _ _ _ wx (hm.blkI 0 rfl))) ?_
  refine wl_nil ?_
  refine nw 26 8388607 (fun _ hm => ⟨hm.bl 1, hm.fa 0, trivial⟩) fun z => ?_
  refine wto 23 26 16777215 rfl rfl rfl z (ov_geq rfl rfl) ?_
  refine wt 24 26 33554431 rfl z (ov_pick_t rfl rfl) ?_
  refine wt 25 26 67108863 rfl z (ov_assign rfl) ?_
  refine wa_done (by kernel_rfl) ?_
  refine nx_then ?_
  refine gw_cond rfl (fun hh => ?_) (fun hh => ?_)
  ·have h8 : 0 ≤ firstE [cmpS p0 ka, cmpS p1 kb] := by simpa using hh
   clear hh
   refine sr_ ?_
   have h8 : feLt ⟨p0, p1, p2⟩ ⟨ka, kb, ce⟩ = false := (or_fe ⟨p0, p1, p2⟩ ⟨ka, kb, ce⟩).1 h8
   refine sg_ rfl (nn_ ?_)
   refine gw_ret ?_
   refine nx_blk_ret (nx_blk_ret (nx_then_ret (nx_then_ret (nx_blk_ret (nx_then_ret ?_)))))
   have hE : feeE (prevOf l k) ⟨ka, kb, ce⟩ = 7 := by unfold feeE leFe; rw [hpv]; simp [h2, h3, h4, h8]
   refine nx_ret1 rfl rfl fun wx hm => ?_
   exact ⟨ret_int (by rw [hinv.2, hat, if_neg (by rw [hE]; decide), hE]), hm.g⟩
  have h8 : ¬ (0 ≤ firstE [cmpS p0 ka, cmpS p1 kb]) := by simpa using hh
  clear hh
  refine sr_ ?_
  have h8 : feLt ⟨p0, p1, p2⟩ ⟨ka, kb, ce⟩ = true := by
   cases h : feLt ⟨p0, p1, p2⟩ ⟨ka, kb, ce⟩
   ·exact absurd ((or_fe ⟨p0, p1, p2⟩ ⟨ka, kb, ce⟩).2 h) h8
   rfl
  refine fd_ fo260_2 rfl rfl (lk_ sc3 1 rfl rfl rfl ?_)
  refine wl_callw rfl cb175 rfl rfl (fun wx hm => (in_any _ _ _ wx)) ?_
  refine wl_ov (ov_un_not rfl) rfl (sg_ rfl (nn_ ?_))
  refine gw_cond rfl (fun hh => ?_) (fun hh => ?_)
  ·have h9 : (inB ce 0 1000000) = false := by simpa using hh
   clear hh
   refine sr_ (sg_ rfl (nn_ ?_))
   refine gw_ret ?_
   refine nx_blk_ret (nx_blk_ret (nx_then_ret (nx_then_ret (nx_blk_ret (nx_then_ret ?_)))))
   have hE : feeE (prevOf l k) ⟨ka, kb, ce⟩ = 1 := by unfold feeE leFe; rw [hpv]; simp [h2, h3, h4, h8, h9]
   refine nx_ret1 rfl rfl fun wx hm => ?_
   exact ⟨ret_int (by rw [hinv.2, hat, if_neg (by rw [hE]; decide), hE]), hm.g⟩
  have h9 : (inB ce 0 1000000) = true := by simpa using hh
  clear hh
  refine gw_skip (nx_blk_nrm (nx_blk_nrm (nx_then (gw_region ?_))))
  have hE : feeE (prevOf l k) ⟨ka, kb, ce⟩ = 0 := by unfold feeE leFe; rw [hpv]; simp [h2, h3, h4, h8, h9]
  refine ad_ rfl rfl (mv_ rfl (wl_nil ?_))
  exact nx_round (k + 1) ⟨by omega, by rw [hinv.2, hat, if_pos hE]⟩ (by omega) ⟨rfl, rfl, rfl, (some_int (by omega)), trivial⟩ (fun _ hm => hm.pick [] [] [0] rfl rfl)
 have hk : ¬ (((k : Nat) : Int) < ((n : Nat) : Int)) := by simpa using hh
 clear hh
 refine gw_exit ?_
 refine nx_then_exit (nx_then_exit ?_)
 refine nx_blk_here ?_
 refine nx_then (sr_ (sg_ rfl (nn_ ?_)))
 refine gw_ret ?_
 refine nx_ret1 rfl rfl fun wx hm => ?_
 exact ⟨ret_int (by rw [hinv.2, scanE_end _ _ _ _ (by omega)]), hm.g⟩
theorem feesFault_any (l : List Fe) (A : Option Addr) (n c : Nat) (w : World) (hl : SlT feEnc 3 260 w A n l) (hok : ∀ b ∈ l, FeOk b) (hn : n ≤ 1000000) :
  Calls Tryz.prog 99 #[.slice A n c] w (GotE w (feesE l)) := by
 refine gw_enter ⟨74, w, none, []⟩ Tryz.func99 rfl Tryz.ntmps99 rfl (mem0 (X := [SlOld feEnc 3 260 w.heap.size none A n l]) (allF_cons hl.old allF_nil) (allL_cons SlOld.lasts allL_nil)) ?_
 refine sr_ ?_
 have hlen := hl.len
 refine sg_ rfl (nn_ (gw_seq (sr_ (mv_ rfl (wl_ov (ov_len es28 rfl) rfl ?_)))))
 refine wl_ov (ov_gtr rfl rfl) rfl ?_
 refine nn_ ?_
 refine gw_cond rfl (fun hh => ?_) (fun hh => ?_)
 ·have h1 : 500 < ((n : Nat) : Int) := by simpa using hh
  clear hh
  refine sr_ (sg_ rfl (nn_ ?_))
  refine gw_ret ?_
  refine nx_then_ret ?_
  refine nx_ret1 rfl rfl fun wx hm => ?_
  exact ⟨ret_int (by unfold feesE; rw [if_pos (by omega)]), hm.g⟩
 have h1 : ¬ (500 < ((n : Nat) : Int)) := by simpa using hh
 clear hh
 refine gw_skip (nx_then (gw_seq (sr_ (mv_ rfl (wl_ov (ov_len es28 rfl) rfl (mv_ rfl (nn_ (gw_block ?_))))))))
 refine gw_loop (γ := Nat) (fun (k : Nat) => k ≤ n ∧ feesE l = scanE feeE (prevOf l k) (l.drop k)) (fun (k : Nat) => [(0, .slice A n c), (8, .slice A n c), (9, .int .i64 ((n : Nat) : Int)), (10, .int .i64 ((k : Nat) : Int))]) (fun (k : Nat) => fun _ => True) (fun (k : Nat) => []) (fun (k : Nat) => []) (fun (k : Nat) => [SlOld feEnc 3 260 w.heap.size none A n l]) (fun (k : Nat) => n - k) 0 ⟨Nat.zero_le _, by unfold feesE; rw [if_neg (by omega)]; rfl⟩ ⟨rfl, rfl, rfl, rfl, trivial⟩ (fun _ hm => hm.pick [] [] [0] rfl rfl) ?_
 intro k hinv
 replace hinv : k ≤ n ∧ feesE l = scanE feeE (prevOf l k) (l.drop k) := hinv
 refine sr_ (wl_ov (ov_lss rfl rfl) rfl (nn_ (gw_seq ?_)))
 refine gw_cond rfl (fun hh => ?_) (fun hh => ?_)
 ·have hk : ((k : Nat) : Int) < ((n : Nat) : Int) := by simpa using hh
  clear hh
  refine gw_skip (nx_then (gw_seq (gw_block (sr_ ?_))))
  obtain ⟨b, off, hA, _, _⟩ := hl.get (by omega)
  subst hA
  obtain ⟨x, hx⟩ : ∃ x, l[k]? = some x := ⟨_, List.getElem?_eq_getElem (by omega)⟩
  obtain ⟨ka, kb, ce⟩ := x
  have hat := scanE_at feeE l k _ hx
  obtain ⟨hs1, hs2⟩ := hok _ (List.mem_of_getElem? hx)
  have hs1 : ka.size ≤ 1000000 := hs1
  have hs2 : kb.size ≤ 1000000 := hs2
  refine mv_ rfl ?_
  refine wl_ov (ov_index (j := k) es28 rfl rfl (by omega)) rfl ?_
  refine wl_ov (ov_elem (vs := [.string ka, .string kb, .int .i64 ce]) rz260 rfl (fun _ hm => (hm.fact 0 rfl).1) hx rfl rfl) rfl ?_
  refine wl_alloc zc260 rfl fun g1 => ?_
  refine sg_ rfl ?_
  refine wl_stores (cs' := [.string ka, .string kb, .int .i64 ce]) 0 rz260 rfl rfl rfl rfl rfl rfl rfl rfl ?_
  refine nn_ (gw_block (sr_ (fd_ fo260_0 rfl rfl (lk_ sc9 0 rfl rfl rfl ?_))))
  refine wl_callv rfl cb108 rfl rfl (fun wx hm => (key_any _ wx (by omega))) ?_
  refine wl_ov (ov_un_not rfl) rfl (mv_ rfl ?_)
  rcases Bool.eq_false_or_eq_true (!(keyB ka)) with h2 | h2
  ·refine wl_set 20 rfl (congrArg Value.bool h2) ?_
   have h2 : keyB ka = false := by simpa using h2
   refine goff rfl rfl rfl (goff rfl rfl rfl (goff rfl rfl rfl (goff rfl rfl rfl (pt_ rfl rfl (sg_ rfl (nn_ (ct_ rfl (sr_ (sg_ rfl (nn_ ?_))))))))))
   refine gw_ret ?_
   refine nx_blk_ret (nx_blk_ret (nx_then_ret (nx_then_ret (nx_blk_ret (nx_then_ret ?_)))))
   have hE : feeE (prevOf l k) ⟨ka, kb, ce⟩ = 5 := by unfold feeE leFe; simp [h2]
   refine nx_ret1 rfl rfl fun wx hm => ?_
   exact ⟨ret_int (by rw [hinv.2, hat, if_neg (by rw [hE]; decide), hE]), hm.g⟩
  refine wl_set 20 rfl (congrArg Value.bool h2) ?_
  have h2 : keyB ka = true := by simpa using h2
  refine wl_guard_on rfl rfl rfl (fd_ fo260_1 rfl rfl (wl_guard_on rfl rfl rfl (lk_ sc9 0 rfl rfl rfl (wl_guard_on rfl rfl rfl ?_))))
  refine wl_callv rfl cb108 rfl rfl (fun wx hm => (key_any _ wx (by omega))) ?_
  refine wl_guard_on rfl rfl rfl (wl_ov (ov_un_not rfl) rfl (pf_ rfl rfl (sg_ rfl (nn_ ?_))))
  refine gw_cond rfl (fun hh => ?_) (fun hh => ?_)
  ·have h3 : (keyB kb) = false := by simpa using hh
   clear hh
   refine sr_ ?_
   have h3 : keyB kb = false := by simpa using h3
   refine sg_ rfl (nn_ ?_)
   refine gw_ret ?_
   refine nx_blk_ret (nx_blk_ret (nx_then_ret (nx_then_ret (nx_blk_ret (nx_then_ret ?_)))))
   have hE : feeE (prevOf l k) ⟨ka, kb, ce⟩ = 5 := by unfold feeE leFe; simp [h2, h3]
   refine nx_ret1 rfl rfl fun wx hm => ?_
   exact ⟨ret_int (by rw [hinv.2, hat, if_neg (by rw [hE]; decide), hE]), hm.g⟩
  have h3 : (keyB kb) = true := by simpa using hh
  clear hh
  refine sr_ ?_
  have h3 : keyB kb = true := by simpa using h3
  refine fd_ fo260_0 rfl rfl (lk_ sc9 0 rfl rfl rfl (fd_ fo260_1 rfl rfl (lk_ sc9 0 rfl rfl rfl (wl_ov (ov_seql rfl rfl) rfl (sg_ rfl (nn_ ?_))))))
  refine gw_cond rfl (fun hh => ?_) (fun hh => ?_)
  ·have h4 : (ka.toList == kb.toList) = true := by simpa using hh
   clear hh
   refine sr_ (sg_ rfl (nn_ ?_))
   refine gw_ret ?_
   refine nx_blk_ret (nx_blk_ret (nx_then_ret (nx_then_ret (nx_blk_ret (nx_then_ret ?_)))))
   have hE : feeE (prevOf l k) ⟨ka, kb, ce⟩ = 14 := by unfold feeE leFe; simp [h2, h3, (beq_iff_eq.1 h4)]
   refine nx_ret1 rfl rfl fun wx hm => ?_
   exact ⟨ret_int (by rw [hinv.2, hat, if_neg (by rw [hE]; decide), hE]), hm.g⟩
  have h4 : (ka.toList == kb.toList) = false := by simpa using hh
  clear hh
  refine gw_seq ?_
  have h4 : ¬ ka.toList = kb.toList := by simpa using h4
  by_cases hk0 : k = 0
  ·refine gd (fun wz => Blk wz g1 260 [.string ka, .string kb, .int .i64 ce] ∧ (SlOld feEnc 3 260 w.heap.size none (some ⟨b, off, none⟩) n l) wz ∧ True) mixed (fun _ hm => ⟨hm.bl 0, hm.fa 0, trivial⟩) fun z => ?_
   refine wt 0 36 1 rfl z (ov_move rfl) ?_
   refine wt 1 36 3 rfl z (ov_gtr rfl rfl) ?_
   refine wa_set 34 (v' := .bool false) rfl (congrArg Value.bool (decide_eq_false (by omega))) ?_
   refine wt 2 36 7 rfl z (ov_move rfl) ?_
   refine wtf 3 36 15 rfl rfl rfl z ?_
   refine wtf 4 36 31 rfl rfl rfl z ?_
   refine wtf 5 36 63 rfl rfl rfl z ?_
   refine wtf 6 36 127 rfl rfl rfl z ?_
   refine wtf 7 36 255 rfl rfl rfl z ?_
   refine wtf 8 36 511 rfl rfl rfl z ?_
   refine wtf 9 36 1023 rfl rfl rfl z ?_
   refine wtf 10 36 2047 rfl rfl rfl z ?_
   refine wtf 11 36 4095 rfl rfl rfl z ?_
   refine wtf 12 36 8191 rfl rfl rfl z ?_
   refine wtu 13 36 16383 rfl rfl rfl z ?_
   refine wtu 14 36 32767 rfl rfl rfl z ?_
   refine wtu 15 36 65535 rfl rfl rfl z ?_
   refine wtu 16 36 131071 rfl rfl rfl z ?_
   refine wtu 17 36 262143 rfl rfl rfl z ?_
   refine wtu 18 36 524287 rfl rfl rfl z ?_
   refine wtu 19 36 1048575 rfl rfl rfl z ?_
   refine wtu 20 36 2097151 rfl rfl rfl z ?_
   refine wtu 21 36 4194303 rfl rfl rfl z ?_
   refine wtu 22 36 8388607 rfl rfl rfl z ?_
   refine wtu 23 36 16777215 rfl rfl rfl z ?_
   refine wtu 24 36 33554431 rfl rfl rfl z ?_
   refine wtu 25 36 67108863 rfl rfl rfl z ?_
   refine wtu 26 36 134217727 rfl rfl rfl z ?_
   refine wtu 27 36 268435455 rfl rfl rfl z ?_
   refine wtu 28 36 536870911 rfl rfl rfl z ?_
   refine wtu 29 36 1073741823 rfl rfl rfl z ?_
   refine wtu 30 36 2147483647 rfl rfl rfl z ?_
   refine wtu 31 36 4294967295 rfl rfl rfl z ?_
   refine wtu 32 36 8589934591 rfl rfl rfl z ?_
   refine wtf 33 36 17179869183 rfl rfl rfl z ?_
   refine wt 34 36 34359738367 rfl z (ov_pick_f rfl rfl) ?_
   refine wt 35 36 68719476735 rfl z (ov_assign rfl) ?_
   refine wa_done (by kernel_rfl) ?_
   refine nx_then (cf_ rfl (sr_ (fd_ fo260_2 rfl rfl (lk_ sc3 0 rfl rfl rfl ?_))))
   refine wl_callw rfl cb133 rfl rfl (fun wx hm => (rin_any _ _ _ wx)) ?_
   refine wl_ov (ov_un_not rfl) rfl (sg_ rfl (nn_ ?_))
   refine gw_cond rfl (fun hh => ?_) (fun hh => ?_)
   ·have h9 : (inB ce 0 1000000) = false := by simpa using hh
    clear hh
    refine sr_ (sg_ rfl (nn_ ?_))
    refine gw_ret ?_
    refine nx_blk_ret (nx_blk_ret (nx_then_ret (nx_then_ret (nx_blk_ret (nx_then_ret ?_)))))
    have hE : feeE (prevOf l k) ⟨ka, kb, ce⟩ = 1 := by unfold feeE leFe; rw [pv_zero hk0]; simp [h2, h3, h4, h9]
    refine nx_ret1 rfl rfl fun wx hm => ?_
    exact ⟨ret_int (by rw [hinv.2, hat, if_neg (by rw [hE]; decide), hE]), hm.g⟩
   have h9 : (inB ce 0 1000000) = true := by simpa using hh
   clear hh
   refine gw_skip (nx_blk_nrm (nx_blk_nrm (nx_then (gw_region ?_))))
   have hE : feeE (prevOf l k) ⟨ka, kb, ce⟩ = 0 := by unfold feeE leFe; rw [pv_zero hk0]; simp [h2, h3, h4, h9]
   refine ad_ rfl rfl (mv_ rfl (wl_nil ?_))
   exact nx_round (k + 1) ⟨by omega, by rw [hinv.2, hat, if_pos hE]⟩ (by omega) ⟨rfl, rfl, rfl, (some_int (by omega)), trivial⟩ (fun _ hm => hm.pick [] [] [0] rfl rfl)
  obtain ⟨y, hy⟩ : ∃ x, l[k - 1]? = some x := ⟨_, List.getElem?_eq_getElem (by omega)⟩
  obtain ⟨p0, p1, p2⟩ := y
  have hpv := pv_pos hk0 hy
  refine gd (fun wz => Blk wz g1 260 [.string ka, .string kb, .int .i64 ce] ∧ (SlOld feEnc 3 260 w.heap.size none (some ⟨b, off, none⟩) n l) wz ∧ True) mixed (fun _ hm => ⟨hm.bl 0, hm.fa 0, trivial⟩) fun z => ?_
  refine wt 0 36 1 rfl z (ov_move rfl) ?_
  refine wt 1 36 3 rfl z (ov_gtr rfl rfl) ?_
  refine wa_set 34 (v' := .bool true) rfl (congrArg Value.bool (decide_eq_true (by omega))) ?_
  refine wt 2 36 7 rfl z (ov_move rfl) ?_
  refine wto 3 36 15 rfl rfl rfl z (ov_field fo260_0 rfl rfl) ?_
  refine wto 4 36 31 rfl rfl rfl z (ov_load sc9 rfl (fun _ hm => hm.1) rfl) ?_
  refine wto 5 36 63 rfl rfl rfl z (ov_move rfl) ?_
  refine wto 6 36 127 rfl rfl rfl z (ov_move rfl) ?_
  refine wto 7 36 255 rfl rfl rfl z (ov_sub rfl rfl (by omega) (by omega)) ?_
  refine wa_set 40 (v' := .int .i64 ((k - 1 : Nat) : Int)) rfl (congrArg (Value.int .i64) (by omega)) ?_
  refine wto 8 36 511 rfl rfl rfl z (ov_index (j := k - 1) es28 rfl rfl (by omega)) ?_
  refine wto 9 36 1023 rfl rfl rfl z (ov_field fo260_0 rfl rfl) ?_
  refine wto 10 36 2047 rfl rfl rfl z (ov_elem1 (k := 0) (v := .string p0) sc9 rfl (fun _ hm => (hm.2.1).1) hy rfl rfl) ?_
  refine wto 11 36 4095 rfl rfl rfl z (ov_slss rfl rfl) ?_
  refine wto 12 36 8191 rfl rfl rfl z (ov_move rfl) ?_
  rcases Bool.eq_false_or_eq_true (Op.bytesLess ka.toList p0.toList) with h5 | h5
  ·refine wa_set 45 rfl (congrArg Value.bool h5) ?_
   have h8 : feLt ⟨p0, p1, p2⟩ ⟨ka, kb, ce⟩ = false := by have h := lt_fe ⟨p0, p1, p2⟩ ⟨ka, kb, ce⟩; simp only at h; rw [h5] at h; simpa using h.symm
   refine wtf 13 36 16383 rfl rfl rfl z ?_
   refine wtf 14 36 32767 rfl rfl rfl z ?_
   refine wtf 15 36 65535 rfl rfl rfl z ?_
   refine wtf 16 36 131071 rfl rfl rfl z ?_
   refine wtf 17 36 262143 rfl rfl rfl z ?_
   refine wtf 18 36 524287 rfl rfl rfl z ?_
   refine wtf 19 36 1048575 rfl rfl rfl z ?_
   refine wtf 20 36 2097151 rfl rfl rfl z ?_
   refine wtf 21 36 4194303 rfl rfl rfl z ?_
   refine wtf 22 36 8388607 rfl rfl rfl z ?_
   refine wtu 23 36 16777215 rfl rfl rfl z ?_
   refine wtu 24 36 33554431 rfl rfl rfl z ?_
   refine wtu 25 36 67108863 rfl rfl rfl z ?_
   refine wtu 26 36 134217727 rfl rfl rfl z ?_
   refine wtu 27 36 268435455 rfl rfl rfl z ?_
   refine wtu 28 36 536870911 rfl rfl rfl z ?_
   refine wtu 29 36 1073741823 rfl rfl rfl z ?_
   refine wtu 30 36 2147483647 rfl rfl rfl z ?_
   refine wtu 31 36 4294967295 rfl rfl rfl z ?_
   refine wtf 32 36 8589934591 rfl rfl rfl z ?_
   refine wto 33 36 17179869183 rfl rfl rfl z (ov_pick_t rfl rfl) ?_
   refine wt 34 36 34359738367 rfl z (ov_pick_t rfl rfl) ?_
   refine wt 35 36 68719476735 rfl z (ov_assign rfl) ?_
   refine wa_done (by kernel_rfl) ?_
   refine nx_then (ct_ rfl (sr_ (sg_ rfl (nn_ ?_))))
   refine gw_ret ?_
   refine nx_blk_ret (nx_blk_ret (nx_then_ret (nx_then_ret (nx_blk_ret (nx_then_ret ?_)))))
   have hE : feeE (prevOf l k) ⟨ka, kb, ce⟩ = 7 := by unfold feeE leFe; rw [hpv]; simp [h2, h3, h4, h8]
   refine nx_ret1 rfl rfl fun wx hm => ?_
   exact ⟨ret_int (by rw [hinv.2, hat, if_neg (by rw [hE]; decide), hE]), hm.g⟩
  refine wa_set 45 rfl (congrArg Value.bool h5) ?_
  refine wto 13 36 16383 rfl rfl rfl z (ov_field fo260_0 rfl rfl) ?_
  refine wto 14 36 32767 rfl rfl rfl z (ov_load sc9 rfl (fun _ hm => hm.1) rfl) ?_
  refine wto 15 36 65535 rfl rfl rfl z (ov_move rfl) ?_
  refine wto 16 36 131071 rfl rfl rfl z (ov_move rfl) ?_
  refine wto 17 36 262143 rfl rfl rfl z (ov_sub rfl rfl (by omega) (by omega)) ?_
  refine wa_set 50 (v' := .int .i64 ((k - 1 : Nat) : Int)) rfl (congrArg (Value.int .i64) (by omega)) ?_
  refine wto 18 36 524287 rfl rfl rfl z (ov_index (j := k - 1) es28 rfl rfl (by omega)) ?_
  refine wto 19 36 1048575 rfl rfl rfl z (ov_field fo260_0 rfl rfl) ?_
  refine wto 20 36 2097151 rfl rfl rfl z (ov_elem1 (k := 0) (v := .string p0) sc9 rfl (fun _ hm => (hm.2.1).1) hy rfl rfl) ?_
  refine wto 21 36 4194303 rfl rfl rfl z (ov_seql rfl rfl) ?_
  refine wto 22 36 8388607 rfl rfl rfl z (ov_move rfl) ?_
  rcases Bool.eq_false_or_eq_true (ka.toList == p0.toList) with h6 | h6
  ·refine wa_set 55 rfl (congrArg Value.bool h6) ?_
   refine wto 23 36 16777215 rfl rfl rfl z (ov_field fo260_1 rfl rfl) ?_
   refine wto 24 36 33554431 rfl rfl rfl z (ov_load sc9 rfl (fun _ hm => hm.1) rfl) ?_
   refine wto 25 36 67108863 rfl rfl rfl z (ov_move rfl) ?_
   refine wto 26 36 134217727 rfl rfl rfl z (ov_move rfl) ?_
   refine wto 27 36 268435455 rfl rfl rfl z (ov_sub rfl rfl (by omega) (by omega)) ?_
   refine wa_set 60 (v' := .int .i64 ((k - 1 : Nat) : Int)) rfl (congrArg (Value.int .i64) (by omega)) ?_
   refine wto 28 36 536870911 rfl rfl rfl z (ov_index (j := k - 1) es28 rfl rfl (by omega)) ?_
   refine wto 29 36 1073741823 rfl rfl rfl z (ov_field fo260_1 rfl rfl) ?_
   refine wto 30 36 2147483647 rfl rfl rfl z (ov_elem1 (k := 1) (v := .string p1) sc9 rfl (fun _ hm => (hm.2.1).1) hy rfl rfl) ?_
   refine wto 31 36 4294967295 rfl rfl rfl z (ov_sleq rfl rfl) ?_
   refine wto 32 36 8589934591 rfl rfl rfl z (ov_pick_t rfl rfl) ?_
   refine wto 33 36 17179869183 rfl rfl rfl z (ov_pick_f rfl rfl) ?_
   refine wt 34 36 34359738367 rfl z (ov_pick_t rfl rfl) ?_
   refine wt 35 36 68719476735 rfl z (ov_assign rfl) ?_
   refine wa_done (by kernel_rfl) ?_
   refine nx_then ?_
   refine gw_cond rfl (fun hh => ?_) (fun hh => ?_)
   ·have h7 : (Op.bytesLess kb.toList p1.toList || kb.toList == p1.toList) = true := by simpa using hh
    clear hh
    refine sr_ ?_
    have h8 : feLt ⟨p0, p1, p2⟩ ⟨ka, kb, ce⟩ = false := by have h := lt_fe ⟨p0, p1, p2⟩ ⟨ka, kb, ce⟩; simp only at h; rw [h5, h6, h7] at h; simpa using h.symm
    refine sg_ rfl (nn_ ?_)
    refine gw_ret ?_
    refine nx_blk_ret (nx_blk_ret (nx_then_ret (nx_then_ret (nx_blk_ret (nx_then_ret ?_)))))
    have hE : feeE (prevOf l k) ⟨ka, kb, ce⟩ = 7 := by unfold feeE leFe; rw [hpv]; simp [h2, h3, h4, h8]
    refine nx_ret1 rfl rfl fun wx hm => ?_
    exact ⟨ret_int (by rw [hinv.2, hat, if_neg (by rw [hE]; decide), hE]), hm.g⟩
   have h7 : (Op.bytesLess kb.toList p1.toList || kb.toList == p1.toList) = false := by simpa using hh
   clear hh
   refine sr_ ?_
   have h8 : feLt ⟨p0, p1, p2⟩ ⟨ka, kb, ce⟩ = true := by have h := lt_fe ⟨p0, p1, p2⟩ ⟨ka, kb, ce⟩; simp only at h; rw [h5, h6, h7] at h; simpa using h.symm
   refine fd_ fo260_2 rfl rfl (lk_ sc3 0 rfl rfl rfl ?_)
   refine wl_callw rfl cb133 rfl rfl (fun wx hm => (rin_any _ _ _ wx)) ?_
   refine wl_ov (ov_un_not rfl) rfl (sg_ rfl (nn_ ?_))
   refine gw_cond rfl (fun hh => ?_) (fun hh => ?_)
   ·have h9 : (inB ce 0 1000000) = false := by simpa using hh
    clear hh
    refine sr_ (sg_ rfl (nn_ ?_))
    refine gw_ret ?_
    refine nx_blk_ret (nx_blk_ret (nx_then_ret (nx_then_ret (nx_blk_ret (nx_then_ret ?_)))))
    have hE : feeE (prevOf l k) ⟨ka, kb, ce⟩ = 1 := by unfold feeE leFe; rw [hpv]; simp [h2, h3, h4, h8, h9]
    refine nx_ret1 rfl rfl fun wx hm => ?_
    exact ⟨ret_int (by rw [hinv.2, hat, if_neg (by rw [hE]; decide), hE]), hm.g⟩
   have h9 : (inB ce 0 1000000) = true := by simpa using hh
   clear hh
   refine gw_skip (nx_blk_nrm (nx_blk_nrm (nx_then (gw_region ?_))))
   have hE : feeE (prevOf l k) ⟨ka, kb, ce⟩ = 0 := by unfold feeE leFe; rw [hpv]; simp [h2, h3, h4, h8, h9]
   refine ad_ rfl rfl (mv_ rfl (wl_nil ?_))
   exact nx_round (k + 1) ⟨by omega, by rw [hinv.2, hat, if_pos hE]⟩ (by omega) ⟨rfl, rfl, rfl, (some_int (by omega)), trivial⟩ (fun _ hm => hm.pick [] [] [0] rfl rfl)
  refine wa_set 55 rfl (congrArg Value.bool h6) ?_
  have h8 : feLt ⟨p0, p1, p2⟩ ⟨ka, kb, ce⟩ = true := by have h := lt_fe ⟨p0, p1, p2⟩ ⟨ka, kb, ce⟩; simp only at h; rw [h5, h6] at h; simpa using h.symm
  refine wtf 23 36 16777215 rfl rfl rfl z ?_
  refine wtf 24 36 33554431 rfl rfl rfl z ?_
  refine wtf 25 36 67108863 rfl rfl rfl z ?_
  refine wtf 26 36 134217727 rfl rfl rfl z ?_
  refine wtf 27 36 268435455 rfl rfl rfl z ?_
  refine wtf 28 36 536870911 rfl rfl rfl z ?_
  refine wtf 29 36 1073741823 rfl rfl rfl z ?_
  refine wtf 30 36 2147483647 rfl rfl rfl z ?_
  refine wtf 31 36 4294967295 rfl rfl rfl z ?_
  refine wto 32 36 8589934591 rfl rfl rfl z (ov_pick_f rfl rfl) ?_
  refine wto 33 36 17179869183 rfl rfl rfl z (ov_pick_f rfl rfl) ?_
  refine wt 34 36 34359738367 rfl z (ov_pick_t rfl rfl) ?_
  refine wt 35 36 68719476735 rfl z (ov_assign rfl) ?_
  refine wa_done (by kernel_rfl) ?_
  refine nx_then (cf_ rfl (sr_ (fd_ fo260_2 rfl rfl (lk_ sc3 0 rfl rfl rfl ?_))))
  refine wl_callw rfl cb133 rfl rfl (fun wx hm => (rin_any _ _ _ wx)) ?_
  refine wl_ov (ov_un_not rfl) rfl (sg_ rfl (nn_ ?_))
  refine gw_cond rfl (fun hh => ?_) (fun hh => ?_)
  ·have h9 : (inB ce 0 1000000) = false := by simpa using hh
   clear hh
   refine sr_ (sg_ rfl (nn_ ?_))
   refine gw_ret ?_
   refine nx_blk_ret (nx_blk_ret (nx_then_ret (nx_then_ret (nx_blk_ret (nx_then_ret ?_)))))
   have hE : feeE (prevOf l k) ⟨ka, kb, ce⟩ = 1 := by unfold feeE leFe; rw [hpv]; simp [h2, h3, h4, h8, h9]
   refine nx_ret1 rfl rfl fun wx hm => ?_
   exact ⟨ret_int (by rw [hinv.2, hat, if_neg (by rw [hE]; decide), hE]), hm.g⟩
  have h9 : (inB ce 0 1000000) = true := by simpa using hh
  clear hh
  refine gw_skip (nx_blk_nrm (nx_blk_nrm (nx_then (gw_region ?_))))
  have hE : feeE (prevOf l k) ⟨ka, kb, ce⟩ = 0 := by unfold feeE leFe; rw [hpv]; simp [h2, h3, h4, h8, h9]
  refine ad_ rfl rfl (mv_ rfl (wl_nil ?_))
  exact nx_round (k + 1) ⟨by omega, by rw [hinv.2, hat, if_pos hE]⟩ (by omega) ⟨rfl, rfl, rfl, (some_int (by omega)), trivial⟩ (fun _ hm => hm.pick [] [] [0] rfl rfl)
 have hk : ¬ (((k : Nat) : Int) < ((n : Nat) : Int)) := by simpa using hh
 clear hh
 refine gw_exit ?_
 refine nx_then_exit (nx_then_exit ?_)
 refine nx_blk_here ?_
 refine nx_then (sr_ (sg_ rfl (nn_ ?_)))
 refine gw_ret ?_
 refine nx_ret1 rfl rfl fun wx hm => ?_
 exact ⟨ret_int (by rw [hinv.2, scanE_end _ _ _ _ (by omega)]), hm.g⟩
def feP (a b : ByteArray) (x : Fe) : Bool := x.a.toList == a.toList && x.b.toList == b.toList
def feAt (l : List Fe) (a b : ByteArray) : Int := match l[(ixP (feP a b) l 0).toNat]? with
  | some x => x.cents
  | none => 0
/-- The error and the fee of FeeOf. -/
def feeOfC (l : List Fe) (a b : ByteArray) : Int := firstE [feesE l, whenE (!keyB a || !keyB b) 5]
def feeOfE (l : List Fe) (a b : ByteArray) : Int := if feeOfC l a b = 0 then (if (a.toList == b.toList) = true then 0 else if 0 ≤ ixP (feP a b) l 0 then 0 else 8) else feeOfC l a b
def feeOfV (l : List Fe) (a b : ByteArray) : Int := if feeOfC l a b = 0 then (if (a.toList == b.toList) = true then 0 else if 0 ≤ ixP (feP a b) l 0 then feAt l a b else 0) else 0
theorem feAt_of {l : List Fe} {a b : ByteArray} {i : Nat} {x : Fe} (h : ixP (feP a b) l 0 = ((i : Nat) : Int)) (hx : l[i]? = some x) : feAt l a b = x.cents := by
  unfold feAt; rw [h, Int.toNat_natCast, hx]
theorem tFeeOf_any (l : List Fe) (A : Option Addr) (n c0 : Nat) (ka kb : ByteArray) (w : World) (hl : SlT feEnc 3 260 w A n l) (hok : ∀ b ∈ l, FeOk b) (hn : n ≤ 1000000) (h1 : ka.size ≤ 1000000) (h2 : kb.size ≤ 1000000) :
  Calls Tryz.prog 203 #[.slice A n c0, .string ka, .string kb] w (fun e w' => e = .returned (.tuple #[.int .i64 (feeOfV l ka kb), .int .i64 (feeOfE l ka kb)]) ∧ w.grownBy w' none) := by
 refine gw_enter ⟨49, w, none, []⟩ Tryz.func203 rfl Tryz.ntmps203 rfl (mem0 (X := [SlOld feEnc 3 260 w.heap.size none A n l]) (allF_cons hl.old allF_nil) (allL_cons SlOld.lasts allL_nil)) ?_
 refine sr_ ?_
 have hlen := hl.len
 obtain ⟨XE, hXE⟩ : ∃ E, E = feesE l := ⟨_, rfl⟩
 refine sg_ rfl (sg_ rfl (nn_ (gw_seq (sr_ (mv_ rfl ?_)))))
 refine wl_callv (v := .int .i64 XE) rfl cb105 rfl rfl (fun wx hm => (by rw [hXE]; exact checkFees_any l A n c0 wx (hm.fact 0 rfl).1 hok hn)) ?_
 refine mv_ rfl ?_
 refine wl_callw rfl cb137 rfl rfl (fun wx hm => (isKey_any _ wx (by omega))) ?_
 refine wl_ov (ov_un_not rfl) rfl (mv_ rfl ?_)
 rcases Bool.eq_false_or_eq_true (!(keyB ka)) with h2 | h2
 ·refine wl_set 16 rfl (congrArg Value.bool h2) ?_
  have hC : feeOfC l ka kb = firstE [XE, whenE true 5] := by unfold feeOfC; rw [h2, ← hXE]; rfl
  refine goff rfl rfl rfl (goff rfl rfl rfl (goff rfl rfl rfl (pt_ rfl rfl ?_)))
  refine wl_callw rfl cb120 rfl rfl (fun wx hm => (when_any _ _ wx)) ?_
  refine wl_buildSlice (e := 41) (cs := [.int .i64 XE, .int .i64 (whenE true 5)]) rfl (by kernel_rfl) rfl fun g1 => ?_
  refine wl_callw rfl cb102 rfl rfl (fun wx hm => (first_any [XE, whenE true 5] _ _ _ wx (hm.blkI 0 rfl) (by simp))) ?_
  refine sg_ rfl (nn_ (sr_ (mv_ rfl (wl_ov (ov_neq rfl rfl) rfl (nn_ ?_)))))
  refine gw_cond rfl (fun hh => ?_) (fun hh => ?_)
  ·have hz : ¬ (firstE [XE, whenE true 5] = 0) := by simpa using hh
   clear hh
   refine sr_ (mv_ rfl (sg_ rfl (sg_ rfl (nn_ ?_))))
   refine gw_ret ?_
   refine nx_then_ret ?_
   refine nx_ret2 rfl rfl rfl fun wx hm => ?_
   refine ⟨?_, hm.g⟩
   unfold feeOfE feeOfV
   rw [hC, if_neg hz, if_neg hz]
  have hz : firstE [XE, whenE true 5] = 0 := by simpa using hh
  clear hh
  refine gw_skip (nx_then (gw_seq (sr_ (mv_ rfl (mv_ rfl (wl_ov (ov_seql rfl rfl) rfl (nn_ ?_)))))))
  refine gw_cond rfl (fun hh => ?_) (fun hh => ?_)
  ·have hab : (ka.toList == kb.toList) = true := by simpa using hh
   clear hh
   refine sr_ (sg_ rfl (sg_ rfl (nn_ ?_)))
   refine gw_ret ?_
   refine nx_then_ret ?_
   refine nx_ret2 rfl rfl rfl fun wx hm => ?_
   refine ⟨?_, hm.g⟩
   unfold feeOfE feeOfV
   rw [hC, if_pos hz, if_pos hz, if_pos hab, if_pos hab]
  have hab : (ka.toList == kb.toList) = false := by simpa using hh
  clear hh
  refine gw_skip (nx_then (gw_seq (sr_ (mv_ rfl (wl_ov (ov_len es28 rfl) rfl (mv_ rfl (nn_ (gw_block ?_))))))))
  refine gw_loop (γ := Nat) (fun (i : Nat) => i ≤ n ∧ ixP (feP ka kb) l 0 = ixP (feP ka kb) (l.drop i) i) (fun (i : Nat) => [(1, .string ka), (2, .string kb), (30, .slice A n c0), (31, .int .i64 ((n : Nat) : Int)), (32, .int .i64 ((i : Nat) : Int))]) (fun (i : Nat) => fun _ => True) (fun (i : Nat) => [(g1, 41, [.int .i64 XE, .int .i64 (whenE true 5)])]) (fun (i : Nat) => []) (fun (i : Nat) => [SlOld feEnc 3 260 w.heap.size none A n l]) (fun (i : Nat) => n - i) 0 ⟨Nat.zero_le _, rfl⟩ ⟨rfl, rfl, rfl, rfl, rfl, trivial⟩ (fun _ hm => hm.pick [0] [] [0] rfl rfl) ?_
  intro i hinv
  replace hinv : i ≤ n ∧ ixP (feP ka kb) l 0 = ixP (feP ka kb) (l.drop i) i := hinv
  refine sr_ (wl_ov (ov_lss rfl rfl) rfl (nn_ (gw_seq ?_)))
  refine gw_cond rfl (fun hh => ?_) (fun hh => ?_)
  ·have hi : ((i : Nat) : Int) < ((n : Nat) : Int) := by simpa using hh
   clear hh
   refine gw_skip (nx_then (gw_seq (gw_block (sr_ ?_))))
   obtain ⟨b, off, hA, _, _⟩ := hl.get (by omega)
   subst hA
   obtain ⟨x, hx⟩ : ∃ x, l[i]? = some x := ⟨_, List.getElem?_eq_getElem (by omega)⟩
   obtain ⟨xa, xb, xc⟩ := x
   have hat := ixP_at (p := feP ka kb) hx
   refine wl_ov (ov_index (j := i) es28 rfl rfl (by omega)) rfl ?_
   refine wl_ov (ov_elem (vs := [.string xa, .string xb, .int .i64 xc]) rz260 rfl (fun _ hm => (hm.fact 0 rfl).1) hx rfl rfl) rfl ?_
   refine wl_alloc zc260 rfl fun g2 => ?_
   refine wl_stores (cs' := [.string xa, .string xb, .int .i64 xc]) 0 rz260 rfl rfl rfl rfl rfl rfl rfl rfl ?_
   refine nn_ (sr_ (fd_ fo260_0 rfl rfl (lk_ sc9 0 rfl rfl rfl (mv_ rfl (wl_ov (ov_seql rfl rfl) rfl (mv_ rfl ?_))))))
   rcases Bool.eq_false_or_eq_true (xa.toList == ka.toList) with h5 | h5
   ·refine wl_set 40 rfl (congrArg Value.bool h5) ?_
    refine wl_guard_on rfl rfl rfl (fd_ fo260_1 rfl rfl (wl_guard_on rfl rfl rfl (lk_ sc9 0 rfl rfl rfl (wl_guard_on rfl rfl rfl (mv_ rfl (wl_guard_on rfl rfl rfl (wl_ov (ov_seql rfl rfl) rfl (pt_ rfl rfl (nn_ ?_)))))))))
    refine gw_cond rfl (fun hh => ?_) (fun hh => ?_)
    ·have h6 : (xb.toList == kb.toList) = true := by simpa using hh
     clear hh
     refine sr_ ?_
     have hq : feP ka kb ⟨xa, xb, xc⟩ = true := by unfold feP; dsimp only; rw [h5, h6]; rfl
     have hix : ixP (feP ka kb) l 0 = ((i : Nat) : Int) := by rw [hinv.2, hat, if_pos hq]
     have hva := feAt_of hix hx
     dsimp only at hva
     have hi00 : 0 ≤ ixP (feP ka kb) l 0 := by rw [hix]; omega
     refine fd_ fo260_2 rfl rfl (lk_ sc3 0 rfl rfl rfl (sg_ rfl (sg_ rfl (nn_ ?_))))
     refine gw_ret ?_
     refine nx_blk_ret (nx_then_ret (nx_then_ret (nx_blk_ret (nx_then_ret ?_))))
     refine nx_ret2 rfl rfl rfl fun wx hm => ?_
     refine ⟨?_, hm.g⟩
     unfold feeOfE feeOfV
     rw [hC, if_pos hz, if_pos hz, if_neg (show ¬ (ka.toList == kb.toList) = true by rw [hab]; decide), if_neg (show ¬ (ka.toList == kb.toList) = true by rw [hab]; decide), if_pos hi00, if_pos hi00, hva]
    have h6 : (xb.toList == kb.toList) = false := by simpa using hh
    clear hh
    refine gw_skip (nx_blk_nrm (nx_then (gw_region ?_)))
    have hq : feP ka kb ⟨xa, xb, xc⟩ = false := by unfold feP; dsimp only; rw [h5, h6]; rfl
    refine ad_ rfl rfl (mv_ rfl (wl_nil ?_))
    exact nx_round (i + 1) ⟨by omega, by rw [hinv.2, hat, if_neg (by rw [hq]; decide)]⟩ (by omega) ⟨rfl, rfl, rfl, rfl, (some_int (by omega)), trivial⟩ (fun _ hm => hm.pick [1] [] [0] rfl rfl)
   refine wl_set 40 rfl (congrArg Value.bool h5) ?_
   have hq : feP ka kb ⟨xa, xb, xc⟩ = false := by unfold feP; dsimp only; rw [h5]; rfl
   refine goff rfl rfl rfl (goff rfl rfl rfl (goff rfl rfl rfl (goff rfl rfl rfl (pf_ rfl rfl (nn_ (cf_ rfl (gw_skip (nx_blk_nrm (nx_then (gw_region (ad_ rfl rfl (mv_ rfl ?_))))))))))))
   refine wl_nil ?_
   exact nx_round (i + 1) ⟨by omega, by rw [hinv.2, hat, if_neg (by rw [hq]; decide)]⟩ (by omega) ⟨rfl, rfl, rfl, rfl, (some_int (by omega)), trivial⟩ (fun _ hm => hm.pick [1] [] [0] rfl rfl)
  have hi : ¬ (((i : Nat) : Int) < ((n : Nat) : Int)) := by simpa using hh
  clear hh
  refine gw_exit ?_
  refine nx_then_exit (nx_then_exit ?_)
  refine nx_blk_here ?_
  refine nx_then (sr_ ?_)
  have hix : ixP (feP ka kb) l 0 = -1 := by rw [hinv.2, List.drop_eq_nil_of_le (by omega)]; rfl
  have hi00 : ¬ 0 ≤ ixP (feP ka kb) l 0 := by rw [hix]; omega
  refine sg_ rfl (sg_ rfl (nn_ ?_))
  refine gw_ret ?_
  refine nx_ret2 rfl rfl rfl fun wx hm => ?_
  refine ⟨?_, hm.g⟩
  unfold feeOfE feeOfV
  rw [hC, if_pos hz, if_pos hz, if_neg (show ¬ (ka.toList == kb.toList) = true by rw [hab]; decide), if_neg (show ¬ (ka.toList == kb.toList) = true by rw [hab]; decide), if_neg hi00, if_neg hi00]
 refine wl_set 16 rfl (congrArg Value.bool h2) ?_
 have hC : feeOfC l ka kb = firstE [XE, whenE (!keyB kb) 5] := by unfold feeOfC; rw [h2, ← hXE]; rfl
 refine wl_guard_on rfl rfl rfl (mv_ rfl (wl_guard_on rfl rfl rfl ?_))
 refine wl_callw rfl cb137 rfl rfl (fun wx hm => (isKey_any _ wx (by omega))) ?_
 refine wl_guard_on rfl rfl rfl (wl_ov (ov_un_not rfl) rfl (pf_ rfl rfl ?_))
 refine wl_callw rfl cb120 rfl rfl (fun wx hm => (when_any _ _ wx)) ?_
 refine wl_buildSlice (e := 41) (cs := [.int .i64 XE, .int .i64 (whenE (!(keyB kb)) 5)]) rfl (by kernel_rfl) rfl fun g3 => ?_
 refine wl_callw rfl cb102 rfl rfl (fun wx hm => (first_any [XE, whenE (!(keyB kb)) 5] _ _ _ wx (hm.blkI 0 rfl) (by simp))) ?_
 refine sg_ rfl (nn_ (sr_ (mv_ rfl (wl_ov (ov_neq rfl rfl) rfl (nn_ ?_)))))
 refine gw_cond rfl (fun hh => ?_) (fun hh => ?_)
 ·have hz : ¬ (firstE [XE, whenE (!(keyB kb)) 5] = 0) := by simpa using hh
  clear hh
  refine sr_ (mv_ rfl (sg_ rfl (sg_ rfl (nn_ ?_))))
  refine gw_ret ?_
  refine nx_then_ret ?_
  refine nx_ret2 rfl rfl rfl fun wx hm => ?_
  refine ⟨?_, hm.g⟩
  unfold feeOfE feeOfV
  rw [hC, if_neg hz, if_neg hz]
 have hz : firstE [XE, whenE (!(keyB kb)) 5] = 0 := by simpa using hh
 clear hh
 refine gw_skip (nx_then (gw_seq (sr_ (mv_ rfl (mv_ rfl (wl_ov (ov_seql rfl rfl) rfl (nn_ ?_)))))))
 refine gw_cond rfl (fun hh => ?_) (fun hh => ?_)
 ·have hab : (ka.toList == kb.toList) = true := by simpa using hh
  clear hh
  refine sr_ (sg_ rfl (sg_ rfl (nn_ ?_)))
  refine gw_ret ?_
  refine nx_then_ret ?_
  refine nx_ret2 rfl rfl rfl fun wx hm => ?_
  refine ⟨?_, hm.g⟩
  unfold feeOfE feeOfV
  rw [hC, if_pos hz, if_pos hz, if_pos hab, if_pos hab]
 have hab : (ka.toList == kb.toList) = false := by simpa using hh
 clear hh
 refine gw_skip (nx_then (gw_seq (sr_ (mv_ rfl (wl_ov (ov_len es28 rfl) rfl (mv_ rfl (nn_ (gw_block ?_))))))))
 refine gw_loop (γ := Nat) (fun (i : Nat) => i ≤ n ∧ ixP (feP ka kb) l 0 = ixP (feP ka kb) (l.drop i) i) (fun (i : Nat) => [(1, .string ka), (2, .string kb), (30, .slice A n c0), (31, .int .i64 ((n : Nat) : Int)), (32, .int .i64 ((i : Nat) : Int))]) (fun (i : Nat) => fun _ => True) (fun (i : Nat) => [(g3, 41, [.int .i64 XE, .int .i64 (whenE (!(keyB kb)) 5)])]) (fun (i : Nat) => []) (fun (i : Nat) => [SlOld feEnc 3 260 w.heap.size none A n l]) (fun (i : Nat) => n - i) 0 ⟨Nat.zero_le _, rfl⟩ ⟨rfl, rfl, rfl, rfl, rfl, trivial⟩ (fun _ hm => hm.pick [0] [] [0] rfl rfl) ?_
 intro i hinv
 replace hinv : i ≤ n ∧ ixP (feP ka kb) l 0 = ixP (feP ka kb) (l.drop i) i := hinv
 refine sr_ (wl_ov (ov_lss rfl rfl) rfl (nn_ (gw_seq ?_)))
 refine gw_cond rfl (fun hh => ?_) (fun hh => ?_)
 ·have hi : ((i : Nat) : Int) < ((n : Nat) : Int) := by simpa using hh
  clear hh
  refine gw_skip (nx_then (gw_seq (gw_block (sr_ ?_))))
  obtain ⟨b, off, hA, _, _⟩ := hl.get (by omega)
  subst hA
  obtain ⟨x, hx⟩ : ∃ x, l[i]? = some x := ⟨_, List.getElem?_eq_getElem (by omega)⟩
  obtain ⟨xa, xb, xc⟩ := x
  have hat := ixP_at (p := feP ka kb) hx
  refine wl_ov (ov_index (j := i) es28 rfl rfl (by omega)) rfl ?_
  refine wl_ov (ov_elem (vs := [.string xa, .string xb, .int .i64 xc]) rz260 rfl (fun _ hm => (hm.fact 0 rfl).1) hx rfl rfl) rfl ?_
  refine wl_alloc zc260 rfl fun g4 => ?_
  refine wl_stores (cs' := [.string xa, .string xb, .int .i64 xc]) 0 rz260 rfl rfl rfl rfl rfl rfl rfl rfl ?_
  refine nn_ (sr_ (fd_ fo260_0 rfl rfl (lk_ sc9 0 rfl rfl rfl (mv_ rfl (wl_ov (ov_seql rfl rfl) rfl (mv_ rfl ?_))))))
  rcases Bool.eq_false_or_eq_true (xa.toList == ka.toList) with h5 | h5
  ·refine wl_set 40 rfl (congrArg Value.bool h5) ?_
   refine wl_guard_on rfl rfl rfl (fd_ fo260_1 rfl rfl (wl_guard_on rfl rfl rfl (lk_ sc9 0 rfl rfl rfl (wl_guard_on rfl rfl rfl (mv_ rfl (wl_guard_on rfl rfl rfl (wl_ov (ov_seql rfl rfl) rfl (pt_ rfl rfl (nn_ ?_)))))))))
   refine gw_cond rfl (fun hh => ?_) (fun hh => ?_)
   ·have h6 : (xb.toList == kb.toList) = true := by simpa using hh
    clear hh
    refine sr_ ?_
    have hq : feP ka kb ⟨xa, xb, xc⟩ = true := by unfold feP; dsimp only; rw [h5, h6]; rfl
    have hix : ixP (feP ka kb) l 0 = ((i : Nat) : Int) := by rw [hinv.2, hat, if_pos hq]
    have hva := feAt_of hix hx
    dsimp only at hva
    have hi00 : 0 ≤ ixP (feP ka kb) l 0 := by rw [hix]; omega
    refine fd_ fo260_2 rfl rfl (lk_ sc3 0 rfl rfl rfl (sg_ rfl (sg_ rfl (nn_ ?_))))
    refine gw_ret ?_
    refine nx_blk_ret (nx_then_ret (nx_then_ret (nx_blk_ret (nx_then_ret ?_))))
    refine nx_ret2 rfl rfl rfl fun wx hm => ?_
    refine ⟨?_, hm.g⟩
    unfold feeOfE feeOfV
    rw [hC, if_pos hz, if_pos hz, if_neg (show ¬ (ka.toList == kb.toList) = true by rw [hab]; decide), if_neg (show ¬ (ka.toList == kb.toList) = true by rw [hab]; decide), if_pos hi00, if_pos hi00, hva]
   have h6 : (xb.toList == kb.toList) = false := by simpa using hh
   clear hh
   refine gw_skip (nx_blk_nrm (nx_then (gw_region ?_)))
   have hq : feP ka kb ⟨xa, xb, xc⟩ = false := by unfold feP; dsimp only; rw [h5, h6]; rfl
   refine ad_ rfl rfl (mv_ rfl (wl_nil ?_))
   exact nx_round (i + 1) ⟨by omega, by rw [hinv.2, hat, if_neg (by rw [hq]; decide)]⟩ (by omega) ⟨rfl, rfl, rfl, rfl, (some_int (by omega)), trivial⟩ (fun _ hm => hm.pick [1] [] [0] rfl rfl)
  refine wl_set 40 rfl (congrArg Value.bool h5) ?_
  have hq : feP ka kb ⟨xa, xb, xc⟩ = false := by unfold feP; dsimp only; rw [h5]; rfl
  refine goff rfl rfl rfl (goff rfl rfl rfl (goff rfl rfl rfl (goff rfl rfl rfl (pf_ rfl rfl (nn_ (cf_ rfl (gw_skip (nx_blk_nrm (nx_then (gw_region (ad_ rfl rfl (mv_ rfl ?_))))))))))))
  refine wl_nil ?_
  exact nx_round (i + 1) ⟨by omega, by rw [hinv.2, hat, if_neg (by rw [hq]; decide)]⟩ (by omega) ⟨rfl, rfl, rfl, rfl, (some_int (by omega)), trivial⟩ (fun _ hm => hm.pick [1] [] [0] rfl rfl)
 have hi : ¬ (((i : Nat) : Int) < ((n : Nat) : Int)) := by simpa using hh
 clear hh
 refine gw_exit ?_
 refine nx_then_exit (nx_then_exit ?_)
 refine nx_blk_here ?_
 refine nx_then (sr_ ?_)
 have hix : ixP (feP ka kb) l 0 = -1 := by rw [hinv.2, List.drop_eq_nil_of_le (by omega)]; rfl
 have hi00 : ¬ 0 ≤ ixP (feP ka kb) l 0 := by rw [hix]; omega
 refine sg_ rfl (sg_ rfl (nn_ ?_))
 refine gw_ret ?_
 refine nx_ret2 rfl rfl rfl fun wx hm => ?_
 refine ⟨?_, hm.g⟩
 unfold feeOfE feeOfV
 rw [hC, if_pos hz, if_pos hz, if_neg (show ¬ (ka.toList == kb.toList) = true by rw [hab]; decide), if_neg (show ¬ (ka.toList == kb.toList) = true by rw [hab]; decide), if_neg hi00, if_neg hi00]
theorem feeFrom_any (l : List Fe) (A : Option Addr) (n c0 : Nat) (ka kb : ByteArray) (w : World) (hl : SlT feEnc 3 260 w A n l) (hn : n ≤ 1000000) :
  Calls Tryz.prog 111 #[.slice A n c0, .string ka, .string kb] w (fun e w' => e = .returned (.tuple #[.int .i64 (if 0 ≤ ixP (feP ka kb) l 0 then feAt l ka kb else 0), .bool (decide (0 ≤ ixP (feP ka kb) l 0) || (ka.toList == kb.toList))]) ∧ w.grownBy w' none) := by
 refine gw_enter ⟨32, w, none, []⟩ Tryz.func111 rfl Tryz.ntmps111 rfl (mem0 (X := [SlOld feEnc 3 260 w.heap.size none A n l]) (allF_cons hl.old allF_nil) (allL_cons SlOld.lasts allL_nil)) ?_
 refine sr_ ?_
 have hlen := hl.len
 refine sg_ rfl (sg_ rfl (nn_ (gw_seq (sr_ (mv_ rfl (wl_ov (ov_len es28 rfl) rfl (mv_ rfl (nn_ (gw_block ?_)))))))))
 refine gw_loop (γ := Nat) (fun (i : Nat) => i ≤ n ∧ ixP (feP ka kb) l 0 = ixP (feP ka kb) (l.drop i) i) (fun (i : Nat) => [(1, .string ka), (2, .string kb), (10, .slice A n c0), (11, .int .i64 ((n : Nat) : Int)), (12, .int .i64 ((i : Nat) : Int))]) (fun (i : Nat) => fun _ => True) (fun (i : Nat) => []) (fun (i : Nat) => []) (fun (i : Nat) => [SlOld feEnc 3 260 w.heap.size none A n l]) (fun (i : Nat) => n - i) 0 ⟨Nat.zero_le _, rfl⟩ ⟨rfl, rfl, rfl, rfl, rfl, trivial⟩ (fun _ hm => hm.pick [] [] [0] rfl rfl) ?_
 intro i hinv
 replace hinv : i ≤ n ∧ ixP (feP ka kb) l 0 = ixP (feP ka kb) (l.drop i) i := hinv
 refine sr_ (wl_ov (ov_lss rfl rfl) rfl (nn_ (gw_seq ?_)))
 refine gw_cond rfl (fun hh => ?_) (fun hh => ?_)
 ·have hi : ((i : Nat) : Int) < ((n : Nat) : Int) := by simpa using hh
  clear hh
  refine gw_skip (nx_then (gw_seq (gw_block (sr_ ?_))))
  obtain ⟨b, off, hA, _, _⟩ := hl.get (by omega)
  subst hA
  obtain ⟨x, hx⟩ : ∃ x, l[i]? = some x := ⟨_, List.getElem?_eq_getElem (by omega)⟩
  obtain ⟨xa, xb, xc⟩ := x
  have hat := ixP_at (p := feP ka kb) hx
  refine wl_ov (ov_index (j := i) es28 rfl rfl (by omega)) rfl ?_
  refine wl_ov (ov_elem (vs := [.string xa, .string xb, .int .i64 xc]) rz260 rfl (fun _ hm => (hm.fact 0 rfl).1) hx rfl rfl) rfl ?_
  refine wl_alloc zc260 rfl fun g1 => ?_
  refine wl_stores (cs' := [.string xa, .string xb, .int .i64 xc]) 0 rz260 rfl rfl rfl rfl rfl rfl rfl rfl ?_
  refine nn_ (sr_ (fd_ fo260_0 rfl rfl (lk_ sc9 0 rfl rfl rfl (mv_ rfl (wl_ov (ov_seql rfl rfl) rfl (mv_ rfl ?_))))))
  rcases Bool.eq_false_or_eq_true (xa.toList == ka.toList) with h5 | h5
  ·refine wl_set 20 rfl (congrArg Value.bool h5) ?_
   refine wl_guard_on rfl rfl rfl (fd_ fo260_1 rfl rfl (wl_guard_on rfl rfl rfl (lk_ sc9 0 rfl rfl rfl (wl_guard_on rfl rfl rfl (mv_ rfl (wl_guard_on rfl rfl rfl (wl_ov (ov_seql rfl rfl) rfl (pt_ rfl rfl (nn_ ?_)))))))))
   refine gw_cond rfl (fun hh => ?_) (fun hh => ?_)
   ·have h6 : (xb.toList == kb.toList) = true := by simpa using hh
    clear hh
    refine sr_ ?_
    have hq : feP ka kb ⟨xa, xb, xc⟩ = true := by unfold feP; dsimp only; rw [h5, h6]; rfl
    have hix : ixP (feP ka kb) l 0 = ((i : Nat) : Int) := by rw [hinv.2, hat, if_pos hq]
    have hva := feAt_of hix hx
    dsimp only at hva
    have hi00 : 0 ≤ ixP (feP ka kb) l 0 := by rw [hix]; omega
    refine fd_ fo260_2 rfl rfl (lk_ sc3 0 rfl rfl rfl (sg_ rfl (sg_ rfl (nn_ ?_))))
    refine gw_ret ?_
    refine nx_blk_ret (nx_then_ret (nx_then_ret (nx_blk_ret (nx_then_ret ?_))))
    refine nx_ret2 rfl rfl rfl fun wx hm => ?_
    exact ⟨by rw [if_pos hi00, decide_eq_true hi00, hva]; rfl, hm.g⟩
   have h6 : (xb.toList == kb.toList) = false := by simpa using hh
   clear hh
   refine gw_skip (nx_blk_nrm (nx_then (gw_region ?_)))
   have hq : feP ka kb ⟨xa, xb, xc⟩ = false := by unfold feP; dsimp only; rw [h5, h6]; rfl
   refine ad_ rfl rfl (mv_ rfl (wl_nil ?_))
   exact nx_round (i + 1) ⟨by omega, by rw [hinv.2, hat, if_neg (by rw [hq]; decide)]⟩ (by omega) ⟨rfl, rfl, rfl, rfl, (some_int (by omega)), trivial⟩ (fun _ hm => hm.pick [] [] [0] rfl rfl)
  refine wl_set 20 rfl (congrArg Value.bool h5) ?_
  have hq : feP ka kb ⟨xa, xb, xc⟩ = false := by unfold feP; dsimp only; rw [h5]; rfl
  refine goff rfl rfl rfl (goff rfl rfl rfl (goff rfl rfl rfl (goff rfl rfl rfl (pf_ rfl rfl (nn_ (cf_ rfl (gw_skip (nx_blk_nrm (nx_then (gw_region (ad_ rfl rfl (mv_ rfl ?_))))))))))))
  refine wl_nil ?_
  exact nx_round (i + 1) ⟨by omega, by rw [hinv.2, hat, if_neg (by rw [hq]; decide)]⟩ (by omega) ⟨rfl, rfl, rfl, rfl, (some_int (by omega)), trivial⟩ (fun _ hm => hm.pick [] [] [0] rfl rfl)
 have hi : ¬ (((i : Nat) : Int) < ((n : Nat) : Int)) := by simpa using hh
 clear hh
 refine gw_exit ?_
 refine nx_then_exit (nx_then_exit ?_)
 refine nx_blk_here ?_
 refine nx_then (sr_ ?_)
 have hix : ixP (feP ka kb) l 0 = -1 := by rw [hinv.2, List.drop_eq_nil_of_le (by omega)]; rfl
 have hi00 : ¬ 0 ≤ ixP (feP ka kb) l 0 := by rw [hix]; omega
 refine mv_ rfl (mv_ rfl (wl_ov (ov_seql rfl rfl) rfl (sg_ rfl (sg_ rfl (nn_ ?_)))))
 refine gw_ret ?_
 refine nx_ret2 rfl rfl rfl fun wx hm => ?_
 exact ⟨by rw [if_neg hi00, decide_eq_false hi00]; rfl, hm.g⟩
def prEnc (x : ByteArray × ByteArray) : List Value := [.string x.1, .string x.2]
theorem pr_len (x : ByteArray × ByteArray) : (prEnc x).length = 2 := rfl
theorem pr_sz {x : ByteArray × ByteArray} (h : x ∈ ([(⟨#[115, 49]⟩, ⟨#[115, 50]⟩), (⟨#[115, 49]⟩, ⟨#[115, 51]⟩), (⟨#[115, 50]⟩, ⟨#[115, 49]⟩), (⟨#[115, 51]⟩, ⟨#[115, 50]⟩)] : List (ByteArray × ByteArray))) : x.1.size ≤ 100 ∧ x.2.size ≤ 100 := by
  have key : ∀ y ∈ ([(⟨#[115, 49]⟩, ⟨#[115, 50]⟩), (⟨#[115, 49]⟩, ⟨#[115, 51]⟩), (⟨#[115, 50]⟩, ⟨#[115, 49]⟩), (⟨#[115, 51]⟩, ⟨#[115, 50]⟩)] : List (ByteArray × ByteArray)), y.1.size ≤ 100 ∧ y.2.size ≤ 100 := by decide
  exact key x h
theorem fe_snoc {l : List Fe} {x : Fe} (h : ∀ y ∈ l, FeOk y) (h1 : x.a.size ≤ 1000000) (h2 : x.b.size ≤ 1000000) : ∀ y ∈ l ++ [x], FeOk y := fun y hy => by
  rcases List.mem_append.1 hy with hy | hy
  · exact h y hy
  · rw [List.mem_singleton.1 hy]; exact ⟨h1, h2⟩
theorem gfees_any (w : World) (B sb m : Nat) (hS : Strm 25 w B sb m) (hm : m ≤ 100000000000) :
  Calls Tryz.prog 90 #[.pointer (some ⟨sb, 0, none⟩)] w (fun e w' => ∃ (A : Option Addr) (n c : Nat) (l : List Fe), e = .returned (.slice A n c) ∧ SlT feEnc 3 260 w' A n l ∧ (∀ x ∈ l, FeOk x) ∧ n ≤ 5 ∧ n ≤ c ∧ Strm 25 w' B sb (m + 30) ∧ w.grownBy w' (some sb)) := by
 refine gw_enter ⟨46, w, (some sb), []⟩ Tryz.func90 rfl Tryz.ntmps90 rfl (memS (X := []) hS allF_nil allL_nil) ?_
 refine sr_ (sg_ rfl (nn_ (sr_ (sg_ rfl (nn_ (gw_seq (sr_ ?_)))))))
 refine wl_ov (ov_build (cs := [.string ⟨#[115, 49]⟩, .string ⟨#[115, 50]⟩]) rfl (by kernel_rfl)) rfl ?_
 refine wl_ov (ov_build (cs := [.string ⟨#[115, 49]⟩, .string ⟨#[115, 51]⟩]) rfl (by kernel_rfl)) rfl ?_
 refine wl_ov (ov_build (cs := [.string ⟨#[115, 50]⟩, .string ⟨#[115, 49]⟩]) rfl (by kernel_rfl)) rfl ?_
 refine wl_ov (ov_build (cs := [.string ⟨#[115, 51]⟩, .string ⟨#[115, 50]⟩]) rfl (by kernel_rfl)) rfl ?_
 refine wl_buildSlice (e := 257) (cs := [.string ⟨#[115, 49]⟩, .string ⟨#[115, 50]⟩, .string ⟨#[115, 49]⟩, .string ⟨#[115, 51]⟩, .string ⟨#[115, 50]⟩, .string ⟨#[115, 49]⟩, .string ⟨#[115, 51]⟩, .string ⟨#[115, 50]⟩]) rfl (by kernel_rfl) rfl fun g1 => ?_
 refine wl_ov (ov_len es258 rfl) rfl ?_
 refine wl_set 11 (v' := .int .i64 4) rfl rfl ?_
 refine mv_ rfl (nn_ (gw_block ?_))
 refine gw_nilOwn 260 3 ?_
 refine gw_loop (γ := Nat × Nat × Value × List Fe × List Value) (fun g => g.1 ≤ 4 ∧ g.2.1 ≤ g.1 ∧ g.2.2.2.1.length = g.2.1 ∧ (∀ x ∈ g.2.2.2.1, FeOk x) ∧ g.2.2.2.2 = g.2.2.2.1.flatMap feEnc) (fun g => [(0, .pointer (some ⟨sb, 0, none⟩)), (2, .slice none 0 0), (3, g.2.2.1), (10, .slice (some ⟨g1, 0, none⟩) 4 4), (11, .int .i64 4), (12, .int .i64 ((g.1 : Nat) : Int))]) (fun g => fun w => Strm 25 w B sb (m + 2 * g.1)) (fun g => [(g1, 257, [.string ⟨#[115, 49]⟩, .string ⟨#[115, 50]⟩, .string ⟨#[115, 49]⟩, .string ⟨#[115, 51]⟩, .string ⟨#[115, 50]⟩, .string ⟨#[115, 49]⟩, .string ⟨#[115, 51]⟩, .string ⟨#[115, 50]⟩])]) (fun g => [⟨g.2.2.1, 260, 3, g.2.1, g.2.2.2.2⟩]) (fun g => []) (fun g => 4 - g.1) (0, 0, .slice none 0 0, [], []) ⟨Nat.zero_le _, Nat.zero_le _, rfl, (fun _ h => by cases h), rfl⟩ ⟨rfl, rfl, rfl, rfl, rfl, rfl, trivial⟩ (fun _ hm => (hm.more rfl (by first | omega | (dsimp only; omega))).pick [0] [0] [] rfl rfl) ?_
 rintro ⟨k, n, v, l, xs⟩ hinv
 replace hinv : k ≤ 4 ∧ n ≤ k ∧ l.length = n ∧ (∀ x ∈ l, FeOk x) ∧ xs = l.flatMap feEnc := hinv
 dsimp only
 refine sr_ ?_
 obtain ⟨hi0, hi1, hi2, hi3, rfl⟩ := hinv
 refine wl_ov (ov_lss rfl rfl) rfl (nn_ (gw_seq ?_))
 refine gw_cond rfl (fun hh => ?_) (fun hh => ?_)
 ·have hk : ((k : Nat) : Int) < 4 := by simpa using hh
  clear hh
  refine gw_skip (nx_then (gw_seq (gw_block (sr_ ?_))))
  obtain ⟨nm, hx⟩ : ∃ x, ([(⟨#[115, 49]⟩, ⟨#[115, 50]⟩), (⟨#[115, 49]⟩, ⟨#[115, 51]⟩), (⟨#[115, 50]⟩, ⟨#[115, 49]⟩), (⟨#[115, 51]⟩, ⟨#[115, 50]⟩)] : List (ByteArray × ByteArray))[k]? = some x := ⟨_, List.getElem?_eq_getElem (by simp; omega)⟩
  obtain ⟨na, nb⟩ := nm
  obtain ⟨hna, hnb⟩ := pr_sz (List.mem_of_getElem? hx)
  dsimp only at hna hnb
  refine wl_ov (ov_index (j := k) es258 rfl rfl (by omega)) rfl ?_
  refine wl_ov (ov_elem (vs := [.string na, .string nb]) rz257 rfl (fun _ hm => (SlT.ofBlk (l := [(⟨#[115, 49]⟩, ⟨#[115, 50]⟩), (⟨#[115, 49]⟩, ⟨#[115, 51]⟩), (⟨#[115, 50]⟩, ⟨#[115, 49]⟩), (⟨#[115, 51]⟩, ⟨#[115, 50]⟩)]) pr_len (hm.blkI 0 rfl))) hx rfl rfl) rfl ?_
  refine wl_alloc zc257 rfl fun g2 => ?_
  refine wl_stores (cs' := [.string na, .string nb]) 0 rz257 rfl rfl rfl rfl rfl rfl rfl rfl ?_
  refine nn_ (sr_ (mv_ rfl ?_))
  refine wl_got (γ := Bool) (val := fun v => .bool v) (φ := fun v => True) rfl cb70 rfl rfl rfl rfl (fun wx hm => ((flip_any _ wx B sb _ hm.k (by omega) (by omega) (by omega)).mono fun _ _ ⟨v, he, hS, hg⟩ => ⟨v, trivial, he, hS, hg⟩)) fun f3 _ => ?_
  refine wl_ov (ov_un_not rfl) rfl (nn_ ?_)
  refine gw_cond rfl (fun hh => ?_) (fun hh => ?_)
  ·have hf : f3 = false := by simpa using hh
   clear hh
   refine gd (fun wz => Blk wz g2 257 [.string na, .string nb] ∧ Blk wz g1 257 [.string ⟨#[115, 49]⟩, .string ⟨#[115, 50]⟩, .string ⟨#[115, 49]⟩, .string ⟨#[115, 51]⟩, .string ⟨#[115, 50]⟩, .string ⟨#[115, 49]⟩, .string ⟨#[115, 51]⟩, .string ⟨#[115, 50]⟩] ∧ True) mixed (fun _ hm => ⟨hm.bl 0, hm.bl 1, trivial⟩) fun z => ?_
   refine wt 0 12 1 rfl z (ov_move rfl) ?_
   refine wt 1 12 3 rfl z (ov_indexP (j := 0) ar257 rfl rfl (by decide) rfl) ?_
   refine wt 2 12 7 rfl z (ov_load sc9 rfl (fun _ hm => hm.1) rfl) ?_
   refine wt 3 12 15 rfl z (ov_indexP (j := 1) ar257 rfl rfl (by decide) rfl) ?_
   refine wt 4 12 31 rfl z (ov_load sc9 rfl (fun _ hm => hm.1) rfl) ?_
   refine wt 5 12 63 rfl z (ov_move rfl) ?_
   refine wa1 6 rfl ?_
   refine wl_buildSlice (e := 3) (cs := [.int .i64 0, .int .i64 40, .int .i64 700]) rfl (by kernel_rfl) rfl fun g4 => ?_
   refine wl_nil ?_
   refine nw 12 127 (fun _ hm => ⟨hm.bl 1, hm.bl 2, trivial⟩) fun z => ?_
   refine wa1 7 rfl ?_
   refine wl_got (γ := Int) (val := fun v => .int .i64 v) (φ := fun v => v ∈ ([0, 40, 700] : List Int)) rfl cb24 rfl rfl rfl rfl (fun wx hm => (pick_any [0, 40, 700] _ _ _ wx B sb _ hm.k (by omega) (by simp) (by simp) (hm.blkI 0 rfl) (hm.neRow 0 rfl rfl))) fun v5 hv5 => ?_
   have bv5 : 0 ≤ v5 ∧ v5 ≤ 700 := mem_rng hv5 (by decide)
   have bv50 := bv5.1
   have bv51 := bv5.2
   clear bv5
   refine wl_nil ?_
   refine nw 12 255 (fun _ hm => ⟨hm.bl 1, hm.bl 2, trivial⟩) fun z => ?_
   refine wt 8 12 511 rfl z (ov_build (cs := [.string na, .string nb, .int .i64 v5]) rfl (by kernel_rfl)) ?_
   refine wa1 9 rfl ?_
   refine wl_buildSlice (e := 260) (cs := [.string na, .string nb, .int .i64 v5]) rfl (by kernel_rfl) rfl fun g6 => ?_
   refine wl_nil ?_
   refine nw 12 1023 (fun _ hm => ⟨hm.bl 2, hm.bl 3, trivial⟩) fun z => ?_
   refine wa1 10 rfl ?_
   refine wl_append (news := [.string na, .string nb, .int .i64 v5]) 0 0 ap28 rfl rfl rfl rfl rfl rfl rfl (by omega) (by unfold maxLen; omega) rfl rfl fun v2 hv2 => ?_
   refine wl_nil ?_
   refine nw 12 2047 (fun _ hm => ⟨hm.bl 2, hm.bl 3, trivial⟩) fun z => ?_
   refine wt 11 12 4095 rfl z (ov_assign rfl) ?_
   refine wa_done (by kernel_rfl) ?_
   refine nx_blk_nrm (nx_then (gw_region (ad_ rfl rfl (mv_ rfl (wl_nil ?_)))))
   exact nx_round (k + 1, n + 1, v2, l ++ [⟨na, nb, v5⟩], l.flatMap feEnc ++ ([.string na, .string nb, .int .i64 v5] : List Value)) ⟨by dsimp only; omega, by dsimp only; omega, by simp [hi2], fe_snoc hi3 (show na.size ≤ 1000000 by omega) (show nb.size ≤ 1000000 by omega), by simp [feEnc]⟩ (by dsimp only; omega) ⟨rfl, rfl, rfl, rfl, rfl, (some_int (by omega)), trivial⟩ (fun _ hm => (hm.more rfl (by first | omega | (dsimp only; omega))).pick [3] [0] [] rfl rfl)
  have hf : f3 = true := by simpa using hh
  clear hh
  refine gw_skip (nx_blk_nrm (nx_then (gw_region (ad_ rfl rfl (mv_ rfl (wl_nil ?_))))))
  exact nx_round (k + 1, n, v, l, l.flatMap feEnc) ⟨by dsimp only; omega, by dsimp only; omega, hi2, hi3, rfl⟩ (by dsimp only; omega) ⟨rfl, rfl, rfl, rfl, rfl, (some_int (by omega)), trivial⟩ (fun _ hm => (hm.more rfl (by first | omega | (dsimp only; omega))).pick [1] [0] [] rfl rfl)
 have hk : ¬ (((k : Nat) : Int) < 4) := by simpa using hh
 clear hh
 refine gw_exit ?_
 refine nx_then_exit (nx_then_exit ?_)
 refine nx_blk_here ?_
 refine nx_then (gw_seq (sr_ (mv_ rfl ?_)))
 refine wl_got (γ := Bool) (val := fun v => .bool v) (φ := fun v => True) rfl cb70 rfl rfl rfl rfl (fun wx hm => ((flip_any _ wx B sb _ hm.k (by omega) (by omega) (by omega)).mono fun _ _ ⟨v, he, hS, hg⟩ => ⟨v, trivial, he, hS, hg⟩)) fun f7 _ => ?_
 refine nn_ ?_
 refine gw_cond rfl (fun hh => ?_) (fun hh => ?_)
 ·have hf : f7 = true := by simpa using hh
  clear hh
  refine gw_region (mv_ rfl (mv_ rfl ?_))
  refine wl_buildSlice (e := 9) (cs := [.string ⟨#[115, 51]⟩, .string ⟨#[65]⟩, .string ⟨#[115, 49]⟩]) rfl (by kernel_rfl) rfl fun g8 => ?_
  refine wl_got (γ := ByteArray) (val := fun v => .string v) (φ := fun v => v ∈ ([⟨#[115, 51]⟩, ⟨#[65]⟩, ⟨#[115, 49]⟩] : List ByteArray)) rfl cb60 rfl rfl rfl rfl (fun wx hm => (some_any [⟨#[115, 51]⟩, ⟨#[65]⟩, ⟨#[115, 49]⟩] _ _ _ wx B sb _ hm.k (by omega) (by simp) (by simp) (hm.blkI 0 rfl) (hm.neRow 0 rfl rfl))) fun s9 hs9 => ?_
  have zs9 : s9.size ≤ 100 := mem_sz hs9 (by decide)
  refine mv_ rfl ?_
  refine wl_buildSlice (e := 9) (cs := [.string ⟨#[115, 51]⟩, .string ⟨#[115, 57]⟩, .string ⟨#[]⟩]) rfl (by kernel_rfl) rfl fun g10 => ?_
  refine wl_got (γ := ByteArray) (val := fun v => .string v) (φ := fun v => v ∈ ([⟨#[115, 51]⟩, ⟨#[115, 57]⟩, ⟨#[]⟩] : List ByteArray)) rfl cb60 rfl rfl rfl rfl (fun wx hm => (some_any [⟨#[115, 51]⟩, ⟨#[115, 57]⟩, ⟨#[]⟩] _ _ _ wx B sb _ hm.k (by omega) (by simp) (by simp) (hm.blkI 0 rfl) (hm.neRow 0 rfl rfl))) fun s11 hs11 => ?_
  have zs11 : s11.size ≤ 100 := mem_sz hs11 (by decide)
  refine mv_ rfl ?_
  refine wl_got (γ := Int) (val := fun v => .int .i64 v) (φ := fun v => -2000000000000000 ≤ v ∧ v ≤ 2000000000000000) rfl cb119 rfl rfl rfl rfl (fun wx hm => (odd_any _ _ wx B sb _ hm.k (by omega) (by omega) (by omega) (by omega))) fun v12 hv12 => ?_
  refine wl_ov (ov_build (cs := [.string s9, .string s11, .int .i64 v12]) rfl (by kernel_rfl)) rfl ?_
  refine wl_buildSlice (e := 260) (cs := [.string s9, .string s11, .int .i64 v12]) rfl (by kernel_rfl) rfl fun g13 => ?_
  refine wl_append (news := [.string s9, .string s11, .int .i64 v12]) 0 0 ap28 rfl rfl rfl rfl rfl rfl rfl (by omega) (by unfold maxLen; omega) rfl rfl fun v2 hv2 => ?_
  refine wl_look (R := ∃ A cc, v2 = .slice A (n + 1) cc) (fun wx hm => own_slice (hm.ownI 0 rfl)) ?_
  rintro ⟨A, c, rfl⟩
  refine sg_ rfl (nn_ (sr_ (mv_ rfl (sg_ rfl (nn_ ?_)))))
  refine gw_ret ?_
  refine nx_ret1 rfl rfl fun wx hm => ?_
  exact ⟨A, n + 1, c, l ++ [⟨s9, s11, v12⟩], rfl, SlT.ofOwn (l := l ++ [⟨s9, s11, v12⟩]) fee_len (by have h := hm.ownI 0 rfl; simpa [feEnc] using h) (by simp [hi2]), fe_snoc hi3 (show s9.size ≤ 1000000 by omega) (show s11.size ≤ 1000000 by omega), by omega, own_cap (hm.ownI 0 rfl), hm.k.more (by omega), hm.g⟩
 have hf : f7 = false := by simpa using hh
 clear hh
 refine gw_skip (nx_then (sr_ ?_))
 refine wl_look (R := ∃ A cc, v = .slice A n cc) (fun wx hm => own_slice (hm.ownI 0 rfl)) ?_
 rintro ⟨A, c, rfl⟩
 refine mv_ rfl (sg_ rfl (nn_ ?_))
 refine gw_ret ?_
 refine nx_ret1 rfl rfl fun wx hm => ?_
 exact ⟨A, n, c, l, rfl, SlT.ofOwn fee_len (hm.ownI 0 rfl) hi2, hi3, by omega, own_cap (hm.ownI 0 rfl), hm.k.more (by omega), hm.g⟩
end Go.Proofs.YtnmpniaocjmkfaaGreatDoor
