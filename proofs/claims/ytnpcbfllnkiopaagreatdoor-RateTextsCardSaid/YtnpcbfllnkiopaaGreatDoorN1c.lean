/- Several texts as one: Tj Tk Tm Twt Yn -/
import Derived.Test.YtnpcbfllnkiopaaGreatDoorN1b
import Derived.Test.YtnpcbfllnkiopaaGreatDoorN1a
import Derived.Lay
import Derived.LaidSub
import Derived.MakeChecks
import Derived.Stop.LaidErr
import Derived.Lib.LaidU8
import Derived.Shelf.Vars
set_option maxRecDepth 100000
set_option maxHeartbeats 4000000
namespace Go.Proofs.YtnpcbfllnkiopaaGreatDoor
open Go.RowKit
def RateOk (r : Rt) : Prop := (-1 ≤ r.hr ∧ r.hr ≤ 1000000) ∧ (-1 ≤ r.dy ∧ r.dy ≤ 1000000) ∧ (-1 ≤ r.we ∧ r.we ≤ 1000000) ∧ (-1 ≤ r.wk ∧ r.wk ≤ 1000000)
theorem rate_ok {l : List Rt} (h : ratesE l = 0) : ∀ r ∈ l, RateOk r := fun r hr => ((ratesE_ok h).2.2 r hr).2.2
theorem take_one {α : Type} {l : List α} {i mm : Nat} {x : α} (h : l[i]? = some x) (hm : 0 < mm) : x ∈ (l.drop i).take mm := by
  apply List.mem_of_getElem? (i := 0)
  rw [List.getElem?_take, if_pos hm, List.getElem?_drop, Nat.add_zero, h]
theorem same_step {l : List Int} {i j : Nat} {x k : Int} (h : l[i + j]? = some x) : ((l.drop i).take (j + 1)).all (fun y => decide (y = k)) = (((l.drop i).take j).all (fun y => decide (y = k)) && decide (x = k)) := by
  rw [List.take_add_one, List.getElem?_drop, h, List.all_append]; simp
theorem all_same {l : List Int} {k : Int} : l.all (fun y => decide (y = k)) = true ↔ ∀ y ∈ l, some k = some y := by
  rw [List.all_eq_true]
  exact ⟨fun h y hy => by rw [of_decide_eq_true (h y hy)], fun h y hy => decide_eq_true (Option.some.inj (h y hy)).symm⟩
theorem tprice_any (l : List Rt) (A : Option Addr) (n c0 : Nat) (fr tt : Int) (sea : List Int) (A2 : Option Addr) (n2 c2 : Nat) (kd : Int) (i : Nat) (mv : Int) (w : World) (hl : SlT rtEnc 7 38 w A n l) (hs : SlT itEnc 1 3 w A2 n2 sea) (hc2 : n2 ≤ c2) (hn2 : n2 ≤ 120) (hi : i < n2) (hsea : ∀ k ∈ sea, -1 ≤ k ∧ k < (l.length : Int)) (hr : ∀ r ∈ l, RateOk r) (h0 : 0 ≤ fr) (h00 : fr ≤ 5761439) (ht0 : 0 ≤ tt) (ht1 : tt ≤ 5761439) (hto : begV fr i ≤ tt) :
  Calls Tryz.prog 242 #[.agg #[.slice A n c0, .int .i64 fr, .int .i64 tt, .slice A2 n2 c2], .int .i64 kd, .int .i64 ((i : Nat) : Int), .int .i64 mv] w (fun e w' => e = .returned (.tuple #[.int .i64 ((priceO l sea fr tt kd i mv).getD 0), .bool (priceO l sea fr tt kd i mv).isSome]) ∧ w.grownBy w' none) := by
 refine gw_enter ⟨135, w, none, []⟩ Tryz.func242 rfl Tryz.ntmps242 rfl (mem0 (X := [SlOld rtEnc 7 38 w.heap.size none A n l, SlOld itEnc 1 3 w.heap.size none A2 n2 sea]) (allF_cons hl.old (allF_cons hs.old allF_nil)) (allL_cons SlOld.lasts (allL_cons SlOld.lasts allL_nil))) ?_
 refine sr_ ?_
 have hlen := hl.len
 have hslen := hs.len
 refine wl_box rfl rfl rfl fun g1 => ?_
 refine sg_ rfl (sg_ rfl (nn_ (sr_ (fd_ fo223_2 rfl rfl (lk_ sc22 0 rfl rfl rfl (wl_ov (ov_len es22 rfl) rfl (mv_ rfl ?_)))))))
 refine wl_ov (ov_sub rfl rfl (by omega) (by omega)) rfl ?_
 refine sg_ rfl (nn_ (gw_seq (sr_ (mv_ rfl (wl_ov (ov_lss rfl rfl) rfl (mv_ rfl ?_))))))
 rcases Bool.eq_false_or_eq_true (decide (mv < 1)) with h1 | h1
 ·refine wl_set 24 rfl (congrArg Value.bool h1) ?_
  refine goff rfl rfl rfl (goff rfl rfl rfl (goff rfl rfl rfl (pt_ rfl rfl (mv_ rfl (goff rfl rfl rfl (goff rfl rfl rfl (goff rfl rfl rfl (goff rfl rfl rfl (goff rfl rfl rfl (goff rfl rfl rfl (goff rfl rfl rfl (goff rfl rfl rfl (pt_ rfl rfl ?_)))))))))))))
  refine nn_ (ct_ rfl (sr_ (sg_ rfl (sg_ rfl (nn_ ?_)))))
  refine gw_ret ?_
  refine nx_then_ret ?_
  refine nx_ret2 rfl rfl rfl fun wx hm => ?_
  have hP : priceO l sea fr tt kd i mv = none := price_no (.inl (of_decide_eq_true h1))
  refine ⟨?_, hm.g⟩
  rw [hP]; rfl
 refine wl_set 24 rfl (congrArg Value.bool h1) ?_
 have h1 := of_decide_eq_false h1
 obtain ⟨mm, hmm⟩ := Int.eq_ofNat_of_zero_le (show 0 ≤ mv by omega)
 subst hmm
 have hm1 : 0 < mm := by omega
 refine wl_guard_on rfl rfl rfl (mv_ rfl (wl_guard_on rfl rfl rfl (mv_ rfl (wl_guard_on rfl rfl rfl ?_))))
 refine wl_ov (ov_gtr rfl rfl) rfl ?_
 refine pf_ rfl rfl (mv_ rfl ?_)
 rcases Bool.eq_false_or_eq_true (decide (((n2 : Nat) : Int) - ((i : Nat) : Int) < ((mm : Nat) : Int))) with h2 | h2
 ·refine wl_set 29 rfl (congrArg Value.bool h2) ?_
  refine goff rfl rfl rfl (goff rfl rfl rfl (goff rfl rfl rfl (goff rfl rfl rfl (goff rfl rfl rfl (goff rfl rfl rfl (goff rfl rfl rfl (goff rfl rfl rfl (pt_ rfl rfl (nn_ (ct_ rfl (sr_ ?_)))))))))))
  refine sg_ rfl (sg_ rfl (nn_ ?_))
  refine gw_ret ?_
  refine nx_then_ret ?_
  refine nx_ret2 rfl rfl rfl fun wx hm => ?_
  have hP : priceO l sea fr tt kd i ((mm : Nat) : Int) = none := price_no (.inr (.inl (by have h2 := of_decide_eq_true h2; omega)))
  refine ⟨?_, hm.g⟩
  rw [hP]; rfl
 refine wl_set 29 rfl (congrArg Value.bool h2) ?_
 have h2 := of_decide_eq_false h2
 have himm : i + mm ≤ n2 := by omega
 obtain ⟨b2, o2, hA, _, _⟩ := hs.get (by omega)
 subst hA
 refine wl_guard_on rfl rfl rfl (fd_ fo223_2 rfl rfl (wl_guard_on rfl rfl rfl (lk_ sc22 0 rfl rfl rfl (wl_guard_on rfl rfl rfl (mv_ rfl (wl_guard_on rfl rfl rfl (mv_ rfl (wl_guard_on rfl rfl rfl (mv_ rfl (wl_guard_on rfl rfl rfl (ad_ rfl rfl ?_)))))))))))
 refine wl_set 35 (v' := .int .i64 ((i + mm : Nat) : Int)) rfl (congrArg (Value.int .i64) (by omega)) ?_
 refine wl_guard_on rfl rfl rfl ?_
 refine wl_ov (ov_sliceLH (lo := i) (hi := i + mm) es22 rfl rfl rfl rfl rfl (by omega) (by omega)) rfl ?_
 refine wl_set 36 (v' := .slice (some ⟨b2, o2 + i, none⟩) mm (c2 - i)) rfl (slice_cut (by omega)) ?_
 refine wl_guard_on rfl rfl rfl ?_
 refine wl_callv rfl cb297 rfl rfl (fun wx hm => (contains_int ((sea.drop i).take mm) _ mm _ (-1) wx (SlT.cut (hm.fact 1 rfl).1 himm hi) (by omega))) ?_
 refine pf_ rfl rfl (nn_ ?_)
 refine gw_cond rfl (fun hh => ?_) (fun hh => ?_)
 ·have h3 : (-1 : Int) ∈ (sea.drop i).take mm := by simpa using hh
  clear hh
  refine sr_ (sg_ rfl (sg_ rfl (nn_ ?_)))
  refine gw_ret ?_
  refine nx_then_ret ?_
  refine nx_ret2 rfl rfl rfl fun wx hm => ?_
  have hP : priceO l sea fr tt kd i ((mm : Nat) : Int) = none := price_no (.inr (.inr (by simpa using h3)))
  refine ⟨?_, hm.g⟩
  rw [hP]; rfl
 have h3 : ¬ ((-1 : Int) ∈ (sea.drop i).take mm) := by simpa using hh
 clear hh
 refine gw_skip (nx_then (gw_seq ?_))
 have hbad : ¬ (((mm : Nat) : Int) < 1 ∨ (sea.length : Int) - (i : Int) < ((mm : Nat) : Int) ∨ (-1 : Int) ∈ (sea.drop i).take (((mm : Nat) : Int)).toNat) := by
  rw [Int.toNat_natCast]
  rintro (h | h | h)
  ·omega
  ·omega
  exact h3 h
 obtain ⟨k0, hk0⟩ : ∃ x, sea[i]? = some x := ⟨_, List.getElem?_eq_getElem (by omega)⟩
 obtain ⟨hk1, hk2⟩ := hsea k0 (List.mem_of_getElem? hk0)
 have hk3 : k0 ≠ -1 := fun h => h3 (h ▸ take_one hk0 hm1)
 obtain ⟨kk, hkk⟩ := Int.eq_ofNat_of_zero_le (show 0 ≤ k0 by omega)
 subst hkk
 have hkn : kk < n := by omega
 obtain ⟨y, hy⟩ : ∃ x, l[kk]? = some x := ⟨_, List.getElem?_eq_getElem (by omega)⟩
 obtain ⟨⟨q1, q2⟩, ⟨q3, q4⟩, ⟨q5, q6⟩, ⟨q7, q8⟩⟩ := hr y (List.mem_of_getElem? hy)
 obtain ⟨cl, rf, rt, ho, dd, we, wk⟩ := y
 dsimp only at q1 q2 q3 q4 q5 q6 q7 q8
 have hgo := price_go (fr := fr) (to_ := tt) (kind := kd) hbad hk0 (by rw [Int.toNat_natCast]; exact hy)
 obtain ⟨b, off, hA, _, _⟩ := hl.get (by omega)
 subst hA
 refine gd (fun wz => Blk wz g1 223 [.slice (some ⟨b, off, none⟩) n c0, .int .i64 fr, .int .i64 tt, .slice (some ⟨b2, o2, none⟩) n2 c2] ∧ (SlOld rtEnc 7 38 w.heap.size none (some ⟨b, off, none⟩) n l) wz ∧ (SlOld itEnc 1 3 w.heap.size none (some ⟨b2, o2, none⟩) n2 sea) wz ∧ True) mixed (fun _ hm => ⟨hm.bl 0, hm.fa 0, hm.fa 1, trivial⟩) fun z => ?_
 refine wt 0 11 1 rfl z (ov_field fo223_0 rfl rfl) ?_
 refine wt 1 11 3 rfl z (ov_load sc26 rfl (fun _ hm => hm.1) rfl) ?_
 refine wt 2 11 7 rfl z (ov_field fo223_2 rfl rfl) ?_
 refine wt 3 11 15 rfl z (ov_load sc22 rfl (fun _ hm => hm.1) rfl) ?_
 refine wt 4 11 31 rfl z (ov_move rfl) ?_
 refine wt 5 11 63 rfl z (ov_index (j := i) es22 rfl rfl (by omega)) ?_
 refine wt 6 11 127 rfl z (ov_elem1 (k := 0) (v := .int .i64 ((kk : Nat) : Int)) sc3 rfl (fun _ hm => (hm.2.2.1).1) hk0 rfl rfl) ?_
 refine wt 7 11 255 rfl z (ov_index (j := kk) es26 rfl rfl (by omega)) ?_
 refine wt 8 11 511 rfl z (ov_elem (vs := [.string cl, .int .i64 rf, .int .i64 rt, .int .i64 ho, .int .i64 dd, .int .i64 we, .int .i64 wk]) rz38 rfl (fun _ hm => (hm.2.1).1) hy rfl rfl) ?_
 refine wa1 9 rfl ?_
 refine wl_alloc zc38 rfl fun g2 => ?_
 refine wl_nil ?_
 refine nw 11 1023 (fun _ hm => ⟨hm.bl 1, hm.fa 0, hm.fa 1, trivial⟩) fun z => ?_
 refine wa1 10 rfl ?_
 refine wl_stores (cs' := [.string cl, .int .i64 rf, .int .i64 rt, .int .i64 ho, .int .i64 dd, .int .i64 we, .int .i64 wk]) 0 rz38 rfl rfl rfl rfl rfl rfl rfl rfl ?_
 refine wl_nil ?_
 refine nw 11 2047 (fun _ hm => ⟨hm.bl 1, hm.fa 0, hm.fa 1, trivial⟩) fun z => ?_
 refine wa_done (by kernel_rfl) ?_
 refine nx_then (sr_ (mv_ rfl (wl_ov (ov_eql rfl rfl) rfl (sg_ rfl ?_))))
 refine wl_set 12 (v' := .int .i64 (-1)) rfl rfl ?_
 refine sg_ rfl (nn_ (gw_seq (sr_ (mv_ rfl (nn_ (gw_block (sr_ (wl_ov (ov_eql rfl rfl) rfl (sg_ rfl ?_)))))))))
 refine nn_ ?_
 refine gw_cond rfl (fun hh => ?_) (fun hh => ?_)
 ·have hk : kd = 1 := by simpa using hh
  clear hh
  refine gw_region (fd_ fo38_3 rfl rfl (lk_ sc3 0 rfl rfl rfl (mv_ rfl (mv_ rfl ?_))))
  rcases Bool.eq_false_or_eq_true (decide (((mm : Nat) : Int) = 1)) with hmm1 | hmm1
  ·refine wl_set 56 rfl (congrArg Value.bool hmm1) ?_
   have hmm1 := of_decide_eq_true hmm1
   refine wl_guard_on rfl rfl rfl (mv_ rfl (wl_guard_on rfl rfl rfl (wl_ov (ov_eql rfl rfl) rfl (pt_ rfl rfl (sg_ rfl (sg_ rfl (wl_nil (nx_blk_nrm (nx_then (gw_seq (sr_ (mv_ rfl ?_))))))))))))
   refine wl_ov (ov_un_not rfl) rfl (mv_ rfl ?_)
   rcases Bool.eq_false_or_eq_true (!(decide (((n2 : Nat) : Int) - ((i : Nat) : Int) = 1))) with hL | hL
   ·refine wl_set 117 rfl (congrArg Value.bool hL) ?_
    have hL : ¬ (sea.length = i + 1) := by simp at hL; omega
    refine goff rfl rfl rfl (goff rfl rfl rfl (pt_ rfl rfl (nn_ (ct_ rfl (sr_ (sg_ rfl (sg_ rfl (nn_ ?_))))))))
    refine gw_ret ?_
    refine nx_then_ret ?_
    refine nx_ret2 rfl rfl rfl fun wx hm => ?_
    have hP : priceK ⟨cl, rf, rt, ho, dd, we, wk⟩ sea fr tt kd i ((mm : Nat) : Int) = none := by
     unfold priceK
     rw [if_pos hk, if_neg (fun h => hL h.2.1)]
    refine ⟨?_, hm.g⟩
    rw [hgo, hP]; rfl
   refine wl_set 117 rfl (congrArg Value.bool hL) ?_
   have hL : sea.length = i + 1 := by simp at hL; omega
   refine wl_guard_on rfl rfl rfl (mv_ rfl (wl_guard_on rfl rfl rfl (wl_ov (ov_lss rfl rfl) rfl (pf_ rfl rfl (nn_ ?_)))))
   refine gw_cond rfl (fun hh => ?_) (fun hh => ?_)
   ·have hz : ho < 0 := by simpa using hh
    clear hh
    refine sr_ (sg_ rfl (sg_ rfl (nn_ ?_)))
    refine gw_ret ?_
    refine nx_then_ret ?_
    refine nx_ret2 rfl rfl rfl fun wx hm => ?_
    have hP : priceK ⟨cl, rf, rt, ho, dd, we, wk⟩ sea fr tt kd i ((mm : Nat) : Int) = none := by
     unfold priceK
     rw [if_pos hk]; rw [if_neg (fun h => absurd h.2.2 (show ¬ 0 ≤ ho by omega))]
    refine ⟨?_, hm.g⟩
    rw [hgo, hP]; rfl
   have hz : ¬ (ho < 0) := by simpa using hh
   clear hh
   refine gw_skip (nx_then (gw_seq (sr_ ?_)))
   obtain ⟨E, hE⟩ : ∃ E, E = endV fr tt i := ⟨_, rfl⟩
   obtain ⟨G, hG⟩ : ∃ E, E = begV fr i := ⟨_, rfl⟩
   have hEG : 0 ≤ E - G ∧ E - G ≤ 1440 := by rw [hE, hG]; unfold endV; unfold begV at hto ⊢; omega
   have hG0 : 0 ≤ G := by rw [hG]; unfold begV; omega
   have hE0 : E ≤ 10000000 := by rw [hE]; unfold endV; omega
   have hq0 : 0 ≤ (E - G + 59) / 60 := by omega
   have hq1 : (E - G + 59) / 60 ≤ 24 := by omega
   have hml0 : 0 ≤ ho * ((E - G + 59) / 60) := Int.mul_nonneg (by omega) hq0
   have hml1 : ho * ((E - G + 59) / 60) ≤ 1000000 * 24 := Int.mul_le_mul q2 hq1 hq0 (by omega)
   have hEG0 := hEG.1
   have hEG1 := hEG.2
   refine mv_ rfl (wl_ov (ov_eql rfl rfl) rfl ?_)
   refine wl_set 122 (v' := .bool true) rfl (congrArg Value.bool (decide_eq_true hk)) ?_
   refine nn_ (ct_ rfl ?_)
   refine gd (fun wz => Blk wz g2 38 [.string cl, .int .i64 rf, .int .i64 rt, .int .i64 ho, .int .i64 dd, .int .i64 we, .int .i64 wk] ∧ Blk wz g1 223 [.slice (some ⟨b, off, none⟩) n c0, .int .i64 fr, .int .i64 tt, .slice (some ⟨b2, o2, none⟩) n2 c2] ∧ (SlOld rtEnc 7 38 w.heap.size none (some ⟨b, off, none⟩) n l) wz ∧ (SlOld itEnc 1 3 w.heap.size none (some ⟨b2, o2, none⟩) n2 sea) wz ∧ True) mixed (fun _ hm => ⟨hm.bl 0, hm.bl 1, hm.fa 0, hm.fa 1, trivial⟩) fun z => ?_
   refine wt 0 12 1 rfl z (ov_move rfl) ?_
   refine wt 1 12 3 rfl z (ov_loads rz223 rfl (fun _ hm => hm.2.1) rfl rfl) ?_
   refine wt 2 12 7 rfl z (ov_move rfl) ?_
   refine wt 4 12 23 rfl z (ov_loads rz223 rfl (fun _ hm => hm.2.1) rfl rfl) ?_
   refine wt 5 12 55 rfl z (ov_move rfl) ?_
   refine wa1 3 rfl ?_
   refine wl_callv (v := .int .i64 E) rfl cb299 rfl rfl (fun wx hm => (by rw [hE]; exact tend_any _ _ _ fr tt _ i wx h0 h00 (by omega))) ?_
   refine wl_nil ?_
   refine nw 12 63 (fun _ hm => ⟨hm.bl 0, hm.bl 1, hm.fa 0, hm.fa 1, trivial⟩) fun z => ?_
   refine wa1 6 rfl ?_
   refine wl_callv (v := .int .i64 G) rfl cb241 rfl rfl (fun wx hm => (by rw [hG]; exact tbegin_any _ _ _ fr tt _ i wx h0 h00 (by omega))) ?_
   refine wl_nil ?_
   refine nw 12 127 (fun _ hm => ⟨hm.bl 0, hm.bl 1, hm.fa 0, hm.fa 1, trivial⟩) fun z => ?_
   refine wt 7 12 255 rfl z (ov_sub rfl rfl (by omega) (by omega)) ?_
   refine wt 8 12 511 rfl z (ov_add rfl rfl (by omega) (by omega)) ?_
   refine wt 9 12 1023 rfl z (ov_quo rfl rfl (by omega) (by omega) (by omega)) ?_
   refine wt 10 12 2047 rfl z (ov_mul rfl rfl (by omega) (by omega)) ?_
   refine wt 11 12 4095 rfl z (ov_assign rfl) ?_
   refine wa_done (by kernel_rfl) ?_
   refine nx_then (sr_ (mv_ rfl (sg_ rfl (sg_ rfl (nn_ ?_)))))
   refine gw_ret ?_
   refine nx_ret2 rfl rfl rfl fun wx hm => ?_
   have hP : priceK ⟨cl, rf, rt, ho, dd, we, wk⟩ sea fr tt kd i ((mm : Nat) : Int) = some (ho * ((E - G + 59) / 60)) := by
    unfold priceK
    rw [if_pos hk]; rw [if_pos ⟨hmm1, hL, (show 0 ≤ ho by omega)⟩]; rw [hE, hG]
   refine ⟨?_, hm.g⟩
   rw [hgo, hP]; rfl
  refine wl_set 56 rfl (congrArg Value.bool hmm1) ?_
  have hmm1 := of_decide_eq_false hmm1
  refine goff rfl rfl rfl (goff rfl rfl rfl (pf_ rfl rfl (sg_ rfl (sg_ rfl (wl_nil (nx_blk_nrm (nx_then (gw_seq (sr_ (mv_ rfl (wl_ov (ov_un_not rfl) rfl ?_)))))))))))
  refine wl_set 116 (v' := .bool true) rfl (congrArg Value.bool (by decide)) ?_
  refine mv_ rfl (goff rfl rfl rfl (goff rfl rfl rfl (pt_ rfl rfl (nn_ (ct_ rfl (sr_ (sg_ rfl (sg_ rfl (nn_ ?_)))))))))
  refine gw_ret ?_
  refine nx_then_ret ?_
  refine nx_ret2 rfl rfl rfl fun wx hm => ?_
  have hP : priceK ⟨cl, rf, rt, ho, dd, we, wk⟩ sea fr tt kd i ((mm : Nat) : Int) = none := by
   unfold priceK
   rw [if_pos hk, if_neg (fun h => hmm1 h.1)]
  refine ⟨?_, hm.g⟩
  rw [hgo, hP]; rfl
 have hk : ¬ (kd = 1) := by simpa using hh
 clear hh
 refine sr_ (wl_ov (ov_eql rfl rfl) rfl (sg_ rfl (nn_ ?_)))
 refine gw_cond rfl (fun hh => ?_) (fun hh => ?_)
 ·have hk : kd = 2 := by simpa using hh
  clear hh
  refine gw_region ?_
  have hk1 : ¬ kd = 1 := by omega
  refine fd_ fo38_4 rfl rfl (lk_ sc3 0 rfl rfl rfl (sg_ rfl (wl_nil (nx_blk_nrm (nx_then (gw_seq (sr_ (mv_ rfl (wl_ov (ov_un_not rfl) rfl (mv_ rfl ?_))))))))))
  rcases Bool.eq_false_or_eq_true (!(decide (((mm : Nat) : Int) = 1))) with hmm1 | hmm1
  ·refine wl_set 117 rfl (congrArg Value.bool hmm1) ?_
   have hmm1 : ¬ ((mm : Nat) : Int) = 1 := by simpa using hmm1
   refine goff rfl rfl rfl (goff rfl rfl rfl (pt_ rfl rfl (nn_ (ct_ rfl (sr_ (sg_ rfl (sg_ rfl (nn_ ?_))))))))
   refine gw_ret ?_
   refine nx_then_ret ?_
   refine nx_ret2 rfl rfl rfl fun wx hm => ?_
   have hP : priceK ⟨cl, rf, rt, ho, dd, we, wk⟩ sea fr tt kd i ((mm : Nat) : Int) = none := by
    unfold priceK
    rw [if_neg hk1, if_pos hk, if_neg (fun h => hmm1 h.1)]
   refine ⟨?_, hm.g⟩
   rw [hgo, hP]; rfl
  refine wl_set 117 rfl (congrArg Value.bool hmm1) ?_
  have hmm1 : ((mm : Nat) : Int) = 1 := by simpa using hmm1
  refine wl_guard_on rfl rfl rfl (mv_ rfl (wl_guard_on rfl rfl rfl (wl_ov (ov_lss rfl rfl) rfl (pf_ rfl rfl (nn_ ?_)))))
  refine gw_cond rfl (fun hh => ?_) (fun hh => ?_)
  ·have hz : dd < 0 := by simpa using hh
   clear hh
   refine sr_ (sg_ rfl (sg_ rfl (nn_ ?_)))
   refine gw_ret ?_
   refine nx_then_ret ?_
   refine nx_ret2 rfl rfl rfl fun wx hm => ?_
   have hP : priceK ⟨cl, rf, rt, ho, dd, we, wk⟩ sea fr tt kd i ((mm : Nat) : Int) = none := by
    unfold priceK
    rw [if_neg hk1, if_pos hk]; rw [if_neg (fun h => absurd h.2 (show ¬ 0 ≤ dd by omega))]
   refine ⟨?_, hm.g⟩
   rw [hgo, hP]; rfl
  have hz : ¬ (dd < 0) := by simpa using hh
  clear hh
  refine gw_skip (nx_then (gw_seq (sr_ (mv_ rfl (wl_ov (ov_eql rfl rfl) rfl ?_)))))
  refine wl_set 122 (v' := .bool false) rfl (congrArg Value.bool (decide_eq_false (by omega))) ?_
  refine nn_ (cf_ rfl (gw_skip (nx_then (sr_ (mv_ rfl (sg_ rfl (sg_ rfl (nn_ ?_))))))))
  refine gw_ret ?_
  refine nx_ret2 rfl rfl rfl fun wx hm => ?_
  have hP : priceK ⟨cl, rf, rt, ho, dd, we, wk⟩ sea fr tt kd i ((mm : Nat) : Int) = some (dd) := by
   unfold priceK
   rw [if_neg hk1, if_pos hk]; rw [if_pos ⟨hmm1, (show 0 ≤ dd by omega)⟩]
  refine ⟨?_, hm.g⟩
  rw [hgo, hP]; rfl
 have hk : ¬ (kd = 2) := by simpa using hh
 clear hh
 refine sr_ (wl_ov (ov_eql rfl rfl) rfl (sg_ rfl (nn_ ?_)))
 refine gw_cond rfl (fun hh => ?_) (fun hh => ?_)
 ·have hk : kd = 3 := by simpa using hh
  clear hh
  refine sr_ ?_
  have hk1 : ¬ kd = 1 := by omega
  have hk2 : ¬ kd = 2 := by omega
  obtain ⟨G, hG⟩ : ∃ E, E = begV fr i := ⟨_, rfl⟩
  have hG0 : 0 ≤ G := by rw [hG]; unfold begV; omega
  have hG1 : G ≤ 10000000 := by rw [hG]; unfold begV; omega
  obtain ⟨W, hW⟩ : ∃ E, E = wkE G := ⟨_, rfl⟩
  obtain ⟨E2, hE2⟩ : ∃ E, E = endV fr tt (i + mm - 1) := ⟨_, rfl⟩
  refine wl_ov (ov_loads rz223 rfl (fun _ hm => hm.blkI 1 rfl) rfl rfl) rfl ?_
  refine mv_ rfl ?_
  refine wl_callv (v := .int .i64 G) rfl cb241 rfl rfl (fun wx hm => (by rw [hG]; exact tbegin_any _ _ _ fr tt _ i wx h0 h00 (by omega))) ?_
  refine wl_callv (v := .int .i64 W) rfl cb298 rfl rfl (fun wx hm => (by rw [hW]; exact tweekend_any G wx hG0 (by omega))) ?_
  refine sg_ rfl (nn_ ?_)
  refine gd (fun wz => Blk wz g2 38 [.string cl, .int .i64 rf, .int .i64 rt, .int .i64 ho, .int .i64 dd, .int .i64 we, .int .i64 wk] ∧ Blk wz g1 223 [.slice (some ⟨b, off, none⟩) n c0, .int .i64 fr, .int .i64 tt, .slice (some ⟨b2, o2, none⟩) n2 c2] ∧ (SlOld rtEnc 7 38 w.heap.size none (some ⟨b, off, none⟩) n l) wz ∧ (SlOld itEnc 1 3 w.heap.size none (some ⟨b2, o2, none⟩) n2 sea) wz ∧ True) mixed (fun _ hm => ⟨hm.bl 0, hm.bl 1, hm.fa 0, hm.fa 1, trivial⟩) fun z => ?_
  refine wt 0 16 1 rfl z (ov_field fo38_5 rfl rfl) ?_
  refine wt 1 16 3 rfl z (ov_load sc3 rfl (fun _ hm => hm.1) rfl) ?_
  refine wt 2 16 7 rfl z (ov_move rfl) ?_
  refine wt 3 16 15 rfl z (ov_geq rfl rfl) ?_
  refine wt 4 16 31 rfl z (ov_move rfl) ?_
  rcases Bool.eq_false_or_eq_true (decide (0 ≤ W)) with hW0 | hW0
  ·refine wa_set 74 rfl (congrArg Value.bool hW0) ?_
   have hW0 : 0 ≤ W := of_decide_eq_true hW0
   refine wto 5 16 63 rfl rfl rfl z (ov_loads rz223 rfl (fun _ hm => hm.2.1) rfl rfl) ?_
   refine wto 6 16 127 rfl rfl rfl z (ov_move rfl) ?_
   refine wto 7 16 255 rfl rfl rfl z (ov_move rfl) ?_
   refine wto 8 16 511 rfl rfl rfl z (ov_add rfl rfl (by omega) (by omega)) ?_
   refine wa_set 78 (v' := .int .i64 ((i + mm : Nat) : Int)) rfl (congrArg (Value.int .i64) (by omega)) ?_
   refine wto 9 16 1023 rfl rfl rfl z (ov_sub rfl rfl (by omega) (by omega)) ?_
   refine wa_set 79 (v' := .int .i64 ((i + mm - 1 : Nat) : Int)) rfl (congrArg (Value.int .i64) (by omega)) ?_
   refine wto 11 16 3071 rfl rfl rfl z (ov_move rfl) ?_
   refine wa1 10 rfl ?_
   refine wl_guard_on rfl rfl rfl ?_
   refine wl_callv (v := .int .i64 E2) rfl cb299 rfl rfl (fun wx hm => (by rw [hE2]; exact tend_any _ _ _ fr tt _ (i + mm - 1) wx h0 h00 (by omega))) ?_
   refine wl_nil ?_
   refine nw 16 4095 (fun _ hm => ⟨hm.bl 0, hm.bl 1, hm.fa 0, hm.fa 1, trivial⟩) fun z => ?_
   refine wto 12 16 8191 rfl rfl rfl z (ov_leq rfl rfl) ?_
   refine wt 13 16 16383 rfl z (ov_pick_t rfl rfl) ?_
   refine wt 14 16 32767 rfl z (ov_assign rfl) ?_
   refine wt 15 16 65535 rfl z (ov_assign rfl) ?_
   refine wa_done (by kernel_rfl) ?_
   refine nx_blk_nrm (nx_then (gw_seq (sr_ (mv_ rfl (wl_ov (ov_un_not rfl) rfl (mv_ rfl ?_))))))
   rcases Bool.eq_false_or_eq_true (!(decide (E2 ≤ W))) with hW1 | hW1
   ·refine wl_set 117 rfl (congrArg Value.bool hW1) ?_
    have hW1 : ¬ E2 ≤ W := by simpa using hW1
    refine goff rfl rfl rfl (goff rfl rfl rfl (pt_ rfl rfl (nn_ (ct_ rfl (sr_ (sg_ rfl (sg_ rfl (nn_ ?_))))))))
    refine gw_ret ?_
    refine nx_then_ret ?_
    refine nx_ret2 rfl rfl rfl fun wx hm => ?_
    have hP : priceK ⟨cl, rf, rt, ho, dd, we, wk⟩ sea fr tt kd i ((mm : Nat) : Int) = none := by
     unfold priceK
     rw [if_neg hk1, if_neg hk2, if_pos hk, Int.toNat_natCast, ← hE2, ← hG, ← hW]; rw [if_neg (fun h => hW1 h.1.2)]
    refine ⟨?_, hm.g⟩
    rw [hgo, hP]; rfl
   refine wl_set 117 rfl (congrArg Value.bool hW1) ?_
   have hW1 : E2 ≤ W := by simpa using hW1
   refine wl_guard_on rfl rfl rfl (mv_ rfl (wl_guard_on rfl rfl rfl (wl_ov (ov_lss rfl rfl) rfl (pf_ rfl rfl (nn_ ?_)))))
   refine gw_cond rfl (fun hh => ?_) (fun hh => ?_)
   ·have hz : we < 0 := by simpa using hh
    clear hh
    refine sr_ (sg_ rfl (sg_ rfl (nn_ ?_)))
    refine gw_ret ?_
    refine nx_then_ret ?_
    refine nx_ret2 rfl rfl rfl fun wx hm => ?_
    have hP : priceK ⟨cl, rf, rt, ho, dd, we, wk⟩ sea fr tt kd i ((mm : Nat) : Int) = none := by
     unfold priceK
     rw [if_neg hk1, if_neg hk2, if_pos hk, Int.toNat_natCast, ← hE2, ← hG, ← hW]; rw [if_neg (fun h => absurd h.2 (show ¬ 0 ≤ we by omega))]
    refine ⟨?_, hm.g⟩
    rw [hgo, hP]; rfl
   have hz : ¬ (we < 0) := by simpa using hh
   clear hh
   refine gw_skip (nx_then (gw_seq (sr_ (mv_ rfl (wl_ov (ov_eql rfl rfl) rfl ?_)))))
   refine wl_set 122 (v' := .bool false) rfl (congrArg Value.bool (decide_eq_false (by omega))) ?_
   refine nn_ (cf_ rfl (gw_skip (nx_then (sr_ (mv_ rfl (sg_ rfl (sg_ rfl (nn_ ?_))))))))
   refine gw_ret ?_
   refine nx_ret2 rfl rfl rfl fun wx hm => ?_
   have hP : priceK ⟨cl, rf, rt, ho, dd, we, wk⟩ sea fr tt kd i ((mm : Nat) : Int) = some (we) := by
    unfold priceK
    rw [if_neg hk1, if_neg hk2, if_pos hk, Int.toNat_natCast, ← hE2, ← hG, ← hW]; rw [if_pos ⟨⟨hW0, hW1⟩, (show 0 ≤ we by omega)⟩]
   refine ⟨?_, hm.g⟩
   rw [hgo, hP]; rfl
  refine wa_set 74 rfl (congrArg Value.bool hW0) ?_
  have hW0 : ¬ 0 ≤ W := of_decide_eq_false hW0
  refine wtf 5 16 63 rfl rfl rfl z ?_
  refine wtf 6 16 127 rfl rfl rfl z ?_
  refine wtf 7 16 255 rfl rfl rfl z ?_
  refine wtf 8 16 511 rfl rfl rfl z ?_
  refine wtf 9 16 1023 rfl rfl rfl z ?_
  refine wtf 10 16 2047 rfl rfl rfl z ?_
  refine wtf 11 16 4095 rfl rfl rfl z ?_
  refine wtf 12 16 8191 rfl rfl rfl z ?_
  refine wt 13 16 16383 rfl z (ov_pick_f rfl rfl) ?_
  refine wt 14 16 32767 rfl z (ov_assign rfl) ?_
  refine wt 15 16 65535 rfl z (ov_assign rfl) ?_
  refine wa_done (by kernel_rfl) ?_
  refine nx_blk_nrm (nx_then (gw_seq (sr_ (mv_ rfl (wl_ov (ov_un_not rfl) rfl ?_)))))
  refine wl_set 116 (v' := .bool true) rfl (congrArg Value.bool (by decide)) ?_
  refine mv_ rfl (goff rfl rfl rfl (goff rfl rfl rfl (pt_ rfl rfl (nn_ (ct_ rfl (sr_ (sg_ rfl (sg_ rfl (nn_ ?_)))))))))
  refine gw_ret ?_
  refine nx_then_ret ?_
  refine nx_ret2 rfl rfl rfl fun wx hm => ?_
  have hP : priceK ⟨cl, rf, rt, ho, dd, we, wk⟩ sea fr tt kd i ((mm : Nat) : Int) = none := by
   unfold priceK
   rw [if_neg hk1, if_neg hk2, if_pos hk, Int.toNat_natCast, ← hE2, ← hG, ← hW]; rw [if_neg (fun h => hW0 h.1.1)]
  refine ⟨?_, hm.g⟩
  rw [hgo, hP]; rfl
 have hk : ¬ (kd = 3) := by simpa using hh
 clear hh
 refine sr_ (wl_ov (ov_eql rfl rfl) rfl (sg_ rfl (nn_ ?_)))
 refine gw_cond rfl (fun hh => ?_) (fun hh => ?_)
 ·have hk : kd = 4 := by simpa using hh
  clear hh
  refine sr_ ?_
  have hk1 : ¬ kd = 1 := by omega
  have hk2 : ¬ kd = 2 := by omega
  have hk3 : ¬ kd = 3 := by omega
  refine fd_ fo38_6 rfl rfl (lk_ sc3 0 rfl rfl rfl (mv_ rfl (mv_ rfl ?_)))
  refine wl_ov (ov_min rfl rfl) rfl ?_
  refine wl_ov (ov_eql rfl rfl) rfl (sg_ rfl (sg_ rfl (nn_ (sr_ (fd_ fo223_2 rfl rfl (lk_ sc22 1 rfl rfl rfl (mv_ rfl (mv_ rfl (mv_ rfl (ad_ rfl rfl ?_))))))))))
  refine wl_set 97 (v' := .int .i64 ((i + mm : Nat) : Int)) rfl (congrArg (Value.int .i64) (by omega)) ?_
  refine wl_ov (ov_sliceLH (lo := i) (hi := i + mm) es22 rfl rfl rfl rfl rfl (by omega) (by omega)) rfl ?_
  refine wl_set 98 (v' := .slice (some ⟨b2, o2 + i, none⟩) mm (c2 - i)) rfl (slice_cut (by omega)) ?_
  refine wl_ov (ov_len es22 rfl) rfl (mv_ rfl (nn_ (gw_block ?_)))
  obtain ⟨MN, hMN⟩ : ∃ b : Bool, b = decide (((mm : Nat) : Int) = min 7 (((n2 : Nat) : Int) - ((i : Nat) : Int))) := ⟨_, rfl⟩
  refine gw_set 13 (v' := .bool MN) rfl (congrArg Value.bool hMN.symm) ?_
  refine gw_loop (γ := Nat × Bool) (fun g => g.1 ≤ mm ∧ g.2 = (MN && ((sea.drop i).take g.1).all (fun y => decide (y = ((kk : Nat) : Int))))) (fun g => [(1, .int .i64 kd), (2, .int .i64 ((i : Nat) : Int)), (4, .pointer (some ⟨g1, 0, none⟩)), (8, .int .i64 0), (9, .bool false), (12, .int .i64 wk), (13, .bool g.2), (98, .slice (some ⟨b2, o2 + i, none⟩) mm (c2 - i)), (99, .int .i64 ((mm : Nat) : Int)), (100, .int .i64 ((g.1 : Nat) : Int))]) (fun g => fun _ => True) (fun g => [(g2, 38, [.string cl, .int .i64 rf, .int .i64 rt, .int .i64 ho, .int .i64 dd, .int .i64 we, .int .i64 wk]), (g1, 223, [.slice (some ⟨b, off, none⟩) n c0, .int .i64 fr, .int .i64 tt, .slice (some ⟨b2, o2, none⟩) n2 c2])]) (fun g => []) (fun g => [SlOld rtEnc 7 38 w.heap.size none (some ⟨b, off, none⟩) n l, SlOld itEnc 1 3 w.heap.size none (some ⟨b2, o2, none⟩) n2 sea]) (fun g => mm - g.1) (0, MN) ⟨Nat.zero_le _, by simp⟩ ⟨rfl, rfl, rfl, rfl, rfl, rfl, rfl, rfl, rfl, rfl, trivial⟩ (fun _ hm => hm.pick [0, 1] [] [0, 1] rfl rfl) ?_
  rintro ⟨j, bb⟩ hinv
  replace hinv : j ≤ mm ∧ bb = (MN && ((sea.drop i).take j).all (fun y => decide (y = ((kk : Nat) : Int)))) := hinv
  dsimp only
  refine sr_ ?_
  obtain ⟨hj0, hj1⟩ := hinv
  refine wl_ov (ov_lss rfl rfl) rfl (nn_ (gw_seq ?_))
  refine gw_cond rfl (fun hh => ?_) (fun hh => ?_)
  ·have hj : ((j : Nat) : Int) < ((mm : Nat) : Int) := by simpa using hh
   clear hh
   refine gw_skip (nx_then (gw_seq (gw_block (sr_ ?_))))
   obtain ⟨xj, hxj⟩ : ∃ x, sea[i + j]? = some x := ⟨_, List.getElem?_eq_getElem (by omega)⟩
   have hst := same_step (k := ((kk : Nat) : Int)) hxj
   refine wl_ov (ov_index (j := j) es22 rfl rfl (by omega)) rfl ?_
   refine wl_ov (ov_elem1 (k := 0) (v := .int .i64 xj) sc3 rfl (fun _ hm => (SlT.cut (hm.fact 1 rfl).1 himm hi)) (show ((sea.drop i).take mm)[j]? = some xj by rw [List.getElem?_take, if_pos (by omega), List.getElem?_drop]; exact hxj) rfl rfl) rfl ?_
   refine sg_ rfl (nn_ (gw_region (mv_ rfl (mv_ rfl ?_))))
   rcases Bool.eq_false_or_eq_true bb with hb | hb
   ·refine wl_set 105 rfl (congrArg Value.bool hb) ?_
    refine wl_guard_on rfl rfl rfl (mv_ rfl (wl_guard_on rfl rfl rfl (fd_ fo223_2 rfl rfl (wl_guard_on rfl rfl rfl (lk_ sc22 1 rfl rfl rfl (wl_guard_on rfl rfl rfl (mv_ rfl (wl_guard_on rfl rfl rfl ?_))))))))
    refine wl_ov (ov_index (j := i) es22 rfl rfl (by omega)) rfl ?_
    refine wl_guard_on rfl rfl rfl ?_
    refine wl_ov (ov_elem1 (k := 0) (v := .int .i64 ((kk : Nat) : Int)) sc3 rfl (fun _ hm => (hm.fact 1 rfl).1) hk0 rfl rfl) rfl ?_
    refine wl_guard_on rfl rfl rfl (wl_ov (ov_eql rfl rfl) rfl (pt_ rfl rfl (sg_ rfl (wl_nil (nx_blk_nrm (nx_then (gw_region (ad_ rfl rfl (mv_ rfl (wl_nil ?_))))))))))
    exact nx_round (j + 1, decide (xj = ((kk : Nat) : Int))) ⟨by dsimp only; omega, by dsimp only; rw [hst, ← Bool.and_assoc, ← hj1, hb]; rfl⟩ (by dsimp only; omega) ⟨rfl, rfl, rfl, rfl, rfl, rfl, rfl, rfl, rfl, (some_int (by omega)), trivial⟩ (fun _ hm => hm.pick [0, 1] [] [0, 1] rfl rfl)
   refine wl_set 105 rfl (congrArg Value.bool hb) ?_
   refine goff rfl rfl rfl (goff rfl rfl rfl (goff rfl rfl rfl (goff rfl rfl rfl (goff rfl rfl rfl (goff rfl rfl rfl (goff rfl rfl rfl (pf_ rfl rfl (sg_ rfl (wl_nil (nx_blk_nrm (nx_then (gw_region (ad_ rfl rfl ?_)))))))))))))
   refine mv_ rfl (wl_nil ?_)
   exact nx_round (j + 1, false) ⟨by dsimp only; omega, by dsimp only; rw [hst, ← Bool.and_assoc, ← hj1, hb]; rfl⟩ (by dsimp only; omega) ⟨rfl, rfl, rfl, rfl, rfl, rfl, rfl, rfl, rfl, (some_int (by omega)), trivial⟩ (fun _ hm => hm.pick [0, 1] [] [0, 1] rfl rfl)
  have hj : ¬ (((j : Nat) : Int) < ((mm : Nat) : Int)) := by simpa using hh
  clear hh
  refine gw_exit ?_
  refine nx_then_exit (nx_then_exit ?_)
  refine nx_blk_here ?_
  refine nx_blk_nrm (nx_then (gw_seq (sr_ ?_)))
  have hjm : j = mm := by omega
  subst hjm
  refine mv_ rfl (wl_ov (ov_un_not rfl) rfl (mv_ rfl ?_))
  rcases Bool.eq_false_or_eq_true (!bb) with hb | hb
  ·refine wl_set 117 rfl (congrArg Value.bool hb) ?_
   have hno : ¬ (((j : Nat) : Int) = min 7 (((n2 : Nat) : Int) - ((i : Nat) : Int)) ∧ ∀ y ∈ (sea.drop i).take j, some ((kk : Nat) : Int) = some y) := by
    have hb : bb = false := by simpa using hb
    rw [hj1, hMN] at hb
    rintro ⟨h1, h2⟩
    rw [decide_eq_true h1, all_same.2 h2] at hb
    cases hb
   refine goff rfl rfl rfl (goff rfl rfl rfl (pt_ rfl rfl (nn_ (ct_ rfl (sr_ (sg_ rfl (sg_ rfl (nn_ ?_))))))))
   refine gw_ret ?_
   refine nx_then_ret ?_
   refine nx_ret2 rfl rfl rfl fun wx hm => ?_
   have hP : priceK ⟨cl, rf, rt, ho, dd, we, wk⟩ sea fr tt kd i ((j : Nat) : Int) = none := by
    unfold priceK
    rw [if_neg hk1, if_neg hk2, if_neg hk3, if_pos hk, Int.toNat_natCast, hk0, hslen]; rw [if_neg (fun h => hno h.1)]
   refine ⟨?_, hm.g⟩
   rw [hgo, hP]; rfl
  refine wl_set 117 rfl (congrArg Value.bool hb) ?_
  have hys : ((j : Nat) : Int) = min 7 (((n2 : Nat) : Int) - ((i : Nat) : Int)) ∧ ∀ y ∈ (sea.drop i).take j, some ((kk : Nat) : Int) = some y := by
   have hb : bb = true := by simpa using hb
   rw [hj1, hMN, Bool.and_eq_true] at hb
   exact ⟨of_decide_eq_true hb.1, all_same.1 hb.2⟩
  obtain ⟨hmin, hsame⟩ := hys
  refine wl_guard_on rfl rfl rfl (mv_ rfl (wl_guard_on rfl rfl rfl (wl_ov (ov_lss rfl rfl) rfl (pf_ rfl rfl (nn_ ?_)))))
  refine gw_cond rfl (fun hh => ?_) (fun hh => ?_)
  ·have hz : wk < 0 := by simpa using hh
   clear hh
   refine sr_ (sg_ rfl (sg_ rfl (nn_ ?_)))
   refine gw_ret ?_
   refine nx_then_ret ?_
   refine nx_ret2 rfl rfl rfl fun wx hm => ?_
   have hP : priceK ⟨cl, rf, rt, ho, dd, we, wk⟩ sea fr tt kd i ((j : Nat) : Int) = none := by
    unfold priceK
    rw [if_neg hk1, if_neg hk2, if_neg hk3, if_pos hk, Int.toNat_natCast, hk0, hslen]; rw [if_neg (fun h => absurd h.2 (show ¬ 0 ≤ wk by omega))]
   refine ⟨?_, hm.g⟩
   rw [hgo, hP]; rfl
  have hz : ¬ (wk < 0) := by simpa using hh
  clear hh
  refine gw_skip (nx_then (gw_seq (sr_ (mv_ rfl (wl_ov (ov_eql rfl rfl) rfl ?_)))))
  refine wl_set 122 (v' := .bool false) rfl (congrArg Value.bool (decide_eq_false (by omega))) ?_
  refine nn_ (cf_ rfl (gw_skip (nx_then (sr_ (mv_ rfl (sg_ rfl (sg_ rfl (nn_ ?_))))))))
  refine gw_ret ?_
  refine nx_ret2 rfl rfl rfl fun wx hm => ?_
  have hP : priceK ⟨cl, rf, rt, ho, dd, we, wk⟩ sea fr tt kd i ((j : Nat) : Int) = some (wk) := by
   unfold priceK
   rw [if_neg hk1, if_neg hk2, if_neg hk3, if_pos hk, Int.toNat_natCast, hk0, hslen]; rw [if_pos ⟨⟨hmin, hsame⟩, (show 0 ≤ wk by omega)⟩]
  refine ⟨?_, hm.g⟩
  rw [hgo, hP]; rfl
 have hk : ¬ (kd = 4) := by simpa using hh
 clear hh
 refine gw_skip (nx_blk_nrm (nx_then (gw_seq (sr_ ?_))))
 have hk1 : ¬ kd = 1 := by omega
 have hk2 : ¬ kd = 2 := by omega
 have hk3 : ¬ kd = 3 := by omega
 refine mv_ rfl (wl_ov (ov_un_not rfl) rfl (mv_ rfl ?_))
 rcases Bool.eq_false_or_eq_true (!(decide (((mm : Nat) : Int) = 1))) with hmm1 | hmm1
 ·refine wl_set 117 rfl (congrArg Value.bool hmm1) ?_
  refine goff rfl rfl rfl (goff rfl rfl rfl (pt_ rfl rfl (nn_ (ct_ rfl (sr_ (sg_ rfl (sg_ rfl (nn_ ?_))))))))
  refine gw_ret ?_
  refine nx_then_ret ?_
  refine nx_ret2 rfl rfl rfl fun wx hm => ?_
  have hP : priceK ⟨cl, rf, rt, ho, dd, we, wk⟩ sea fr tt kd i ((mm : Nat) : Int) = none := by
   unfold priceK
   rw [if_neg hk1, if_neg hk2, if_neg hk3, if_neg hk]
  refine ⟨?_, hm.g⟩
  rw [hgo, hP]; rfl
 refine wl_set 117 rfl (congrArg Value.bool hmm1) ?_
 refine wl_guard_on rfl rfl rfl (mv_ rfl (wl_guard_on rfl rfl rfl (wl_ov (ov_lss rfl rfl) rfl ?_)))
 refine wl_set 119 (v' := .bool true) rfl (congrArg Value.bool (by decide)) ?_
 refine pf_ rfl rfl (nn_ (ct_ rfl (sr_ (sg_ rfl (sg_ rfl (nn_ ?_))))))
 refine gw_ret ?_
 refine nx_then_ret ?_
 refine nx_ret2 rfl rfl rfl fun wx hm => ?_
 have hP : priceK ⟨cl, rf, rt, ho, dd, we, wk⟩ sea fr tt kd i ((mm : Nat) : Int) = none := by
  unfold priceK
  rw [if_neg hk1, if_neg hk2, if_neg hk3, if_neg hk]
 refine ⟨?_, hm.g⟩
 rw [hgo, hP]; rfl
end Go.Proofs.YtnpcbfllnkiopaaGreatDoor
namespace Go.Proofs.YtnpcbfllnkiopaaGreatDoor
open Go.RowKit
structure Dv where
  cost : Int
  pieces : Int
  kind : Int
  days : Int
  cents : Int
  fine : Bool
def dvEnc (x : Dv) : List Value := [.int .i64 x.cost, .int .i64 x.pieces, .int .i64 x.kind, .int .i64 x.days, .int .i64 x.cents, .bool x.fine]
theorem dv_len (x : Dv) : (dvEnc x).length = 6 := rfl
def dvZ : Dv := ⟨0, 0, 0, 0, 0, false⟩
def DvIs (x : Dv) : Option (List Pc) → Prop
  | none => x.fine = false
  | some ps => x.fine = true ∧ x.cost = pcSum ps ∧ x.pieces = ps.length ∧ ∀ p r, ps = p :: r → x.kind = p.kind ∧ x.days = p.days ∧ x.cents = p.cents
theorem DvIs.none_ {x : Dv} {s : Option (List Pc)} (h : DvIs x s) (hf : x.fine = false) : s = none := by
  cases s with
  | none => rfl
  | some ps => exact absurd (hf.symm.trans h.1) (by decide)
theorem DvIs.some_ {x : Dv} {s : Option (List Pc)} (h : DvIs x s) (hf : x.fine = true) : ∃ ps, s = some ps := by
  cases s with
  | none => rw [show x.fine = false from h] at hf; cases hf
  | some ps => exact ⟨ps, rfl⟩
/-- All rests from i on are known; of the rest at i those whose first piece came up. -/
def DvOk (pr : Int → Nat → Int → Option Int) (n j : Nat) (x : Dv) : Prop := ∃ s, RestOk pr n j s ∧ DvIs x s
def DvRow (pr : Int → Nat → Int → Option Int) (n i : Nat) (k m : Int) (ds : List Dv) : Prop := ds.length = n + 1 ∧ (∀ j x, i < j → ds[j]? = some x → DvOk pr n j x) ∧ (∀ j x, j < i → ds[j]? = some x → x = dvZ) ∧ ∃ x s, ds[i]? = some x ∧ Cur pr n i k m s ∧ DvIs x s
section
variable {pr : Int → Nat → Int → Option Int} {n i : Nat} {k m : Int} {ds : List Dv}
theorem chain_sum (hb : ∀ k i m c, pr k i m = some c → 0 ≤ c ∧ c ≤ 24000000) : ∀ {ps : List Pc} {i j : Nat}, Chain pr i j ps → 0 ≤ pcSum ps ∧ pcSum ps ≤ 24000000 * (ps.length : Int)
  | [], _, _, _ => by simp [pcSum]
  | p :: r, i, j, h => by
    have h1 := hb _ _ _ _ h.1.2.2.2.2
    have h2 := chain_sum hb h.2
    simp only [pcSum, List.length_cons]
    omega
theorem dv_bound {j : Nat} {x : Dv} (hb : ∀ k i m c, pr k i m = some c → 0 ≤ c ∧ c ≤ 24000000) (hn : n ≤ 120) (h : DvOk pr n j x) (hf : x.fine = true) : (0 ≤ x.cost ∧ x.cost ≤ 3000000000) ∧ 0 ≤ x.pieces ∧ x.pieces ≤ 120 := by
  obtain ⟨s, h1, h2⟩ := h
  obtain ⟨ps, rfl⟩ := h2.some_ hf
  have h3 := chain_sum hb h1.1
  have h4 := chain_le h1.1
  obtain ⟨_, e1, e2, _⟩ := h2
  rw [e1, e2]
  omega
theorem dv_step {mm : Nat} (h : DvRow pr n i k mm ds) (hc : ∀ s, Cur pr n i k mm s → Cur pr n i k (mm + 1) s) : DvRow pr n i k ((mm + 1 : Nat) : Int) ds := by
  obtain ⟨h1, h2, h3, x, s, hx, hs, hd⟩ := h
  exact ⟨h1, h2, h3, x, s, hx, by simpa using hc s hs, hd⟩
theorem dv_none {mm : Nat} (h : DvRow pr n i k mm ds) (hno : pr k i mm = none) : DvRow pr n i k ((mm + 1 : Nat) : Int) ds := dv_step h fun _ hs => cur_none hs hno
theorem dv_dead {mm : Nat} {y : Dv} (h : DvRow pr n i k mm ds) (hy : ds[i + mm]? = some y) (hm : 0 < mm) (hf : y.fine = false) : DvRow pr n i k ((mm + 1 : Nat) : Int) ds := dv_step h fun _ hs => by
  obtain ⟨s, h1, h2⟩ := h.2.1 (i + mm) y (by omega) hy
  rw [h2.none_ hf] at h1
  exact cur_dead hs (by simpa using h1)
theorem dv_set {mm : Nat} {y : Dv} {c : Int} {rest : List Pc} (h : DvRow pr n i k mm ds) (hd : DvIs y (some rest)) (hc : Cur pr n i k (mm + 1) (some (⟨k, mm, c⟩ :: rest))) : DvRow pr n i k ((mm + 1 : Nat) : Int) (ds.set i ⟨c + y.cost, 1 + y.pieces, k, mm, c, true⟩) := by
  obtain ⟨h1, h2, h3, x, s, hx, hs, _⟩ := h
  have hi : i < ds.length := (List.getElem?_eq_some_iff.1 hx).1
  obtain ⟨_, e1, e2, _⟩ := hd
  refine ⟨by simp [h1], fun j z hj hz => h2 j z hj (by rw [List.getElem?_set_ne (by omega)] at hz; exact hz), fun j z hj hz => h3 j z hj (by rw [List.getElem?_set_ne (by omega)] at hz; exact hz), _, some (⟨k, mm, c⟩ :: rest), List.getElem?_set_self hi, by simpa using hc, rfl, ?_, ?_, fun p r e => ?_⟩
  · simp only [pcSum, e1]
  · simp only [List.length_cons, e2]; omega
  · injection e with e _; subst e; exact ⟨rfl, rfl, rfl⟩
theorem dv_rest {mm : Nat} {y : Dv} (h : DvRow pr n i k mm ds) (hy : ds[i + mm]? = some y) (hm : 0 < mm) (hf : y.fine = true) : ∃ rest, Best pr (i + mm) n rest ∧ DvIs y (some rest) := by
  obtain ⟨s, h1, h2⟩ := h.2.1 (i + mm) y (by omega) hy
  obtain ⟨rest, rfl⟩ := h2.some_ hf
  exact ⟨rest, h1, h2⟩
theorem dv_first {mm : Nat} {x y : Dv} {c : Int} (h : DvRow pr n i k mm ds) (hk : 1 ≤ k ∧ k ≤ 4) (hm : 1 ≤ mm ∧ mm ≤ 7) (hp : pr k i mm = some c) (hy : ds[i + mm]? = some y) (hf : y.fine = true) (hx : ds[i]? = some x) (hxf : x.fine = false) : DvRow pr n i k ((mm + 1 : Nat) : Int) (ds.set i ⟨c + y.cost, 1 + y.pieces, k, mm, c, true⟩) := by
  obtain ⟨rest, hr, hd⟩ := dv_rest h hy (by omega) hf
  refine dv_set h hd ?_
  obtain ⟨h1, h2, h3, x', s, hx', hs, hd'⟩ := h
  obtain rfl : x = x' := Option.some.inj (hx.symm.trans hx')
  rw [hd'.none_ hxf] at hs
  exact cur_first hs hk (by omega) hp (by simpa using hr)
theorem cmp_dv {a b c d : Int} : firstE [cmpI a b, cmpI c d] < 0 ↔ a < b ∨ (a = b ∧ c < d) := by
  rw [firstE_pair]
  unfold cmpI
  by_cases h1 : a < b
  · rw [if_pos h1]; simp [h1]
  · rw [if_neg h1]
    by_cases h2 : b < a
    · rw [if_pos h2]
      simp
      omega
    · rw [if_neg h2, if_pos rfl]
      by_cases h3 : c < d
      · rw [if_pos h3]; simp; omega
      · rw [if_neg h3]
        by_cases h4 : d < c
        · rw [if_pos h4]; simp; omega
        · rw [if_neg h4]; simp; omega
theorem dv_better {mm : Nat} {x y : Dv} {c : Int} (h : DvRow pr n i k mm ds) (hk : 1 ≤ k ∧ k ≤ 4) (hm : 1 ≤ mm ∧ mm ≤ 7) (hp : pr k i mm = some c) (hy : ds[i + mm]? = some y) (hf : y.fine = true) (hx : ds[i]? = some x) (hxf : x.fine = true) (hl : firstE [cmpI (c + y.cost) x.cost, cmpI (1 + y.pieces) x.pieces] < 0) : DvRow pr n i k ((mm + 1 : Nat) : Int) (ds.set i ⟨c + y.cost, 1 + y.pieces, k, mm, c, true⟩) := by
  obtain ⟨rest, hr, hd⟩ := dv_rest h hy (by omega) hf
  refine dv_set h hd ?_
  obtain ⟨h1, h2, h3, x', s, hx', hs, hd'⟩ := h
  obtain rfl : x = x' := Option.some.inj (hx.symm.trans hx')
  obtain ⟨ps, rfl⟩ := hd'.some_ hxf
  obtain ⟨_, e1, e2, _⟩ := hd
  obtain ⟨_, f1, f2, _⟩ := hd'
  rw [cmp_dv, e1, e2, f1, f2] at hl
  exact cur_better hs hk (by omega) hp (by simpa using hr) (by omega)
theorem dv_keep {mm : Nat} {x y : Dv} {c : Int} (h : DvRow pr n i k mm ds) (hk : 1 ≤ k ∧ k ≤ 4) (hm : 1 ≤ mm ∧ mm ≤ 7) (hp : pr k i mm = some c) (hy : ds[i + mm]? = some y) (hf : y.fine = true) (hx : ds[i]? = some x) (hxf : x.fine = true) (hl : ¬ firstE [cmpI (c + y.cost) x.cost, cmpI (1 + y.pieces) x.pieces] < 0) : DvRow pr n i k ((mm + 1 : Nat) : Int) ds := by
  obtain ⟨rest, hr, hd⟩ := dv_rest h hy (by omega) hf
  obtain ⟨h1, h2, h3, x', s, hx', hs, hd'⟩ := h
  obtain rfl : x = x' := Option.some.inj (hx.symm.trans hx')
  refine ⟨h1, h2, h3, x, s, hx, ?_, hd'⟩
  obtain ⟨ps, rfl⟩ := hd'.some_ hxf
  obtain ⟨_, e1, e2, _⟩ := hd
  obtain ⟨_, f1, f2, _⟩ := hd'
  rw [cmp_dv, e1, e2, f1, f2] at hl
  have := cur_keep hs hk (by omega) hp (by simpa using hr) (by omega)
  simpa using this
theorem dv_kind (h : DvRow pr n i k m ds) (hm : 7 < m ∨ (n : Int) - i < m) : DvRow pr n i (k + 1) 1 ds := by
  obtain ⟨h1, h2, h3, x, s, hx, hs, hd⟩ := h
  exact ⟨h1, h2, h3, x, s, hx, cur_kind hs hm, hd⟩
/-- The rests from r on are known. -/
def DvFrom (pr : Int → Nat → Int → Option Int) (n r : Nat) (ds : List Dv) : Prop := ds.length = n + 1 ∧ (∀ j x, r ≤ j → ds[j]? = some x → DvOk pr n j x) ∧ (∀ j x, j < r → ds[j]? = some x → x = dvZ)
theorem dv_done (h : DvRow pr n i 5 1 ds) (hi : i < n) : DvFrom pr n i ds := by
  obtain ⟨h1, h2, h3, x, s, hx, hs, hd⟩ := h
  refine ⟨h1, fun j z hj hz => ?_, h3⟩
  by_cases hji : j = i
  · subst hji
    obtain rfl : x = z := Option.some.inj (hx.symm.trans hz)
    exact ⟨s, cur_done hs hi, hd⟩
  · exact h2 j z (by omega) hz
theorem dv_begin (h : DvFrom pr n (i + 1) ds) (hi : i < n) : DvRow pr n i 1 1 ds := by
  obtain ⟨h1, h2, h3⟩ := h
  have hx : ds[i]? = some dvZ := by
    obtain ⟨x, hx⟩ : ∃ x, ds[i]? = some x := ⟨_, List.getElem?_eq_getElem (by omega)⟩
    rw [hx, h3 i x (by omega) hx]
  exact ⟨h1, fun j x hj hx => h2 j x (by omega) hx, fun j x hj hx => h3 j x (by omega) hx, dvZ, none, hx, cur_start, rfl⟩
theorem dv_start : DvFrom pr n n ((List.replicate (n + 1) dvZ).set n ⟨0, 0, 0, 0, 0, true⟩) := by
  refine ⟨by simp, fun j x hj hx => ?_, fun j x hj hx => ?_⟩
  · have hjn : j = n := by
      have := (List.getElem?_eq_some_iff.1 hx).1
      simp at this; omega
    subst hjn
    rw [List.getElem?_set_self (by simp)] at hx
    injection hx with hx
    subst hx
    exact ⟨some [], best_end j, rfl, rfl, rfl, fun p r e => by cases e⟩
  · rw [List.getElem?_set_ne (by omega), List.getElem?_replicate] at hx
    split at hx
    · exact (Option.some.inj hx).symm
    · cases hx
end
theorem price_all {l : List Rt} {sea : List Int} {fr tt : Int} (hr : ∀ r ∈ l, RateOk r) (hend : ∀ i, i < sea.length → begV fr i ≤ tt) : ∀ k i m c, priceO l sea fr tt k i m = some c → 0 ≤ c ∧ c ≤ 24000000 := fun k i m c h => by
  obtain ⟨h1, h2, _⟩ := price_some h
  exact price_bound hr (hend i (by omega)) h
theorem tdivide_any (l : List Rt) (A : Option Addr) (n c0 : Nat) (fr tt : Int) (sea : List Int) (A2 : Option Addr) (n2 c2 : Nat) (w : World) (hl : SlT rtEnc 7 38 w A n l) (hs : SlT itEnc 1 3 w A2 n2 sea) (hc2 : n2 ≤ c2) (hn2 : n2 ≤ 120) (hsea : ∀ k ∈ sea, -1 ≤ k ∧ k < (l.length : Int)) (hr : ∀ r ∈ l, RateOk r) (h0 : 0 ≤ fr) (h00 : fr ≤ 5761439) (ht0 : 0 ≤ tt) (ht1 : tt ≤ 5761439) (hend : ∀ i, i < n2 → begV fr i ≤ tt) :
  Calls Tryz.prog 168 #[.agg #[.slice A n c0, .int .i64 fr, .int .i64 tt, .slice A2 n2 c2]] w (fun e w' => ∃ A3 c3 ds, e = .returned (.slice A3 (n2 + 1) c3) ∧ w.grownBy w' none ∧ w'.ownsRow w.heap.size 227 6 (.slice A3 (n2 + 1) c3) (n2 + 1) (ds.flatMap dvEnc) ∧ DvFrom (priceO l sea fr tt) n2 0 ds) := by
 refine gw_enter ⟨105, w, none, []⟩ Tryz.func168 rfl Tryz.ntmps168 rfl (mem0 (X := [SlOld rtEnc 7 38 w.heap.size none A n l, SlOld itEnc 1 3 w.heap.size none A2 n2 sea]) (allF_cons hl.old (allF_cons hs.old allF_nil)) (allL_cons SlOld.lasts (allL_cons SlOld.lasts allL_nil))) ?_
 refine sr_ ?_
 have hlen := hl.len
 have hslen := hs.len
 have hpb := price_all (l := l) (sea := sea) (fr := fr) (tt := tt) hr (fun i hi => hend i (by omega))
 refine wl_box rfl rfl rfl fun g1 => ?_
 refine sg_ rfl (nn_ (sr_ (fd_ fo223_2 rfl rfl (lk_ sc22 0 rfl rfl rfl (wl_ov (ov_len es22 rfl) rfl (sg_ rfl (nn_ (sr_ (mv_ rfl ?_)))))))))
 refine ad_ rfl rfl ?_
 refine wl_makeO (n := (n2 + 1)) (sz := 6) (e := 227) (by_ := 48) (z := .agg #[.int .i64 0, .int .i64 0, .int .i64 0, .int .i64 0, .int .i64 0, .bool false]) (by kernel_rfl) (by kernel_rfl) rfl rfl (by omega) (by omega) (by omega) (by unfold maxLen; omega) (made_flat (enc := dvEnc) (x := dvZ) rfl rfl (by decide) (n2 + 1)) rfl fun g2 => ?_
 refine sg_ rfl (nn_ (sr_ (mv_ rfl (mv_ rfl ?_))))
 refine wl_ov (ov_index (j := n2) es221 rfl rfl (by omega)) rfl ?_
 refine fd_ fo227_3 rfl rfl ?_
 refine wl_storeE (l := (List.replicate (n2 + 1) dvZ)) (j := n2) (r := 5) (el := dvZ) (el' := ⟨0, 0, 0, 0, 0, true⟩) 0 sc4 rfl rfl rfl rfl dv_len rfl (by rw [List.getElem?_replicate, if_pos (by omega)]) List.length_replicate (by decide) rfl rfl ?_
 refine nn_ (gw_seq (sr_ (mv_ rfl ?_)))
 refine wl_ov (ov_sub rfl rfl (by omega) (by omega)) rfl ?_
 refine sg_ rfl (nn_ (gw_block ?_))
 refine gw_loop (γ := Nat × List Dv) (fun g => g.1 ≤ n2 ∧ DvFrom (priceO l sea fr tt) n2 g.1 g.2) (fun g => [(1, .pointer (some ⟨g1, 0, none⟩)), (2, .slice none 0 0), (3, .int .i64 ((n2 : Nat) : Int)), (4, .slice (some ⟨g2, 0, none⟩) (n2 + 1) (n2 + 1)), (5, .int .i64 (((g.1 : Nat) : Int) - 1))]) (fun g => fun _ => True) (fun g => [(g1, 223, [.slice A n c0, .int .i64 fr, .int .i64 tt, .slice A2 n2 c2])]) (fun g => [⟨.slice (some ⟨g2, 0, none⟩) (n2 + 1) (n2 + 1), 227, 6, (n2 + 1), g.2.flatMap dvEnc⟩]) (fun g => [SlOld rtEnc 7 38 w.heap.size none A n l, SlOld itEnc 1 3 w.heap.size none A2 n2 sea]) (fun g => g.1) (n2, (List.replicate (n2 + 1) dvZ).set n2 ⟨0, 0, 0, 0, 0, true⟩) ⟨Nat.le_refl _, dv_start⟩ ⟨rfl, rfl, rfl, rfl, rfl, trivial⟩ (fun _ hm => hm.pick [0] [0] [0, 1] rfl rfl) ?_
 rintro ⟨r, ds⟩ hinv
 replace hinv : r ≤ n2 ∧ DvFrom (priceO l sea fr tt) n2 r ds := hinv
 dsimp only
 refine gw_seq (sr_ ?_)
 obtain ⟨hr0, hr1⟩ := hinv
 refine mv_ rfl ?_
 refine wl_ov (ov_geq rfl rfl) rfl ?_
 refine nn_ ?_
 refine gw_cond rfl (fun hh => ?_) (fun hh => ?_)
 ·have hk : 0 ≤ ((r : Nat) : Int) - 1 := by simpa using hh
  clear hh
  refine gw_skip (nx_then (gw_seq (gw_block (sr_ ?_))))
  obtain ⟨i, hi⟩ : ∃ i, r = i + 1 := ⟨r - 1, by omega⟩
  subst hi
  have hin : i < n2 := by omega
  have hrow := dv_begin hr1 hin
  refine wl_set 5 (v' := .int .i64 ((i : Nat) : Int)) rfl (congrArg (Value.int .i64) (by omega)) ?_
  refine sg_ rfl (nn_ (gw_block ?_))
  refine gw_loop (γ := Int × List Dv) (fun g => (1 ≤ g.1 ∧ g.1 ≤ 5) ∧ DvRow (priceO l sea fr tt) n2 i g.1 1 g.2) (fun g => [(1, .pointer (some ⟨g1, 0, none⟩)), (2, .slice none 0 0), (3, .int .i64 ((n2 : Nat) : Int)), (4, .slice (some ⟨g2, 0, none⟩) (n2 + 1) (n2 + 1)), (5, .int .i64 ((i : Nat) : Int)), (6, .int .i64 g.1)]) (fun g => fun _ => True) (fun g => [(g1, 223, [.slice A n c0, .int .i64 fr, .int .i64 tt, .slice A2 n2 c2])]) (fun g => [⟨.slice (some ⟨g2, 0, none⟩) (n2 + 1) (n2 + 1), 227, 6, (n2 + 1), g.2.flatMap dvEnc⟩]) (fun g => [SlOld rtEnc 7 38 w.heap.size none A n l, SlOld itEnc 1 3 w.heap.size none A2 n2 sea]) (fun g => (5 - g.1).toNat) (1, ds) ⟨⟨by dsimp only; omega, by dsimp only; omega⟩, hrow⟩ ⟨rfl, rfl, rfl, rfl, rfl, rfl, trivial⟩ (fun _ hm => hm.pick [0] [0] [0, 1] rfl rfl) ?_
  rintro ⟨kd, ds2⟩ hinv
  replace hinv : (1 ≤ kd ∧ kd ≤ 5) ∧ DvRow (priceO l sea fr tt) n2 i kd 1 ds2 := hinv
  dsimp only
  refine gw_seq (sr_ ?_)
  obtain ⟨⟨hk1, hk2⟩, hrw⟩ := hinv
  refine mv_ rfl (wl_ov (ov_leq rfl rfl) rfl (nn_ ?_))
  refine gw_cond rfl (fun hh => ?_) (fun hh => ?_)
  ·have hk4 : kd ≤ 4 := by simpa using hh
   clear hh
   refine gw_skip (nx_then (gw_seq (gw_block (sr_ (sg_ rfl (nn_ (gw_block ?_)))))))
   refine gw_loop (γ := Nat × List Dv) (fun g => (1 ≤ g.1 ∧ g.1 ≤ 8) ∧ DvRow (priceO l sea fr tt) n2 i kd ((g.1 : Nat) : Int) g.2) (fun g => [(1, .pointer (some ⟨g1, 0, none⟩)), (2, .slice none 0 0), (3, .int .i64 ((n2 : Nat) : Int)), (4, .slice (some ⟨g2, 0, none⟩) (n2 + 1) (n2 + 1)), (5, .int .i64 ((i : Nat) : Int)), (6, .int .i64 kd), (7, .int .i64 ((g.1 : Nat) : Int))]) (fun g => fun _ => True) (fun g => [(g1, 223, [.slice A n c0, .int .i64 fr, .int .i64 tt, .slice A2 n2 c2])]) (fun g => [⟨.slice (some ⟨g2, 0, none⟩) (n2 + 1) (n2 + 1), 227, 6, (n2 + 1), g.2.flatMap dvEnc⟩]) (fun g => [SlOld rtEnc 7 38 w.heap.size none A n l, SlOld itEnc 1 3 w.heap.size none A2 n2 sea]) (fun g => 8 - g.1) (1, ds2) ⟨⟨by dsimp only; omega, by dsimp only; omega⟩, hrw⟩ ⟨rfl, rfl, rfl, rfl, rfl, rfl, rfl, trivial⟩ (fun _ hm => hm.pick [0] [0] [0, 1] rfl rfl) ?_
   rintro ⟨mm, ds3⟩ hinv
   replace hinv : (1 ≤ mm ∧ mm ≤ 8) ∧ DvRow (priceO l sea fr tt) n2 i kd ((mm : Nat) : Int) ds3 := hinv
   dsimp only
   refine gw_seq (sr_ ?_)
   obtain ⟨⟨hm1, hm2⟩, hrm⟩ := hinv
   refine mv_ rfl (mv_ rfl (mv_ rfl ?_))
   refine wl_ov (ov_sub rfl rfl (by omega) (by omega)) rfl ?_
   refine wl_ov (ov_min rfl rfl) rfl ?_
   refine wl_ov (ov_leq rfl rfl) rfl (nn_ ?_)
   refine gw_cond rfl (fun hh => ?_) (fun hh => ?_)
   ·have hmc : ((mm : Nat) : Int) ≤ min 7 (((n2 : Nat) : Int) - ((i : Nat) : Int)) := by simpa using hh
    clear hh
    refine gw_skip (nx_then (gw_seq (gw_block (sr_ ?_))))
    have hm7 : mm ≤ 7 := by omega
    have himn : i + mm ≤ n2 := by omega
    have hdl := hrm.1
    obtain ⟨y, hy⟩ : ∃ y, ds3[i + mm]? = some y := ⟨_, List.getElem?_eq_getElem (by omega)⟩
    obtain ⟨x, hx⟩ : ∃ x, ds3[i]? = some x := ⟨_, List.getElem?_eq_getElem (by omega)⟩
    have hyo := hrm.2.1 (i + mm) y (by omega) hy
    have hbd := dv_bound hpb hn2 hyo
    obtain ⟨x0, x1, x2, x3, x4, x5⟩ := x
    obtain ⟨y0, y1, y2, y3, y4, y5⟩ := y
    refine wl_ov (ov_loads rz223 rfl (fun _ hm => hm.blkI 0 rfl) rfl rfl) rfl ?_
    refine mv_ rfl (mv_ rfl (mv_ rfl ?_))
    rcases hpo : priceO l sea fr tt kd i ((mm : Nat) : Int) with _ | cc
    ·refine wl_callv (v := .tuple #[.int .i64 0, .bool false]) rfl cb242 rfl rfl (fun wx hm => (by have h := tprice_any l A n c0 fr tt sea A2 n2 c2 kd i ((mm : Nat) : Int) wx (hm.fact 0 rfl).1 (hm.fact 1 rfl).1 hc2 hn2 hin hsea hr h0 h00 ht0 ht1 (hend i hin); rw [hpo] at h; exact h)) ?_
     refine mv_ rfl (wl_ov (ov_extract rfl rfl) rfl (wl_ov (ov_extract rfl rfl) rfl (sg_ rfl (sg_ rfl (nn_ (sr_ (mv_ rfl (mv_ rfl (mv_ rfl (ad_ rfl rfl ?_))))))))))
     refine wl_set 51 (v' := .int .i64 ((i + mm : Nat) : Int)) rfl (congrArg (Value.int .i64) (by omega)) ?_
     refine wl_ov (ov_index (j := i + mm) es221 rfl rfl (by omega)) rfl ?_
     refine wl_ov (ov_elem (vs := [.int .i64 y0, .int .i64 y1, .int .i64 y2, .int .i64 y3, .int .i64 y4, .bool y5]) rz227 rfl (fun _ hm => (SlT.ofOwn dv_len (hm.ownI 0 rfl) hdl)) hy rfl rfl) rfl ?_
     refine wl_alloc zc227 rfl fun g3 => ?_
     refine wl_stores (cs' := [.int .i64 y0, .int .i64 y1, .int .i64 y2, .int .i64 y3, .int .i64 y4, .bool y5]) 0 rz227 rfl rfl rfl rfl rfl rfl rfl rfl ?_
     refine nn_ (gw_seq (sr_ (mv_ rfl (wl_ov (ov_un_not rfl) rfl ?_))))
     refine wl_set 55 (v' := .bool true) rfl (congrArg Value.bool (by decide)) ?_
     refine mv_ rfl (goff rfl rfl rfl (goff rfl rfl rfl (goff rfl rfl rfl (pt_ rfl rfl (nn_ (ct_ rfl ?_))))))
     refine gw_exit ?_
     refine nx_then_exit ?_
     refine nx_blk_here ?_
     refine nx_then (gw_region (mv_ rfl (ad_ rfl rfl (sg_ rfl (wl_nil ?_)))))
     exact nx_round (mm + 1, ds3) ⟨⟨by dsimp only; omega, by dsimp only; omega⟩, dv_none hrm hpo⟩ (by dsimp only; omega) ⟨rfl, rfl, rfl, rfl, rfl, rfl, (some_int (by omega)), trivial⟩ (fun _ hm => hm.pick [1] [0] [0, 1] rfl rfl)
    refine wl_callv (v := .tuple #[.int .i64 cc, .bool true]) rfl cb242 rfl rfl (fun wx hm => (by have h := tprice_any l A n c0 fr tt sea A2 n2 c2 kd i ((mm : Nat) : Int) wx (hm.fact 0 rfl).1 (hm.fact 1 rfl).1 hc2 hn2 hin hsea hr h0 h00 ht0 ht1 (hend i hin); rw [hpo] at h; exact h)) ?_
    have hcc := hpb _ _ _ _ hpo
    have hcc0 := hcc.1
    have hcc1 := hcc.2
    refine mv_ rfl (wl_ov (ov_extract rfl rfl) rfl (wl_ov (ov_extract rfl rfl) rfl (sg_ rfl (sg_ rfl (nn_ (sr_ (mv_ rfl (mv_ rfl (mv_ rfl (ad_ rfl rfl ?_))))))))))
    refine wl_set 51 (v' := .int .i64 ((i + mm : Nat) : Int)) rfl (congrArg (Value.int .i64) (by omega)) ?_
    refine wl_ov (ov_index (j := i + mm) es221 rfl rfl (by omega)) rfl ?_
    refine wl_ov (ov_elem (vs := [.int .i64 y0, .int .i64 y1, .int .i64 y2, .int .i64 y3, .int .i64 y4, .bool y5]) rz227 rfl (fun _ hm => (SlT.ofOwn dv_len (hm.ownI 0 rfl) hdl)) hy rfl rfl) rfl ?_
    refine wl_alloc zc227 rfl fun g4 => ?_
    refine wl_stores (cs' := [.int .i64 y0, .int .i64 y1, .int .i64 y2, .int .i64 y3, .int .i64 y4, .bool y5]) 0 rz227 rfl rfl rfl rfl rfl rfl rfl rfl ?_
    refine nn_ (gw_seq (sr_ (mv_ rfl (wl_ov (ov_un_not rfl) rfl ?_))))
    refine wl_set 55 (v' := .bool false) rfl (congrArg Value.bool (by decide)) ?_
    refine mv_ rfl (wl_guard_on rfl rfl rfl (fd_ fo227_3 rfl rfl (wl_guard_on rfl rfl rfl (lk_ sc4 0 rfl rfl rfl (wl_guard_on rfl rfl rfl (wl_ov (ov_un_not rfl) rfl (pf_ rfl rfl (nn_ ?_))))))))
    refine gw_cond rfl (fun hh => ?_) (fun hh => ?_)
    ·have hf : y5 = false := by simpa using hh
     clear hh
     refine gw_exit ?_
     refine nx_then_exit ?_
     refine nx_blk_here ?_
     refine nx_then (gw_region ?_)
     have hf : y5 = false := by simpa using hf
     refine mv_ rfl (ad_ rfl rfl (sg_ rfl (wl_nil ?_)))
     exact nx_round (mm + 1, ds3) ⟨⟨by dsimp only; omega, by dsimp only; omega⟩, dv_dead hrm hy (by omega) hf⟩ (by dsimp only; omega) ⟨rfl, rfl, rfl, rfl, rfl, rfl, (some_int (by omega)), trivial⟩ (fun _ hm => hm.pick [1] [0] [0, 1] rfl rfl)
    have hf : y5 = true := by simpa using hh
    clear hh
    refine gw_skip (nx_then (sr_ ?_))
    have hf : y5 = true := by simpa using hf
    subst hf
    obtain ⟨⟨hb0, hb1⟩, hb2, hb3⟩ := hbd rfl
    dsimp only at hb0 hb1 hb2 hb3
    refine mv_ rfl (fd_ fo227_0 rfl rfl (lk_ sc3 0 rfl rfl rfl (ad_ rfl rfl (fd_ fo227_1 rfl rfl (lk_ sc3 0 rfl rfl rfl (ad_ rfl rfl (mv_ rfl (mv_ rfl (mv_ rfl ?_)))))))))
    refine wl_ov (ov_build (cs := [.int .i64 kd, .int .i64 ((mm : Nat) : Int), .int .i64 cc]) rfl (by kernel_rfl)) rfl ?_
    refine wl_ov (ov_build (cs := [.int .i64 (cc + y0), .int .i64 (1 + y1), .int .i64 kd, .int .i64 ((mm : Nat) : Int), .int .i64 cc, .bool true]) rfl (by kernel_rfl)) rfl ?_
    refine wl_alloc zc227 rfl fun g5 => ?_
    refine wl_stores (cs' := [.int .i64 (cc + y0), .int .i64 (1 + y1), .int .i64 kd, .int .i64 ((mm : Nat) : Int), .int .i64 cc, .bool true]) 0 rz227 rfl rfl rfl rfl rfl rfl rfl rfl ?_
    refine nn_ (gw_seq ?_)
    refine gd (fun wz => Blk wz g5 227 [.int .i64 (cc + y0), .int .i64 (1 + y1), .int .i64 kd, .int .i64 ((mm : Nat) : Int), .int .i64 cc, .bool true] ∧ Blk wz g4 227 [.int .i64 y0, .int .i64 y1, .int .i64 y2, .int .i64 y3, .int .i64 y4, .bool true] ∧ Blk wz g1 223 [.slice A n c0, .int .i64 fr, .int .i64 tt, .slice A2 n2 c2] ∧ (SlOld rtEnc 7 38 w.heap.size none A n l) wz ∧ (SlOld itEnc 1 3 w.heap.size none A2 n2 sea) wz ∧ wz.ownsRow w.heap.size 227 6 (.slice (some ⟨g2, 0, none⟩) (n2 + 1) (n2 + 1)) (n2 + 1) (ds3.flatMap dvEnc) ∧ True) mixed (fun _ hm => ⟨hm.bl 0, hm.bl 1, hm.bl 2, hm.fa 0, hm.fa 1, hm.ownI 0 rfl, trivial⟩) fun z => ?_
    refine wt 0 27 1 rfl z (ov_move rfl) ?_
    refine wt 1 27 3 rfl z (ov_move rfl) ?_
    refine wt 2 27 7 rfl z (ov_index (j := i) es221 rfl rfl (by omega)) ?_
    refine wt 3 27 15 rfl z (ov_field fo227_3 rfl rfl) ?_
    refine wt 4 27 31 rfl z (ov_elem1 (k := 5) (v := .bool x5) sc4 rfl (fun _ hm => (SlT.ofOwn dv_len (hm.2.2.2.2.2.1) hdl)) hx rfl rfl) ?_
    refine wt 5 27 63 rfl z (ov_un_not rfl) ?_
    refine wt 6 27 127 rfl z (ov_move rfl) ?_
    rcases Bool.eq_false_or_eq_true (!x5) with hxf | hxf
    ·refine wa_set 79 rfl (congrArg Value.bool hxf) ?_
     have hxf : x5 = false := by simpa using hxf
     refine wtf 7 27 255 rfl rfl rfl z ?_
     refine wtf 8 27 511 rfl rfl rfl z ?_
     refine wtf 9 27 1023 rfl rfl rfl z ?_
     refine wtf 10 27 2047 rfl rfl rfl z ?_
     refine wtf 11 27 4095 rfl rfl rfl z ?_
     refine wtf 12 27 8191 rfl rfl rfl z ?_
     refine wtf 13 27 16383 rfl rfl rfl z ?_
     refine wtf 14 27 32767 rfl rfl rfl z ?_
     refine wtf 15 27 65535 rfl rfl rfl z ?_
     refine wtf 16 27 131071 rfl rfl rfl z ?_
     refine wtf 17 27 262143 rfl rfl rfl z ?_
     refine wtf 18 27 524287 rfl rfl rfl z ?_
     refine wtf 19 27 1048575 rfl rfl rfl z ?_
     refine wtf 20 27 2097151 rfl rfl rfl z ?_
     refine wtf 21 27 4194303 rfl rfl rfl z ?_
     refine wtf 22 27 8388607 rfl rfl rfl z ?_
     refine wtf 23 27 16777215 rfl rfl rfl z ?_
     refine wtf 24 27 33554431 rfl rfl rfl z ?_
     refine wtf 25 27 67108863 rfl rfl rfl z ?_
     refine wt 26 27 134217727 rfl z (ov_pick_t rfl rfl) ?_
     refine wa_done (by kernel_rfl) ?_
     refine nx_then (ct_ rfl (gw_region (mv_ rfl (mv_ rfl ?_))))
     refine wl_ov (ov_loads rz227 rfl (fun _ hm => hm.blkI 0 rfl) rfl rfl) rfl ?_
     refine wl_ov (ov_index (j := i) es221 rfl rfl (by omega)) rfl ?_
     refine wl_storesE (l := ds3) (j := i) (r := 0) (el := ⟨x0, x1, x2, x3, x4, x5⟩) (el' := ⟨cc + y0, 1 + y1, kd, ((mm : Nat) : Int), cc, true⟩) 0 rz227 rfl rfl rfl rfl rfl dv_len rfl hx hdl (by decide) rfl rfl ?_
     refine wl_nil (nx_blk_nrm (nx_then (gw_region (mv_ rfl (ad_ rfl rfl (sg_ rfl (wl_nil ?_)))))))
     exact nx_round (mm + 1, ds3.set i ⟨cc + y0, 1 + y1, kd, ((mm : Nat) : Int), cc, true⟩) ⟨⟨by dsimp only; omega, by dsimp only; omega⟩, dv_first hrm ⟨hk1, hk4⟩ ⟨hm1, hm7⟩ hpo hy rfl hx hxf⟩ (by dsimp only; omega) ⟨rfl, rfl, rfl, rfl, rfl, rfl, (some_int (by omega)), trivial⟩ (fun _ hm => hm.pick [2] [0] [0, 1] rfl rfl)
    refine wa_set 79 rfl (congrArg Value.bool hxf) ?_
    have hxf : x5 = true := by simpa using hxf
    refine wto 7 27 255 rfl rfl rfl z (ov_field fo227_0 rfl rfl) ?_
    refine wto 8 27 511 rfl rfl rfl z (ov_load sc3 rfl (fun _ hm => hm.1) rfl) ?_
    refine wto 9 27 1023 rfl rfl rfl z (ov_move rfl) ?_
    refine wto 10 27 2047 rfl rfl rfl z (ov_move rfl) ?_
    refine wto 11 27 4095 rfl rfl rfl z (ov_index (j := i) es221 rfl rfl (by omega)) ?_
    refine wto 12 27 8191 rfl rfl rfl z (ov_field fo227_0 rfl rfl) ?_
    refine wto 13 27 16383 rfl rfl rfl z (ov_elem1 (k := 0) (v := .int .i64 x0) sc3 rfl (fun _ hm => (SlT.ofOwn dv_len (hm.2.2.2.2.2.1) hdl)) hx rfl rfl) ?_
    refine wto 15 27 49151 rfl rfl rfl z (ov_field fo227_1 rfl rfl) ?_
    refine wto 16 27 114687 rfl rfl rfl z (ov_load sc3 rfl (fun _ hm => hm.1) rfl) ?_
    refine wto 17 27 245759 rfl rfl rfl z (ov_move rfl) ?_
    refine wto 18 27 507903 rfl rfl rfl z (ov_move rfl) ?_
    refine wto 19 27 1032191 rfl rfl rfl z (ov_index (j := i) es221 rfl rfl (by omega)) ?_
    refine wto 20 27 2080767 rfl rfl rfl z (ov_field fo227_1 rfl rfl) ?_
    refine wto 21 27 4177919 rfl rfl rfl z (ov_elem1 (k := 1) (v := .int .i64 x1) sc3 rfl (fun _ hm => (SlT.ofOwn dv_len (hm.2.2.2.2.2.1) hdl)) hx rfl rfl) ?_
    refine wa1 14 rfl ?_
    refine wl_guard_on rfl rfl rfl ?_
    refine wl_callv rfl cb84 rfl rfl (fun wx hm => (cmp_int _ _ wx)) ?_
    refine wl_nil ?_
    refine nw 27 4194303 (fun _ hm => ⟨hm.bl 0, hm.bl 1, hm.bl 2, hm.fa 0, hm.fa 1, hm.ownI 0 rfl, trivial⟩) fun z => ?_
    refine wa1 22 rfl ?_
    refine wl_guard_on rfl rfl rfl ?_
    refine wl_callv rfl cb84 rfl rfl (fun wx hm => (cmp_int _ _ wx)) ?_
    refine wl_nil ?_
    refine nw 27 8388607 (fun _ hm => ⟨hm.bl 0, hm.bl 1, hm.bl 2, hm.fa 0, hm.fa 1, hm.ownI 0 rfl, trivial⟩) fun z => ?_
    refine wa1 23 rfl ?_
    refine wl_guard_on rfl rfl rfl ?_
    refine wl_buildSlice (e := 3) (cs := [.int .i64 (cmpI (cc + y0) x0), .int .i64 (cmpI (1 + y1) x1)]) rfl (by kernel_rfl) rfl fun g6 => ?_
    refine wl_nil ?_
    refine nw 27 16777215 (fun _ hm => ⟨hm.bl 1, hm.bl 2, hm.bl 3, hm.fa 0, hm.fa 1, hm.ownI 0 rfl, trivial⟩) fun z => ?_
    refine wa1 24 rfl ?_
    refine wl_guard_on rfl rfl rfl ?_
    refine wl_callv rfl cb83 rfl rfl (fun wx hm => (or_two _ _ _ _ _ wx (hm.blkI 0 rfl))) ?_
    refine wl_nil ?_
    refine nw 27 33554431 (fun _ hm => ⟨hm.bl 1, hm.bl 2, hm.bl 3, hm.fa 0, hm.fa 1, hm.ownI 0 rfl, trivial⟩) fun z => ?_
    refine wto 25 27 67108863 rfl rfl rfl z (ov_lss rfl rfl) ?_
    refine wt 26 27 134217727 rfl z (ov_pick_f rfl rfl) ?_
    refine wa_done (by kernel_rfl) ?_
    refine nx_then ?_
    refine gw_cond rfl (fun hh => ?_) (fun hh => ?_)
    ·have hl9 : firstE [cmpI (cc + y0) x0, cmpI (1 + y1) x1] < 0 := by simpa using hh
     clear hh
     refine gw_region (mv_ rfl (mv_ rfl ?_))
     refine wl_ov (ov_loads rz227 rfl (fun _ hm => hm.blkI 1 rfl) rfl rfl) rfl ?_
     refine wl_ov (ov_index (j := i) es221 rfl rfl (by omega)) rfl ?_
     refine wl_storesE (l := ds3) (j := i) (r := 0) (el := ⟨x0, x1, x2, x3, x4, x5⟩) (el' := ⟨cc + y0, 1 + y1, kd, ((mm : Nat) : Int), cc, true⟩) 0 rz227 rfl rfl rfl rfl rfl dv_len rfl hx hdl (by decide) rfl rfl ?_
     refine wl_nil (nx_blk_nrm (nx_then (gw_region (mv_ rfl (ad_ rfl rfl (sg_ rfl (wl_nil ?_)))))))
     exact nx_round (mm + 1, ds3.set i ⟨cc + y0, 1 + y1, kd, ((mm : Nat) : Int), cc, true⟩) ⟨⟨by dsimp only; omega, by dsimp only; omega⟩, dv_better hrm ⟨hk1, hk4⟩ ⟨hm1, hm7⟩ hpo hy rfl hx hxf hl9⟩ (by dsimp only; omega) ⟨rfl, rfl, rfl, rfl, rfl, rfl, (some_int (by omega)), trivial⟩ (fun _ hm => hm.pick [3] [0] [0, 1] rfl rfl)
    have hl9 : ¬ (firstE [cmpI (cc + y0) x0, cmpI (1 + y1) x1] < 0) := by simpa using hh
    clear hh
    refine gw_skip (nx_blk_nrm (nx_then (gw_region (mv_ rfl (ad_ rfl rfl (sg_ rfl (wl_nil ?_)))))))
    exact nx_round (mm + 1, ds3) ⟨⟨by dsimp only; omega, by dsimp only; omega⟩, dv_keep hrm ⟨hk1, hk4⟩ ⟨hm1, hm7⟩ hpo hy rfl hx hxf hl9⟩ (by dsimp only; omega) ⟨rfl, rfl, rfl, rfl, rfl, rfl, (some_int (by omega)), trivial⟩ (fun _ hm => hm.pick [3] [0] [0, 1] rfl rfl)
   have hmc : ¬ (((mm : Nat) : Int) ≤ min 7 (((n2 : Nat) : Int) - ((i : Nat) : Int))) := by simpa using hh
   clear hh
   refine gw_exit ?_
   refine nx_then_exit (nx_then_exit ?_)
   refine nx_blk_here ?_
   refine nx_blk_nrm (nx_then (gw_region (mv_ rfl (ad_ rfl rfl (sg_ rfl (wl_nil ?_))))))
   exact nx_round (kd + 1, ds3) ⟨⟨by dsimp only; omega, by dsimp only; omega⟩, dv_kind hrm (by omega)⟩ (by dsimp only; omega) ⟨rfl, rfl, rfl, rfl, rfl, rfl, trivial⟩ (fun _ hm => hm.pick [0] [0] [0, 1] rfl rfl)
  have hk4 : ¬ (kd ≤ 4) := by simpa using hh
  clear hh
  refine gw_exit ?_
  refine nx_then_exit (nx_then_exit ?_)
  refine nx_blk_here ?_
  refine nx_blk_nrm (nx_then (gw_region ?_))
  have hk5 : kd = 5 := by omega
  subst hk5
  refine mv_ rfl ?_
  refine wl_ov (ov_sub rfl rfl (by omega) (by omega)) rfl ?_
  refine sg_ rfl (wl_nil ?_)
  exact nx_round (i, ds2) ⟨by dsimp only; omega, dv_done hrw hin⟩ (by dsimp only; omega) ⟨rfl, rfl, rfl, rfl, rfl, trivial⟩ (fun _ hm => hm.pick [0] [0] [0, 1] rfl rfl)
 have hk : ¬ (0 ≤ ((r : Nat) : Int) - 1) := by simpa using hh
 clear hh
 refine gw_exit ?_
 refine nx_then_exit (nx_then_exit ?_)
 refine nx_blk_here ?_
 refine nx_then (sr_ (mv_ rfl (sg_ rfl (nn_ ?_))))
 refine gw_ret ?_
 have hz : r = 0 := by omega
 subst hz
 refine nx_ret1 rfl rfl fun wx hm => ?_
 exact ⟨some ⟨g2, 0, none⟩, n2 + 1, ds, rfl, hm.g, hm.ownI 0 rfl, hr1⟩
end Go.Proofs.YtnpcbfllnkiopaaGreatDoor
namespace Go.Proofs.YtnpcbfllnkiopaaGreatDoor
open Go.RowKit
def pcEnc (p : Pc) : List Value := [.int .i64 p.kind, .int .i64 p.days, .int .i64 p.cents]
theorem pc_len (p : Pc) : (pcEnc p).length = 3 := rfl
def chkE (l : List Rt) (c : ByteArray) (fr tt : Int) : Int := firstE [ratesE l, whenE (!keyB c) 5, timeE fr tt]
theorem chkE_ok {l : List Rt} {c : ByteArray} {fr tt : Int} (h : chkE l c fr tt = 0) : ratesE l = 0 ∧ keyB c = true ∧ timeE fr tt = 0 := by
  have hz := fe_all h
  have h2 := we_ok (by decide) (hz (whenE (!keyB c) 5) (by simp))
  exact ⟨hz _ (by simp), by simpa using h2, hz _ (by simp)⟩
def daysN (fr tt : Int) : Nat := (daysV fr tt).toNat
/-- The prices of the pieces of a hire. -/
def prH (l : List Rt) (c : ByteArray) (fr tt : Int) : Int → Nat → Int → Option Int := priceO l (seasons l c fr (daysN fr tt)) fr tt
theorem seasons_bound (l : List Rt) (c : ByteArray) (fr : Int) (n : Nat) : ∀ k ∈ seasons l c fr n, -1 ≤ k ∧ k < (l.length : Int) := fun k hk => by
  unfold seasons at hk
  obtain ⟨i, _, rfl⟩ := List.mem_map.1 hk
  exact ixP_bound l
theorem begV_end {fr tt : Int} (h : timeE fr tt = 0) : ∀ i, i < daysN fr tt → begV fr i ≤ tt := fun i hi => by
  have h1 := timeE_ok h
  unfold daysN daysV at hi
  unfold begV
  omega
/-- The error and the pieces of Divide. -/
def DivIs (l : List Rt) (c : ByteArray) (fr tt : Int) (e : Int) (ps : List Pc) : Prop :=
  (chkE l c fr tt ≠ 0 ∧ e = chkE l c fr tt ∧ ps = []) ∨ (chkE l c fr tt = 0 ∧ ((e = 8 ∧ ps = [] ∧ ∀ qs, ¬ Chain (prH l c fr tt) 0 (daysN fr tt) qs) ∨ (e = 0 ∧ Best (prH l c fr tt) 0 (daysN fr tt) ps)))
theorem divIs_one {l : List Rt} {c : ByteArray} {fr tt e f : Int} {ps qs : List Pc} (h : DivIs l c fr tt e ps) (g : DivIs l c fr tt f qs) : e = f ∧ ps = qs := by
  rcases h with ⟨h1, rfl, rfl⟩ | ⟨h1, h | h⟩ <;> rcases g with ⟨g1, rfl, rfl⟩ | ⟨g1, g | g⟩
  · exact ⟨rfl, rfl⟩
  · exact absurd g1 h1
  · exact absurd g1 h1
  · exact absurd h1 g1
  · exact ⟨h.1.trans g.1.symm, h.2.1.trans g.2.1.symm⟩
  · exact absurd g.2.1 (h.2.2 _)
  · exact absurd h1 g1
  · exact absurd h.2.1 (g.2.2 _)
  · exact ⟨h.1.trans g.1.symm, best_one h.2 g.2⟩
theorem best_head {pr : Int → Nat → Int → Option Int} {i n : Nat} {ps : List Pc} (h : Best pr i n ps) (hi : i < n) : ∃ p r, ps = p :: r ∧ StepOk pr i p ∧ i + p.days.toNat ≤ n := by
  cases ps with
  | nil => have := h.1; simp only [Chain] at this; omega
  | cons p r => exact ⟨p, r, rfl, h.1.1, chain_head h.1⟩
theorem dv_at {pr : Int → Nat → Int → Option Int} {i n : Nat} {ds : List Dv} {x : Dv} {p : Pc} {r : List Pc} (h : DvFrom pr n 0 ds) (hx : ds[i]? = some x) (hb : Best pr i n (p :: r)) : x.kind = p.kind ∧ x.days = p.days ∧ x.cents = p.cents := by
  obtain ⟨s, h1, h2⟩ := h.2.1 i x (Nat.zero_le _) hx
  cases s with
  | none => exact absurd hb.1 (h1 _)
  | some qs => exact h2.2.2.2 p r (best_one h1 hb)
theorem dv_first0 {pr : Int → Nat → Int → Option Int} {n : Nat} {ds : List Dv} {x : Dv} (h : DvFrom pr n 0 ds) (hx : ds[0]? = some x) : (x.fine = false → ∀ qs, ¬ Chain pr 0 n qs) ∧ (x.fine = true → ∃ ps, Best pr 0 n ps ∧ x.cost = pcSum ps) := by
  obtain ⟨s, h1, h2⟩ := h.2.1 0 x (Nat.zero_le _) hx
  refine ⟨fun hf => ?_, fun hf => ?_⟩
  · rw [h2.none_ hf] at h1; exact h1
  · obtain ⟨ps, rfl⟩ := h2.some_ hf
    exact ⟨ps, h1, h2.2.1⟩
theorem checkHire_any (l : List Rt) (A : Option Addr) (n c0 : Nat) (c : ByteArray) (fr tt : Int) (w : World) (hl : SlT rtEnc 7 38 w A n l) (hok : ∀ b ∈ l, RtOk b) (hn : n ≤ 1000000) (hc : c.size ≤ 1000000) :
  Calls Tryz.prog 166 #[.slice A n c0, .string c, .agg #[.int .i64 fr, .int .i64 tt]] w (GotE w (chkE l c fr tt)) := by
 refine gw_enter ⟨17, w, none, []⟩ Tryz.func166 rfl Tryz.ntmps166 rfl (mem0 (X := [SlOld rtEnc 7 38 w.heap.size none A n l]) (allF_cons hl.old allF_nil) (allL_cons SlOld.lasts allL_nil)) ?_
 refine sr_ ?_
 obtain ⟨RE, hRE⟩ : ∃ E, E = ratesE l := ⟨_, rfl⟩
 refine wl_box rfl rfl rfl fun g1 => ?_
 refine sg_ rfl (nn_ (gw_seq ?_))
 refine gd (fun wz => Blk wz g1 42 [.int .i64 fr, .int .i64 tt] ∧ (SlOld rtEnc 7 38 w.heap.size none A n l) wz ∧ True) mixed (fun _ hm => ⟨hm.bl 0, hm.fa 0, trivial⟩) fun z => ?_
 refine wt 0 11 1 rfl z (ov_move rfl) ?_
 refine wt 2 11 5 rfl z (ov_move rfl) ?_
 refine wt 6 11 69 rfl z (ov_loads rz42 rfl (fun _ hm => hm.1) rfl rfl) ?_
 refine wa1 1 rfl ?_
 refine wl_callv (v := .int .i64 RE) rfl cb59 rfl rfl (fun wx hm => (by rw [hRE]; exact checkRates_any l A n c0 wx (hm.fact 0 rfl).1 hok hn)) ?_
 refine wl_nil ?_
 refine nw 11 71 (fun _ hm => ⟨hm.bl 0, hm.fa 0, trivial⟩) fun z => ?_
 refine wa1 3 rfl ?_
 refine wl_callw rfl cb160 rfl rfl (fun wx hm => (isKey_any _ wx (by omega))) ?_
 refine wl_nil ?_
 refine nw 11 79 (fun _ hm => ⟨hm.bl 0, hm.fa 0, trivial⟩) fun z => ?_
 refine wt 4 11 95 rfl z (ov_un_not rfl) ?_
 refine wa1 5 rfl ?_
 refine wl_callw rfl cb106 rfl rfl (fun wx hm => (when_any _ _ wx)) ?_
 refine wl_nil ?_
 refine nw 11 127 (fun _ hm => ⟨hm.bl 0, hm.fa 0, trivial⟩) fun z => ?_
 refine wa1 7 rfl ?_
 refine wl_callv rfl cb172 rfl rfl (fun wx hm => (time_any _ _ wx)) ?_
 refine wl_nil ?_
 refine nw 11 255 (fun _ hm => ⟨hm.bl 0, hm.fa 0, trivial⟩) fun z => ?_
 refine wa1 8 rfl ?_
 refine wl_buildSlice (e := 28) (cs := [.int .i64 RE, .int .i64 (whenE (!(keyB c)) 5), .int .i64 (timeE fr tt)]) rfl (by kernel_rfl) rfl fun g2 => ?_
 refine wl_nil ?_
 refine nw 11 511 (fun _ hm => ⟨hm.bl 1, hm.fa 0, trivial⟩) fun z => ?_
 refine wa1 9 rfl ?_
 refine wl_callw rfl cb104 rfl rfl (fun wx hm => (first_any [RE, whenE (!(keyB c)) 5, timeE fr tt] _ _ _ wx (hm.blkI 0 rfl) (by simp))) ?_
 refine wl_nil ?_
 refine nw 11 1023 (fun _ hm => ⟨hm.bl 1, hm.fa 0, trivial⟩) fun z => ?_
 refine wt 10 11 2047 rfl z (ov_assign rfl) ?_
 refine wa_done (by kernel_rfl) ?_
 refine nx_then ?_
 refine gw_ret ?_
 refine nx_ret1 rfl rfl fun wx hm => ?_
 exact ⟨ret_int (by unfold chkE; rw [hRE]), hm.g⟩
theorem tDivide_any (l : List Rt) (A : Option Addr) (n c0 : Nat) (c : ByteArray) (fr tt : Int) (w : World) (hl : SlT rtEnc 7 38 w A n l) (hok : ∀ b ∈ l, RtOk b) (hn : n ≤ 1000000) (hc : c.size ≤ 1000000) :
  Calls Tryz.prog 74 #[.slice A n c0, .string c, .agg #[.int .i64 fr, .int .i64 tt]] w (fun e w' => ∃ A3 n3 c3 ps er, e = .returned (.tuple #[.slice A3 n3 c3, .int .i64 er]) ∧ w.grownBy w' none ∧ SlT pcEnc 3 122 w' A3 n3 ps ∧ DivIs l c fr tt er ps ∧ n3 ≤ 120) := by
 refine gw_enter ⟨51, w, none, [227, 3]⟩ Tryz.func74 rfl Tryz.ntmps74 rfl (mem0 (X := [SlOld rtEnc 7 38 w.heap.size none A n l]) (allF_cons hl.old allF_nil) (allL_cons SlOld.lasts allL_nil)) ?_
 refine sr_ ?_
 obtain ⟨CE, hCE⟩ : ∃ E, E = chkE l c fr tt := ⟨_, rfl⟩
 refine wl_box rfl rfl rfl fun g1 => ?_
 refine sg_ rfl (sg_ rfl (nn_ (gw_seq (sr_ (mv_ rfl (mv_ rfl ?_))))))
 refine wl_ov (ov_loads rz42 rfl (fun _ hm => hm.blkI 0 rfl) rfl rfl) rfl ?_
 refine wl_callv (v := .int .i64 CE) rfl cb166 rfl rfl (fun wx hm => (by rw [hCE]; exact checkHire_any l A n c0 c fr tt wx (hm.fact 0 rfl).1 hok hn hc)) ?_
 refine sg_ rfl (nn_ (sr_ (mv_ rfl (wl_ov (ov_neq rfl rfl) rfl (nn_ ?_)))))
 refine gw_cond rfl (fun hh => ?_) (fun hh => ?_)
 ·have h1 : ¬ (CE = 0) := by simpa using hh
  clear hh
  refine sr_ (mv_ rfl (sg_ rfl (sg_ rfl (nn_ ?_))))
  refine gw_ret ?_
  refine nx_then_ret ?_
  refine nx_ret2 rfl rfl rfl fun wx hm => ?_
  exact ⟨none, 0, 0, [], CE, rfl, hm.g, SlT.nil_ _ _, .inl ⟨fun h => h1 (hCE.trans h), hCE, rfl⟩, by omega⟩
 have h1 : CE = 0 := by simpa using hh
 clear hh
 refine gw_skip (nx_then (sr_ ?_))
 obtain ⟨hr0, hkc, ht⟩ := chkE_ok (hCE.symm.trans h1)
 obtain ⟨h0, hlt, htt, _⟩ := timeE_ok ht
 have hpos := rt_pos hr0
 have hro := rate_ok hr0
 have hD1 := timeE_days ht
 obtain ⟨D, hD⟩ : ∃ D, D = daysN fr tt := ⟨_, rfl⟩
 have hD2 : 1 ≤ D ∧ D ≤ 120 := by rw [hD]; unfold daysN; omega
 have hD3 := hD2.1
 have hD4 := hD2.2
 obtain ⟨sea, hsea⟩ : ∃ x, x = seasons l c fr D := ⟨_, rfl⟩
 refine mv_ rfl (mv_ rfl ?_)
 refine wl_ov (ov_loads rz42 rfl (fun _ hm => hm.blkI 0 rfl) rfl rfl) rfl ?_
 refine wl_callx (γ := Option Addr × Nat) (val := (fun g => .agg #[.slice A n c0, .int .i64 fr, .int .i64 tt, .slice g.1 D g.2])) (φ := (fun g => D ≤ g.2)) (Y := (fun g => fun wy => SlT itEnc 1 3 wy g.1 D sea)) rfl cb167 rfl rfl (fun wx hm => (by rw [hsea, hD]; exact (trent_any l A n c0 c fr tt wx (hm.fact 0 rfl).1 hn hpos ht).mono fun _ _ ⟨A2, c2, he, hg, hs, hc⟩ => ⟨(A2, c2), he, hc, hg, hs⟩)) (fun _ => SlT.lasts2 rfl) ?_
 rintro ⟨A2, c2⟩ hDc
 dsimp only at hDc ⊢
 refine wl_callx (γ := Option Addr × Nat × List Dv) (val := (fun g => .slice g.1 (D + 1) g.2.1)) (φ := (fun g => DvFrom (priceO l sea fr tt) D 0 g.2.2)) (Y := (fun g => fun wy => SlT dvEnc 6 227 wy g.1 (D + 1) g.2.2)) rfl cb168 rfl rfl (fun wx hm => (tdivide_any l A n c0 fr tt sea A2 D c2 wx (hm.fact 1 rfl).1 (hm.fact 0 rfl) hDc hD4 (by rw [hsea]; exact seasons_bound l c fr D) hro h0 (by omega) (by omega) htt (by rw [hD]; exact begV_end ht)).mono fun _ _ ⟨A3, c3, ds, he, hg, hs, hd⟩ => ⟨(A3, c3, ds), he, hd, hg, SlT.ofOwn dv_len hs hd.1⟩) (fun _ => SlT.lasts2 rfl) ?_
 rintro ⟨A3, c3, ds⟩ hds
 dsimp only at hds ⊢
 have hpr : priceO l sea fr tt = prH l c fr tt := by unfold prH; rw [hsea, hD]
 rw [hpr] at hds
 have hdl := hds.1
 obtain ⟨x, hx⟩ : ∃ x, ds[0]? = some x := ⟨_, List.getElem?_eq_getElem (by omega)⟩
 have hd0 := dv_first0 hds hx
 obtain ⟨x0, x1, x2, x3, x4, x5⟩ := x
 refine wl_look (R := ∃ b3 o3, A3 = some ⟨b3, o3, none⟩) (fun wx hm => by obtain ⟨b3, o3, h, _, _⟩ := SlT.get (hm.fact 0 rfl) (by omega); exact ⟨b3, o3, h⟩) ?_
 rintro ⟨b3, o3, rfl⟩
 refine sg_ rfl (nn_ (gw_seq (sr_ (mv_ rfl ?_))))
 refine wl_ov (ov_index (j := 0) es221 rfl rfl (by omega)) rfl ?_
 refine fd_ fo227_3 rfl rfl ?_
 refine wl_ov (ov_elem1 (k := 5) (v := .bool x5) sc4 rfl (fun _ hm => (hm.fact 0 rfl)) (show ds[0]? = some _ from hx) rfl rfl) rfl ?_
 refine wl_ov (ov_un_not rfl) rfl (nn_ ?_)
 refine gw_cond rfl (fun hh => ?_) (fun hh => ?_)
 ·have hf : x5 = false := by simpa using hh
  clear hh
  refine sr_ (sg_ rfl (sg_ rfl (nn_ ?_)))
  refine gw_ret ?_
  refine nx_then_ret ?_
  refine nx_ret2 rfl rfl rfl fun wx hm => ?_
  exact ⟨none, 0, 0, [], 8, rfl, hm.g, SlT.nil_ _ _, .inr ⟨hCE.symm.trans h1, .inl ⟨rfl, rfl, hD ▸ hd0.1 (by simpa using hf)⟩⟩, by omega⟩
 have hf : x5 = true := by simpa using hh
 clear hh
 refine gw_skip (nx_then (sr_ ?_))
 obtain ⟨ps, hps, _⟩ := hd0.2 (by simpa using hf)
 refine sg_ rfl (nn_ (gw_seq (sr_ (sg_ rfl (nn_ (gw_block ?_))))))
 refine gw_nilOwn 122 3 ?_
 refine gw_loop (γ := Nat × Nat × Value × List Pc × List Pc × List Value) (fun g => g.1 ≤ D ∧ g.2.1 ≤ g.1 ∧ g.2.2.2.1.length = g.2.1 ∧ ps = g.2.2.2.1 ++ g.2.2.2.2.1 ∧ Best (prH l c fr tt) g.1 D g.2.2.2.2.1 ∧ g.2.2.2.2.2 = g.2.2.2.1.flatMap pcEnc) (fun g => [(6, .slice none 0 0), (7, .int .i64 0), (9, .slice (some ⟨b3, o3, none⟩) (D + 1) c3), (10, g.2.2.1), (11, .int .i64 ((g.1 : Nat) : Int))]) (fun g => fun _ => True) (fun g => [(g1, 42, [.int .i64 fr, .int .i64 tt])]) (fun g => [⟨g.2.2.1, 122, 3, g.2.1, g.2.2.2.2.2⟩]) (fun g => [fun wy => SlT dvEnc 6 227 wy (some ⟨b3, o3, none⟩) (D + 1) ds, fun wy => SlT itEnc 1 3 wy A2 D sea, SlOld rtEnc 7 38 w.heap.size none A n l]) (fun g => D - g.1) (0, 0, .slice none 0 0, [], ps, []) ⟨Nat.zero_le _, Nat.le_refl _, rfl, rfl, hps, rfl⟩ ⟨rfl, rfl, rfl, rfl, rfl, trivial⟩ (fun _ hm => hm.pick [0] [0] [0, 1, 2] rfl rfl) ?_
 rintro ⟨i, k, v, pl, rl, xs⟩ hinv
 replace hinv : i ≤ D ∧ k ≤ i ∧ pl.length = k ∧ ps = pl ++ rl ∧ Best (prH l c fr tt) i D rl ∧ xs = pl.flatMap pcEnc := hinv
 dsimp only
 refine gw_seq (sr_ ?_)
 obtain ⟨hi0, hi1, hi2, hi3, hi4, rfl⟩ := hinv
 refine mv_ rfl (mv_ rfl (wl_ov (ov_len es221 rfl) rfl ?_))
 refine wl_ov (ov_sub rfl rfl (by omega) (by omega)) rfl ?_
 refine wl_ov (ov_lss rfl rfl) rfl (nn_ ?_)
 refine gw_cond rfl (fun hh => ?_) (fun hh => ?_)
 ·have hk : ((i : Nat) : Int) < ((D + 1 : Nat) : Int) - 1 := by simpa using hh
  clear hh
  refine gw_skip (nx_then (gw_seq (gw_block (gw_region ?_))))
  have hiD : i < D := by omega
  obtain ⟨p, rr, hp1, hp2, hp3⟩ := best_head hi4 hiD
  subst hp1
  obtain ⟨y, hy⟩ : ∃ y, ds[i]? = some y := ⟨_, List.getElem?_eq_getElem (by omega)⟩
  obtain ⟨e1, e2, e3⟩ := dv_at hds hy hi4
  obtain ⟨y0, y1, y2, y3, y4, y5⟩ := y
  dsimp only at e1 e2 e3
  have hd1 : 1 ≤ y3 := by rw [e2]; exact hp2.2.2.1
  have hd2 : i + y3.toNat ≤ D := by rw [e2]; exact hp3
  refine mv_ rfl (mv_ rfl (mv_ rfl ?_))
  refine wl_ov (ov_index (j := i) es221 rfl rfl (by omega)) rfl ?_
  refine fd_ fo227_2 rfl rfl ?_
  refine wl_ov (ov_elemN (k := 2) (vs := [.int .i64 y2, .int .i64 y3, .int .i64 y4]) rz122 rfl (fun _ hm => (hm.fact 0 rfl)) hy rfl rfl rfl) rfl ?_
  refine wl_buildSlice (e := 122) (cs := [.int .i64 y2, .int .i64 y3, .int .i64 y4]) rfl (by kernel_rfl) rfl fun g2 => ?_
  refine wl_append (news := [.int .i64 y2, .int .i64 y3, .int .i64 y4]) 0 0 ap117 rfl rfl rfl rfl rfl rfl rfl (by omega) (by unfold maxLen; omega) rfl rfl fun v2 hv2 => ?_
  refine sg_ rfl (wl_nil (nx_blk_nrm (nx_then (gw_region (mv_ rfl (mv_ rfl (mv_ rfl ?_)))))))
  refine wl_ov (ov_index (j := i) es221 rfl rfl (by omega)) rfl ?_
  refine fd_ fo227_2 rfl rfl (fd_ fo122_1 rfl rfl ?_)
  refine wl_ov (ov_elem1 (k := 3) (v := .int .i64 y3) sc3 rfl (fun _ hm => (hm.fact 0 rfl)) hy rfl rfl) rfl ?_
  refine ad_ rfl rfl (sg_ rfl (wl_nil ?_))
  exact nx_round (i + y3.toNat, k + 1, v2, pl ++ [⟨y2, y3, y4⟩], rr, pl.flatMap pcEnc ++ ([.int .i64 y2, .int .i64 y3, .int .i64 y4] : List Value)) ⟨by dsimp only; omega, by dsimp only; omega, by simp [hi2], by dsimp only; rw [hi3, e1, e2, e3, List.append_assoc]; rfl, by rw [e2]; exact best_tail hi4, by simp [pcEnc]⟩ (by dsimp only; omega) ⟨rfl, rfl, rfl, rfl, (some_int (by omega)), trivial⟩ (fun _ hm => hm.pick [1] [0] [0, 1, 2] rfl rfl)
 have hk : ¬ (((i : Nat) : Int) < ((D + 1 : Nat) : Int) - 1) := by simpa using hh
 clear hh
 refine gw_exit ?_
 refine nx_then_exit (nx_then_exit ?_)
 refine nx_blk_here ?_
 refine nx_then (sr_ ?_)
 have hiD : i = D := by omega
 subst hiD
 have hrl : rl = [] := by
  cases rl with
  | nil => rfl
  | cons q t => have := chain_le hi4.1; simp only [List.length_cons] at this; omega
 subst hrl
 refine wl_look (R := ∃ A cc, v = .slice A k cc) (fun wx hm => own_slice (hm.ownI 0 rfl)) ?_
 rintro ⟨A4, c4, rfl⟩
 refine mv_ rfl (sg_ rfl (sg_ rfl (nn_ ?_)))
 refine gw_ret ?_
 refine nx_ret2 rfl rfl rfl fun wx hm => ?_
 exact ⟨A4, k, c4, pl, 0, rfl, hm.g, SlT.ofOwn pc_len (hm.ownI 0 rfl) hi2, .inr ⟨hCE.symm.trans h1, .inr ⟨rfl, by rw [← hD]; rw [List.append_nil] at hi3; rw [← hi3]; exact hps⟩⟩, by omega⟩
set_option maxRecDepth 100000 in
theorem same_piece_neq (x0 : Int) (x1 : Int) (x2 : Int) (w : World) : (binOp .neq 122 (.agg #[.int .i64 x0, .int .i64 x1, .int .i64 x2]) (.agg #[.int .i64 x0, .int .i64 x1, .int .i64 x2])).run Tryz.prog w = .ok (.bool false) w := by
  have hS : Tryz.prog.underlying 122 = some (.struct (Tryz.prog.fieldsOf 122)) := by kernel_rfl
  have hp : Tryz.prog.stoodInHeld 122 = false := by kernel_rfl
  rw [run_neq_struct, show (10000 : Nat) = 9999 + 1 from rfl, run_equalIn_agg w 9999 122 _ _ hS hp]
  simp only [Program.fieldsOf, Tryz.underlying122]
  have u3 := Tryz.underlying3
  clear hS hp
  go_simp
theorem guard_piece : Tryz.prog.eqGuardType Tryz.prog.depth 122 = false := by kernel_rfl
theorem equal_piece_any (l : List Pc) (A1 A2 : Option Addr) (n c1 c2 : Nat) (w : World) (h1 : SlT pcEnc 3 122 w A1 n l) (h2 : SlT pcEnc 3 122 w A2 n l) (hn : n ≤ 1000000) :
  Calls Tryz.prog 75 #[.slice A1 n c1, .slice A2 n c2] w (fun e w' => e = .returned (.bool true) ∧ w.grownBy w' none) := by
 refine gw_enter ⟨26, w, none, []⟩ Tryz.func75 rfl Tryz.ntmps75 rfl (mem0 (X := [SlOld pcEnc 3 122 w.heap.size none A1 n l, SlOld pcEnc 3 122 w.heap.size none A2 n l]) (allF_cons h1.old (allF_cons h2.old allF_nil)) (allL_cons SlOld.lasts (allL_cons SlOld.lasts allL_nil))) ?_
 refine sr_ ?_
 have hlen := h1.len
 refine sg_ rfl (nn_ (gw_seq (sr_ (mv_ rfl (wl_ov (ov_len es117 rfl) rfl (mv_ rfl (wl_ov (ov_len es117 rfl) rfl (wl_ov (ov_neq rfl rfl) rfl ?_))))))))
 refine wl_set 10 (v' := .bool false) rfl (congrArg Value.bool (by simp)) ?_
 refine nn_ (cf_ rfl (gw_skip (nx_then (gw_seq (sr_ (mv_ rfl (wl_ov (ov_len es117 rfl) rfl (mv_ rfl (nn_ (gw_block ?_))))))))))
 refine gw_loop (γ := Nat) (fun (k : Nat) => k ≤ n) (fun (k : Nat) => [(0, .slice A1 n c1), (1, .slice A2 n c2), (12, .int .i64 ((n : Nat) : Int)), (13, .int .i64 ((k : Nat) : Int))]) (fun (k : Nat) => fun _ => True) (fun (k : Nat) => []) (fun (k : Nat) => []) (fun (k : Nat) => [SlOld pcEnc 3 122 w.heap.size none A1 n l, SlOld pcEnc 3 122 w.heap.size none A2 n l]) (fun (k : Nat) => n - k) 0 (Nat.zero_le _) ⟨rfl, rfl, rfl, rfl, trivial⟩ (fun _ hm => hm.pick [] [] [0, 1] rfl rfl) ?_
 intro k hinv
 replace hinv : k ≤ n := hinv
 refine sr_ (wl_ov (ov_lss rfl rfl) rfl (nn_ (gw_seq ?_)))
 refine gw_cond rfl (fun hh => ?_) (fun hh => ?_)
 ·have hk : ((k : Nat) : Int) < ((n : Nat) : Int) := by simpa using hh
  clear hh
  refine gw_skip (nx_then (gw_seq (gw_block (sr_ ?_))))
  obtain ⟨b1, o1, hA, _, _⟩ := h1.get (by omega)
  subst hA
  obtain ⟨b2, o2, hA, _, _⟩ := h2.get (by omega)
  subst hA
  obtain ⟨x, hx⟩ : ∃ x, l[k]? = some x := ⟨_, List.getElem?_eq_getElem (by omega)⟩
  obtain ⟨x0, x1, x2⟩ := x
  refine mv_ rfl (sg_ rfl (nn_ (gw_seq ?_)))
  refine gd (fun wz => (SlOld pcEnc 3 122 w.heap.size none (some ⟨b1, o1, none⟩) n l) wz ∧ (SlOld pcEnc 3 122 w.heap.size none (some ⟨b2, o2, none⟩) n l) wz ∧ True) mixed (fun _ hm => ⟨hm.fa 0, hm.fa 1, trivial⟩) fun z => ?_
  refine wt 0 9 1 rfl z (ov_move rfl) ?_
  refine wt 1 9 3 rfl z (ov_move rfl) ?_
  refine wt 2 9 7 rfl z (ov_index (j := k) es117 rfl rfl (by omega)) ?_
  refine wt 3 9 15 rfl z (ov_elem (vs := [.int .i64 x0, .int .i64 x1, .int .i64 x2]) rz122 rfl (fun _ hm => (hm.1).1) hx rfl rfl) ?_
  refine wt 4 9 31 rfl z (ov_move rfl) ?_
  refine wt 5 9 63 rfl z (ov_move rfl) ?_
  refine wt 6 9 127 rfl z (ov_index (j := k) es117 rfl rfl (by omega)) ?_
  refine wt 7 9 255 rfl z (ov_elem (vs := [.int .i64 x0, .int .i64 x1, .int .i64 x2]) rz122 rfl (fun _ hm => (hm.2.1).1) hx rfl rfl) ?_
  refine wt 8 9 511 rfl z (ov_bin rfl rfl (cmp_agg guard_piece (fun wx => same_piece_neq x0 x1 x2 wx))) ?_
  refine wa_done (by kernel_rfl) ?_
  refine nx_then (cf_ rfl (gw_skip (nx_blk_nrm (nx_then (gw_region (ad_ rfl rfl (mv_ rfl (wl_nil ?_))))))))
  exact nx_round (k + 1) (by omega) (by omega) ⟨rfl, rfl, rfl, (some_int (by omega)), trivial⟩ (fun _ hm => hm.pick [] [] [0, 1] rfl rfl)
 have hk : ¬ (((k : Nat) : Int) < ((n : Nat) : Int)) := by simpa using hh
 clear hh
 refine gw_exit ?_
 refine nx_then_exit (nx_then_exit ?_)
 refine nx_blk_here ?_
 refine nx_then (sr_ (sg_ rfl (nn_ ?_)))
 refine gw_ret ?_
 refine nx_ret1 rfl rfl fun wx hm => ?_
 exact ⟨rfl, hm.g⟩
theorem one_chk : chkE [(⟨⟨#[99]⟩, 0, 9, -1, 7, -1, -1⟩ : Rt)] ⟨#[99]⟩ 0 60 = 0 := by decide +kernel
theorem one_days : daysN 0 60 = 1 := by decide +kernel
theorem one_sea : seasons [(⟨⟨#[99]⟩, 0, 9, -1, 7, -1, -1⟩ : Rt)] ⟨#[99]⟩ 0 1 = [0] := by decide +kernel
theorem one_pr (k : Int) (hk : 1 ≤ k ∧ k ≤ 4) (v : Int) (h : prH [(⟨⟨#[99]⟩, 0, 9, -1, 7, -1, -1⟩ : Rt)] ⟨#[99]⟩ 0 60 k 0 1 = some v) : k = 2 ∧ v = 7 := by
  unfold prH at h
  rw [one_days, one_sea] at h
  obtain ⟨h1, h2⟩ := hk
  have hk : k = 1 ∨ k = 2 ∨ k = 3 ∨ k = 4 := by omega
  rcases hk with rfl | rfl | rfl | rfl
  · rw [show priceO [(⟨⟨#[99]⟩, 0, 9, -1, 7, -1, -1⟩ : Rt)] [0] 0 60 1 0 1 = none by decide +kernel] at h; cases h
  · rw [show priceO [(⟨⟨#[99]⟩, 0, 9, -1, 7, -1, -1⟩ : Rt)] [0] 0 60 2 0 1 = some 7 by decide +kernel] at h
    injection h with h; exact ⟨rfl, h.symm⟩
  · rw [show priceO [(⟨⟨#[99]⟩, 0, 9, -1, 7, -1, -1⟩ : Rt)] [0] 0 60 3 0 1 = none by decide +kernel] at h; cases h
  · rw [show priceO [(⟨⟨#[99]⟩, 0, 9, -1, 7, -1, -1⟩ : Rt)] [0] 0 60 4 0 1 = none by decide +kernel] at h; cases h
theorem one_best : Best (prH [(⟨⟨#[99]⟩, 0, 9, -1, 7, -1, -1⟩ : Rt)] ⟨#[99]⟩ 0 60) 0 (daysN 0 60) [⟨2, 1, 7⟩] := by
  rw [one_days]
  refine ⟨⟨⟨by decide, by decide, by decide, by decide, ?_⟩, rfl⟩, fun qs hq => .inl ?_⟩
  · unfold prH; rw [one_days, one_sea]; decide +kernel
  · cases qs with
    | nil => simp only [Chain] at hq; omega
    | cons q r =>
      have h1 := hq.1.2.2.1
      have h2 := chain_head hq
      have h3 := chain_le hq.2
      have hd : q.days = 1 := by omega
      have hv := hq.1.2.2.2.2
      rw [hd] at hv
      obtain ⟨e1, e2⟩ := one_pr q.kind ⟨hq.1.1, hq.1.2.1⟩ _ hv
      have hr : r = [] := by
        rw [hd] at h3
        cases r with
        | nil => rfl
        | cons _ _ => simp only [List.length_cons] at h3; omega
      subst hr
      obtain ⟨qk, qd, qc⟩ := q
      dsimp only at e1 e2 hd
      subst e1; subst e2; subst hd; rfl
theorem one_div {e : Int} {ps : List Pc} (h : DivIs [(⟨⟨#[99]⟩, 0, 9, -1, 7, -1, -1⟩ : Rt)] ⟨#[99]⟩ 0 60 e ps) : e = 0 ∧ ps = [⟨2, 1, 7⟩] := divIs_one h (.inr ⟨one_chk, .inr ⟨rfl, one_best⟩⟩)
theorem priced_any (w : World) : Calls Tryz.prog 16 #[] w (fun e w' => e = .returned (.bool true) ∧ w.grownBy w' none) := by
 refine gw_enter ⟨18, w, none, [122]⟩ Tryz.func16 rfl Tryz.ntmps16 rfl (mem0 (X := []) allF_nil allL_nil) ?_
 refine sr_ (sg_ rfl (nn_ (sr_ ?_)))
 refine wl_ov (ov_build (cs := [.string ⟨#[99]⟩, .int .i64 0, .int .i64 9, .int .i64 (-1), .int .i64 7, .int .i64 (-1), .int .i64 (-1)]) rfl (by kernel_rfl)) rfl ?_
 refine wl_buildSlice (e := 38) (cs := [.string ⟨#[99]⟩, .int .i64 0, .int .i64 9, .int .i64 (-1), .int .i64 7, .int .i64 (-1), .int .i64 (-1)]) rfl (by kernel_rfl) rfl fun g1 => ?_
 refine wl_ov (ov_build (cs := [.int .i64 0, .int .i64 60]) rfl (by kernel_rfl)) rfl ?_
 refine wl_callx (γ := Option Addr × Nat × Nat) (val := (fun g => .tuple #[.slice g.1 g.2.1 g.2.2, .int .i64 0])) (φ := (fun g => g.2.1 ≤ 120 ∧ g.2.1 = 1)) (Y := (fun g => fun wy => SlT pcEnc 3 122 wy g.1 g.2.1 [⟨2, 1, 7⟩])) rfl cb74 rfl rfl (fun wx hm => (tDivide_any [(⟨⟨#[99]⟩, 0, 9, -1, 7, -1, -1⟩ : Rt)] _ _ _ ⟨#[99]⟩ 0 60 wx (SlT.ofBlk (l := [(⟨⟨#[99]⟩, 0, 9, -1, 7, -1, -1⟩ : Rt)]) rt_len (hm.blkI 0 rfl)) (fun b hb => by rw [List.mem_singleton.1 hb]; exact (by decide : (1 : Nat) ≤ 1000000)) (by decide) (by decide)).mono fun _ _ ⟨A3, n3, c3, ps, er, he, hg, hs, hd, hn⟩ => ⟨(A3, n3, c3), by rw [he, (one_div hd).1], ⟨hn, by rw [← hs.len, (one_div hd).2]; rfl⟩, hg, (one_div hd).2 ▸ hs⟩) (fun _ => SlT.lasts2 rfl) ?_
 rintro ⟨A3, n3, c3⟩ hn3
 dsimp only at hn3 ⊢
 obtain ⟨_, rfl⟩ := hn3
 refine mv_ rfl (wl_ov (ov_extract rfl rfl) rfl (wl_ov (ov_extract rfl rfl) rfl (sg_ rfl (sg_ rfl (nn_ (sr_ (mv_ rfl (wl_ov (ov_eql rfl rfl) rfl ?_))))))))
 refine wl_set 11 (v' := .bool true) rfl (congrArg Value.bool (by decide)) ?_
 refine mv_ rfl (wl_guard_on rfl rfl rfl (mv_ rfl (wl_guard_on rfl rfl rfl ?_)))
 refine wl_ov (ov_build (cs := [.int .i64 2, .int .i64 1, .int .i64 7]) rfl (by kernel_rfl)) rfl ?_
 refine wl_guard_on rfl rfl rfl ?_
 refine wl_buildSlice (e := 122) (cs := [.int .i64 2, .int .i64 1, .int .i64 7]) rfl (by kernel_rfl) rfl fun g2 => ?_
 refine wl_guard_on rfl rfl rfl ?_
 refine wl_callv rfl cb75 rfl rfl (fun wx hm => (equal_piece_any [⟨2, 1, 7⟩] A3 _ 1 c3 1 wx (hm.fact 0 rfl) (SlT.ofBlk (l := [⟨2, 1, 7⟩]) pc_len (hm.blkI 0 rfl)) (by omega))) ?_
 refine pt_ rfl rfl (sg_ rfl (nn_ ?_))
 refine gw_ret ?_
 refine nx_ret1 rfl rfl fun wx hm => ?_
 exact ⟨rfl, hm.g⟩
end Go.Proofs.YtnpcbfllnkiopaaGreatDoor
namespace Go.Proofs.YtnpcbfllnkiopaaGreatDoor
open Go.RowKit Go.ChangeShapes
theorem var_at {P : Program} {w : World} {n : String} {g : Nat} {cs : Array Value} (hg : P.globalNamed n = some g) (h : w.var? P n = some cs) : ∃ T f, w.heap[g]? = some (.cells cs T f) := by
  unfold World.var? at h
  rw [hg] at h
  simp only [Option.bind_some] at h
  split at h
  · rename_i c T f he
    cases h
    exact ⟨T, f, he⟩
  · cases h
theorem star_err : "*" ++ "errors.errorString" = "*errors.errorString" := by decide
theorem row_err (u : TypeId) (h : Tryz.prog.typeName? 3 u = some "*errors.errorString") : u = 382 :=
  typeName_ptr_named (nm := "errors.errorString") (by rw [star_err]; kernel_rfl) (by kernel_rfl) (by decide) u (by rw [star_err]; exact h)
theorem txtW_of {l : List (String × DataW Unit)} {W : World} (x1 x2 : List UInt8) (hL : laidMet Tryz.prog l W) (hS : W.ShapedOpen Tryz.prog)
    (h1 : l.filter (fun x => x.1 == "internal/strconv.uint64pow10") = [("internal/strconv.uint64pow10", Lib.tabData .u64 Lib.pow10Tab)])
    (h2 : l.filter (fun x => x.1 == "strconv.ErrSyntax") = [("strconv.ErrSyntax", .iface "*errors.errorString" (.ptr (.agg [.lit (.string x1)])))])
    (h3 : l.filter (fun x => x.1 == "strconv.ErrRange") = [("strconv.ErrRange", .iface "*errors.errorString" (.ptr (.agg [.lit (.string x2)])))]) : TxtW W := by
  have c1 := hL.filter (fun x => x.1 == "internal/strconv.uint64pow10")
  have c2 := hL.filter (fun x => x.1 == "strconv.ErrSyntax")
  have c3 := hL.filter (fun x => x.1 == "strconv.ErrRange")
  rw [h1] at c1
  rw [h2] at c2
  rw [h3] at c3
  refine ⟨?_, ?_, ?_, ?_⟩
  · have hg : Tryz.prog.globalNamed "internal/strconv.uint64pow10" = some 1 := by kernel_rfl
    have h := Lib.tabIs_of_head (t := 364) (e := 311) hg (by kernel_rfl) Tryz.underlying364 Tryz.underlying311 (by kernel_rfl) (by kernel_rfl) c1
    exact var_at hg h
  · obtain ⟨m, hm⟩ := cell_of_shapedOpen_int (P := Tryz.prog) (g := 0) (t := 3) (zero := #[.int .i64 0]) hS (of_decide_eq_true (by kernel_rfl)) (by kernel_rfl) rfl (by kernel_rfl) (by kernel_rfl) Tryz.underlying3
    unfold World.cell? at hm
    split at hm
    · rename_i c T f he
      exact ⟨c, T, f, m, he, by simpa using hm⟩
    · cases hm
  · have hg : Tryz.prog.globalNamed "strconv.ErrSyntax" = some 2 := by kernel_rfl
    obtain ⟨a, s, hv, _⟩ := laid_sentinel c2 hg (by kernel_rfl) Tryz.underlying103 row_err Tryz.underlying382 Tryz.underlying384 rfl rfl Tryz.underlying9 (by kernel_rfl) (by kernel_rfl)
    obtain ⟨T, f, h⟩ := var_at hg hv
    exact ⟨T, f, _, _, h⟩
  · have hg : Tryz.prog.globalNamed "strconv.ErrRange" = some 3 := by kernel_rfl
    obtain ⟨a, s, hv, _⟩ := laid_sentinel c3 hg (by kernel_rfl) Tryz.underlying103 row_err Tryz.underlying382 Tryz.underlying384 rfl rfl Tryz.underlying9 (by kernel_rfl) (by kernel_rfl)
    obtain ⟨T, f, h⟩ := var_at hg hv
    exact ⟨T, f, _, _, h⟩
end Go.Proofs.YtnpcbfllnkiopaaGreatDoor
namespace Go.Proofs.YtnpcbfllnkiopaaGreatDoor
open Go.RowKit
theorem rrGen_any (w : World) (B sb m : Nat) (hS : Strm 25 w B sb m) (hm : m ≤ 1000000) (htx : TxtO w.heap.size (some sb) w) :
  Calls Tryz.prog 12 #[.pointer (some ⟨sb, 0, none⟩)] w (fun e w' => ∃ v : ByteArray, e = .returned (.string v) ∧ v.size ≤ 7130 ∧ Strm 25 w' B sb (m + 2000) ∧ w.grownBy w' (some sb)) := by
 refine gw_enter ⟨17, w, (some sb), []⟩ Tryz.func12 rfl Tryz.ntmps12 rfl (memS (X := [TxtO w.heap.size (some sb)]) hS (allF_cons htx allF_nil) (allL_cons TxtO.lasts allL_nil)) ?_
 refine sr_ (sg_ rfl (nn_ (sr_ (mv_ rfl ?_))))
 refine wl_callgs (γ := Option Addr × Nat × Nat × List Rt) (val := (fun g => .slice g.1 g.2.1 g.2.2.1)) (φ := (fun g => (∀ x ∈ g.2.2.2, RtB x) ∧ g.2.1 ≤ 10 ∧ g.2.2.2.length = g.2.1)) (m' := m + 120) (fun g => ⟨.slice g.1 g.2.1 g.2.2.1, 38, 7, g.2.1, g.2.2.2.flatMap rtEnc⟩) rfl cb55 rfl rfl rfl rfl (fun wx hm => (grightRates_h wx B sb _ hm.k (by omega)).mono fun _ _ ⟨A, n, c, l, he, ho, hH, hl, hn, hS, hg⟩ => ⟨(A, n, c, l), he, ⟨fun x hx => (hH x hx).2, by dsimp only; omega, hl⟩, hS, hg, ho⟩) ?_
 rintro ⟨A, n, c, l⟩ hbb
 dsimp only at hbb ⊢
 obtain ⟨hB, hn9, hln⟩ := hbb
 have hts := rrTx_sz hB
 refine wl_callv rfl cb11 rfl rfl (fun wx hm => (rrLines_any l A n c wx (hm.fact 0 rfl).1 (SlT.ofOwn rt_len (hm.ownI 0 rfl) hln) hB (by omega))) ?_
 refine sg_ rfl (nn_ (gw_seq (sr_ (mv_ rfl ?_))))
 refine wl_buildSlice (e := 3) (cs := [.int .i64 0, .int .i64 0, .int .i64 1, .int .i64 2]) rfl (by kernel_rfl) rfl fun g1 => ?_
 refine wl_got (γ := Int) (val := fun v => .int .i64 v) (φ := fun v => v ∈ ([0, 0, 1, 2] : List Int)) rfl cb34 rfl rfl rfl rfl (fun wx hm => (pick_any [0, 0, 1, 2] _ _ _ wx B sb _ hm.k (by omega) (by simp) (by simp) (hm.blkI 0 rfl) (hm.neRow 0 rfl rfl))) fun pv hpv => ?_
 have bpv : 0 ≤ pv ∧ pv ≤ 2 := mem_rng hpv (by decide)
 have bpv0 := bpv.1
 have bpv1 := bpv.2
 clear bpv
 clear hpv
 obtain hv2 | hv2 | hv2 : pv = 0 ∨ pv = 1 ∨ pv = 2 := (by omega)
 ·subst hv2
  refine mv_ rfl (nn_ (gw_block ?_))
  refine gw_rounds 1 ?_
  refine gr_next ?_
  refine sr_ (wl_ov (ov_lss rfl rfl) rfl ?_)
  refine wl_set 11 (v' := .bool false) rfl (congrArg Value.bool (by decide)) ?_
  refine nn_ (gw_seq (cf_ rfl ?_))
  refine gw_exit ?_
  refine nx_then_exit (nx_then_exit ?_)
  refine nx_blk_here ?_
  refine nx_then (sr_ (mv_ rfl (sg_ rfl (nn_ ?_))))
  refine gw_ret ?_
  refine nx_ret1 rfl rfl fun wx hm => ?_
  exact ⟨(rrTx l), rfl, by omega, hm.k.more (by omega), hm.g⟩
 ·subst hv2
  refine mv_ rfl (nn_ (gw_block ?_))
  refine gw_rounds 2 ?_
  refine gr_next ?_
  refine sr_ (wl_ov (ov_lss rfl rfl) rfl ?_)
  refine wl_set 11 (v' := .bool true) rfl (congrArg Value.bool (by decide)) ?_
  refine nn_ (gw_seq (ct_ rfl (gw_skip (nx_then (gw_seq (gw_block (gw_region (mv_ rfl (mv_ rfl ?_)))))))))
  refine wl_calls (γ := ByteArray) (val := (fun g => .string g)) (φ := (fun g => g.size ≤ (rrTx l).size + 12)) (Y := (fun g => fun _ => True)) (m' := m + 120 + 1 + 3) rfl cb35 rfl rfl rfl rfl (fun wx hm => (by have h := gchanged_any (rrTx l) ⟨#[32, 10, 45, 48, 45, 57, 97, 109]⟩ wx B sb _ hm.k (by omega) (by omega) (by decide +kernel); exact h.mono fun _ _ ⟨v, he, hv, hS, hg⟩ => ⟨v, he, Nat.le_trans hv (by rw [show (⟨#[32, 10, 45, 48, 45, 57, 97, 109]⟩ : ByteArray).size = 8 from rfl]; omega), hS, hg, trivial⟩)) (fun _ => Lasts2.true_) ?_
  rintro u1 hs2
  refine sg_ rfl (wl_nil (nx_blk_nrm (nx_then (gw_region (ad_ rfl rfl ?_)))))
  refine wl_set 15 (v' := .int .i64 1) rfl rfl ?_
  refine mv_ rfl (wl_nil ?_)
  refine nx_next ?_
  refine gr_next ?_
  refine sr_ (wl_ov (ov_lss rfl rfl) rfl ?_)
  refine wl_set 11 (v' := .bool false) rfl (congrArg Value.bool (by decide)) ?_
  refine nn_ (gw_seq (cf_ rfl ?_))
  refine gw_exit ?_
  refine nx_then_exit (nx_then_exit ?_)
  refine nx_blk_here ?_
  refine nx_then (sr_ (mv_ rfl (sg_ rfl (nn_ ?_))))
  refine gw_ret ?_
  refine nx_ret1 rfl rfl fun wx hm => ?_
  exact ⟨u1, rfl, by omega, hm.k.more (by omega), hm.g⟩
 subst hv2
 refine mv_ rfl (nn_ (gw_block ?_))
 refine gw_rounds 3 ?_
 refine gr_next ?_
 refine sr_ (wl_ov (ov_lss rfl rfl) rfl ?_)
 refine wl_set 11 (v' := .bool true) rfl (congrArg Value.bool (by decide)) ?_
 refine nn_ (gw_seq (ct_ rfl (gw_skip (nx_then (gw_seq (gw_block (gw_region (mv_ rfl (mv_ rfl ?_)))))))))
 refine wl_calls (γ := ByteArray) (val := (fun g => .string g)) (φ := (fun g => g.size ≤ (rrTx l).size + 12)) (Y := (fun g => fun _ => True)) (m' := m + 120 + 1 + 3) rfl cb35 rfl rfl rfl rfl (fun wx hm => (by have h := gchanged_any (rrTx l) ⟨#[32, 10, 45, 48, 45, 57, 97, 109]⟩ wx B sb _ hm.k (by omega) (by omega) (by decide +kernel); exact h.mono fun _ _ ⟨v, he, hv, hS, hg⟩ => ⟨v, he, Nat.le_trans hv (by rw [show (⟨#[32, 10, 45, 48, 45, 57, 97, 109]⟩ : ByteArray).size = 8 from rfl]; omega), hS, hg, trivial⟩)) (fun _ => Lasts2.true_) ?_
 rintro u1 hs2
 refine sg_ rfl (wl_nil (nx_blk_nrm (nx_then (gw_region (ad_ rfl rfl ?_)))))
 refine wl_set 15 (v' := .int .i64 1) rfl rfl ?_
 refine mv_ rfl (wl_nil ?_)
 refine nx_next ?_
 refine gr_next ?_
 refine sr_ (wl_ov (ov_lss rfl rfl) rfl ?_)
 refine wl_set 11 (v' := .bool true) rfl (congrArg Value.bool (by decide)) ?_
 refine nn_ (gw_seq (ct_ rfl (gw_skip (nx_then (gw_seq (gw_block (gw_region (mv_ rfl (mv_ rfl ?_)))))))))
 refine wl_calls (γ := ByteArray) (val := (fun g => .string g)) (φ := (fun g => g.size ≤ (u1).size + 12)) (Y := (fun g => fun _ => True)) (m' := m + 120 + 1 + 3 + 3) rfl cb35 rfl rfl rfl rfl (fun wx hm => (by have h := gchanged_any u1 ⟨#[32, 10, 45, 48, 45, 57, 97, 109]⟩ wx B sb _ hm.k (by omega) (by omega) (by decide +kernel); exact h.mono fun _ _ ⟨v, he, hv, hS, hg⟩ => ⟨v, he, Nat.le_trans hv (by rw [show (⟨#[32, 10, 45, 48, 45, 57, 97, 109]⟩ : ByteArray).size = 8 from rfl]; omega), hS, hg, trivial⟩)) (fun _ => Lasts2.true_) ?_
 rintro u2 hs3
 refine sg_ rfl (wl_nil (nx_blk_nrm (nx_then (gw_region (ad_ rfl rfl ?_)))))
 refine wl_set 15 (v' := .int .i64 2) rfl rfl ?_
 refine mv_ rfl (wl_nil ?_)
 refine nx_next ?_
 refine gr_next ?_
 refine sr_ (wl_ov (ov_lss rfl rfl) rfl ?_)
 refine wl_set 11 (v' := .bool false) rfl (congrArg Value.bool (by decide)) ?_
 refine nn_ (gw_seq (cf_ rfl ?_))
 refine gw_exit ?_
 refine nx_then_exit (nx_then_exit ?_)
 refine nx_blk_here ?_
 refine nx_then (sr_ (mv_ rfl (sg_ rfl (nn_ ?_))))
 refine gw_ret ?_
 refine nx_ret1 rfl rfl fun wx hm => ?_
 exact ⟨u2, rfl, by omega, hm.k.more (by omega), hm.g⟩
set_option maxRecDepth 100000 in
theorem same_rate_neq (x0 : ByteArray) (x1 : Int) (x2 : Int) (x3 : Int) (x4 : Int) (x5 : Int) (x6 : Int) (w : World) : (binOp .neq 38 (.agg #[.string x0, .int .i64 x1, .int .i64 x2, .int .i64 x3, .int .i64 x4, .int .i64 x5, .int .i64 x6]) (.agg #[.string x0, .int .i64 x1, .int .i64 x2, .int .i64 x3, .int .i64 x4, .int .i64 x5, .int .i64 x6])).run Tryz.prog w = .ok (.bool false) w := by
  have hS : Tryz.prog.underlying 38 = some (.struct (Tryz.prog.fieldsOf 38)) := by kernel_rfl
  have hp : Tryz.prog.stoodInHeld 38 = false := by kernel_rfl
  rw [run_neq_struct, show (10000 : Nat) = 9999 + 1 from rfl, run_equalIn_agg w 9999 38 _ _ hS hp]
  simp only [Program.fieldsOf, Tryz.underlying38]
  have u3 := Tryz.underlying3
  have u9 := Tryz.underlying9
  clear hS hp
  go_simp
theorem guard_rate : Tryz.prog.eqGuardType Tryz.prog.depth 38 = false := by kernel_rfl
theorem equal_rate_any (l : List Rt) (A1 A2 : Option Addr) (n c1 c2 : Nat) (w : World) (h1 : SlT rtEnc 7 38 w A1 n l) (h2 : SlT rtEnc 7 38 w A2 n l) (hn : n ≤ 1000000) :
  Calls Tryz.prog 15 #[.slice A1 n c1, .slice A2 n c2] w (fun e w' => e = .returned (.bool true) ∧ w.grownBy w' none) := by
 refine gw_enter ⟨26, w, none, []⟩ Tryz.func15 rfl Tryz.ntmps15 rfl (mem0 (X := [SlOld rtEnc 7 38 w.heap.size none A1 n l, SlOld rtEnc 7 38 w.heap.size none A2 n l]) (allF_cons h1.old (allF_cons h2.old allF_nil)) (allL_cons SlOld.lasts (allL_cons SlOld.lasts allL_nil))) ?_
 refine sr_ ?_
 have hlen := h1.len
 refine sg_ rfl (nn_ (gw_seq (sr_ (mv_ rfl (wl_ov (ov_len es26 rfl) rfl (mv_ rfl (wl_ov (ov_len es26 rfl) rfl (wl_ov (ov_neq rfl rfl) rfl ?_))))))))
 refine wl_set 10 (v' := .bool false) rfl (congrArg Value.bool (by simp)) ?_
 refine nn_ (cf_ rfl (gw_skip (nx_then (gw_seq (sr_ (mv_ rfl (wl_ov (ov_len es26 rfl) rfl (mv_ rfl (nn_ (gw_block ?_))))))))))
 refine gw_loop (γ := Nat) (fun (k : Nat) => k ≤ n) (fun (k : Nat) => [(0, .slice A1 n c1), (1, .slice A2 n c2), (12, .int .i64 ((n : Nat) : Int)), (13, .int .i64 ((k : Nat) : Int))]) (fun (k : Nat) => fun _ => True) (fun (k : Nat) => []) (fun (k : Nat) => []) (fun (k : Nat) => [SlOld rtEnc 7 38 w.heap.size none A1 n l, SlOld rtEnc 7 38 w.heap.size none A2 n l]) (fun (k : Nat) => n - k) 0 (Nat.zero_le _) ⟨rfl, rfl, rfl, rfl, trivial⟩ (fun _ hm => hm.pick [] [] [0, 1] rfl rfl) ?_
 intro k hinv
 replace hinv : k ≤ n := hinv
 refine sr_ (wl_ov (ov_lss rfl rfl) rfl (nn_ (gw_seq ?_)))
 refine gw_cond rfl (fun hh => ?_) (fun hh => ?_)
 ·have hk : ((k : Nat) : Int) < ((n : Nat) : Int) := by simpa using hh
  clear hh
  refine gw_skip (nx_then (gw_seq (gw_block (sr_ ?_))))
  obtain ⟨b1, o1, hA, _, _⟩ := h1.get (by omega)
  subst hA
  obtain ⟨b2, o2, hA, _, _⟩ := h2.get (by omega)
  subst hA
  obtain ⟨x, hx⟩ : ∃ x, l[k]? = some x := ⟨_, List.getElem?_eq_getElem (by omega)⟩
  obtain ⟨x0, x1, x2, x3, x4, x5, x6⟩ := x
  refine mv_ rfl (sg_ rfl (nn_ (gw_seq ?_)))
  refine gd (fun wz => (SlOld rtEnc 7 38 w.heap.size none (some ⟨b1, o1, none⟩) n l) wz ∧ (SlOld rtEnc 7 38 w.heap.size none (some ⟨b2, o2, none⟩) n l) wz ∧ True) mixed (fun _ hm => ⟨hm.fa 0, hm.fa 1, trivial⟩) fun z => ?_
  refine wt 0 9 1 rfl z (ov_move rfl) ?_
  refine wt 1 9 3 rfl z (ov_move rfl) ?_
  refine wt 2 9 7 rfl z (ov_index (j := k) es26 rfl rfl (by omega)) ?_
  refine wt 3 9 15 rfl z (ov_elem (vs := [.string x0, .int .i64 x1, .int .i64 x2, .int .i64 x3, .int .i64 x4, .int .i64 x5, .int .i64 x6]) rz38 rfl (fun _ hm => (hm.1).1) hx rfl rfl) ?_
  refine wt 4 9 31 rfl z (ov_move rfl) ?_
  refine wt 5 9 63 rfl z (ov_move rfl) ?_
  refine wt 6 9 127 rfl z (ov_index (j := k) es26 rfl rfl (by omega)) ?_
  refine wt 7 9 255 rfl z (ov_elem (vs := [.string x0, .int .i64 x1, .int .i64 x2, .int .i64 x3, .int .i64 x4, .int .i64 x5, .int .i64 x6]) rz38 rfl (fun _ hm => (hm.2.1).1) hx rfl rfl) ?_
  refine wt 8 9 511 rfl z (ov_bin rfl rfl (cmp_agg guard_rate (fun wx => same_rate_neq x0 x1 x2 x3 x4 x5 x6 wx))) ?_
  refine wa_done (by kernel_rfl) ?_
  refine nx_then (cf_ rfl (gw_skip (nx_blk_nrm (nx_then (gw_region (ad_ rfl rfl (mv_ rfl (wl_nil ?_))))))))
  exact nx_round (k + 1) (by omega) (by omega) ⟨rfl, rfl, rfl, (some_int (by omega)), trivial⟩ (fun _ hm => hm.pick [] [] [0, 1] rfl rfl)
 have hk : ¬ (((k : Nat) : Int) < ((n : Nat) : Int)) := by simpa using hh
 clear hh
 refine gw_exit ?_
 refine nx_then_exit (nx_then_exit ?_)
 refine nx_blk_here ?_
 refine nx_then (sr_ (sg_ rfl (nn_ ?_)))
 refine gw_ret ?_
 refine nx_ret1 rfl rfl fun wx hm => ?_
 exact ⟨rfl, hm.g⟩
theorem rateTexts_walk (a0 : Option Addr) (len0 cap0 : Nat) (z0 : List Int) (w : World) (hR : RowIn w a0 len0 cap0 z0) (htx : TxtW w) :
  Calls Tryz.prog 3 #[.slice a0 len0 cap0] w fun e w' => e = .returned (.bool true) ∧ Below w.heap.size w w' := by
 refine gw_enter ⟨76, w, none, []⟩ Tryz.func3 rfl Tryz.ntmps3 rfl (mem0 (X := []) allF_nil allL_nil) ?_
 refine sr_ (sg_ rfl (nn_ (sr_ (mv_ rfl ?_))))
 refine wl_ov (ov_build (cs := [.slice a0 len0 cap0, .int .i64 0]) rfl (by kernel_rfl)) rfl ?_
 refine wl_box rfl rfl rfl fun sb => ?_
 refine sg_ rfl (nn_ (sr_ (mv_ rfl ?_)))
 refine wl_law [38] hR 0 rfl fun w1 B hg1 hsb => ?_
 refine wl_also (Y := TxtO w1.heap.size (some sb)) (TxtO.lasts) (fun wx hm => txt_law htx hg1 hsb hm.g) ?_
 refine wl_calls (γ := Option Addr × Nat × Nat × List Rt) (val := (fun g => .slice g.1 g.2.1 g.2.2.1)) (φ := (fun g => (∀ x ∈ g.2.2.2, RtB x) ∧ g.2.1 ≤ 10 ∧ g.2.2.2.length = g.2.1)) (Y := (fun g => fun wy => SlT rtEnc 7 38 wy g.1 g.2.1 g.2.2.2)) (m' := 0 + 200) rfl cb8 rfl rfl rfl rfl (fun wx hm => (grates_h wx B sb _ hm.k (by omega)).mono fun _ _ ⟨A, n, c, l, he, hs, hH, hn, hnc, hS, hg⟩ => ⟨(A, n, c, l), he, ⟨fun x hx => (hH x hx).2, hn, hs.len⟩, hS, hg, hs⟩) (fun _ => SlT.lasts2 rfl) ?_
 rintro ⟨A, n, c, l⟩ hbb
 dsimp only at hbb ⊢
 obtain ⟨hB, hn9, hln⟩ := hbb
 by_cases h0 : ratesE l = 0
 ·refine sg_ rfl (nn_ (sr_ (mv_ rfl ?_)))
  refine wl_callv rfl cb9 rfl rfl (fun wx hm => (rrText_right l A n c wx (hm.fact 1 rfl).1 (hm.fact 0 rfl) hB (by omega) h0)) ?_
  refine mv_ rfl (wl_ov (ov_extract rfl rfl) rfl (wl_ov (ov_extract rfl rfl) rfl (sg_ rfl (sg_ rfl (nn_ (gw_seq (sr_ (mv_ rfl ?_))))))))
  refine wl_callv (v := .int .i64 0) rfl cb10 rfl rfl (fun wx hm => (by have h := ratesFault_any l A n c wx (hm.fact 0 rfl) (fun x hx => rtB_ok (hB x hx)) (by omega); rw [h0] at h; exact h)) ?_
  refine sg_ rfl (nn_ (sr_ (mv_ rfl (mv_ rfl (wl_ov (ov_neq rfl rfl) rfl ?_)))))
  refine wl_set 27 (v' := .bool false) rfl (congrArg Value.bool (by decide)) ?_
  refine mv_ rfl (wl_guard_on rfl rfl rfl (mv_ rfl (wl_guard_on rfl rfl rfl (wl_ov (ov_eql rfl rfl) rfl ?_))))
  refine wl_set 30 (v' := .bool true) rfl (congrArg Value.bool (by decide)) ?_
  refine wl_guard_on rfl rfl rfl (mv_ rfl (wl_guard_on rfl rfl rfl (mv_ rfl (wl_guard_on rfl rfl rfl (mv_ rfl (wl_guard_on rfl rfl rfl ?_))))))
  refine wl_callv rfl cb11 rfl rfl (fun wx hm => (rrLines_any l A n c wx (hm.fact 1 rfl).1 (hm.fact 0 rfl) hB (by omega))) ?_
  refine wl_guard_on rfl rfl rfl (wl_ov (ov_sneq rfl rfl) rfl (wl_guard_on rfl rfl rfl (pt_ rfl rfl (pf_ rfl rfl (mv_ rfl ?_)))))
  refine wl_set 38 (v' := .bool false) rfl (congrArg Value.bool (by rw [beq_self_eq_true]; rfl)) ?_
  refine wl_guard_on rfl rfl rfl (mv_ rfl (wl_guard_on rfl rfl rfl (wl_ov (ov_neq rfl rfl) rfl ?_)))
  refine wl_set 40 (v' := .bool false) rfl (congrArg Value.bool (by decide)) ?_
  refine wl_guard_on rfl rfl rfl (mv_ rfl (goff rfl rfl rfl (goff rfl rfl rfl (wl_guard_on rfl rfl rfl (pf_ rfl rfl (pf_ rfl rfl (nn_ (cf_ rfl (gw_skip (nx_then (sr_ ?_)))))))))))
  refine mv_ rfl ?_
  refine wl_calls (γ := ByteArray) (val := (fun g => .string g)) (φ := (fun g => g.size ≤ 7130)) (Y := (fun g => fun _ => True)) (m' := 0 + 200 + 2000) rfl cb12 rfl rfl rfl rfl (fun wx hm => (rrGen_any wx B sb _ hm.k (by omega) ((hm.fact 1 rfl).heap)).mono fun _ _ ⟨u, he, hu, hS, hg⟩ => ⟨u, he, hu, hS, hg, trivial⟩) (fun _ => Lasts2.true_) ?_
  rintro u hu
  have hrl := rrL_len (t := u) (by omega)
  refine sg_ rfl (nn_ (sr_ (mv_ rfl ?_)))
  refine wl_callx (γ := Option Addr × Nat × Nat) (val := (fun g => .tuple #[.slice g.1 g.2.1 g.2.2, .int .i64 (rrAt u), .int .i64 (rrE u)])) (φ := (fun g => g.2.1 = (rrL u).length)) (Y := (fun g => fun wy => SlT rtEnc 7 38 wy g.1 g.2.1 (rrL u))) rfl cb13 rfl rfl (fun wx hm => (rrRead_any u wx (hm.fact 2 rfl).1 (by omega)).mono fun _ _ ⟨A, n, c, he, hsl, hg⟩ => ⟨(A, n, c), he, hsl.len.symm, hg, hsl⟩) (fun _ => SlT.lasts2 rfl) ?_
  rintro ⟨A2, n2, c2⟩ hk2
  dsimp only at hk2 ⊢
  subst hk2
  refine mv_ rfl (wl_ov (ov_extract rfl rfl) rfl (wl_ov (ov_extract rfl rfl) rfl (wl_ov (ov_extract rfl rfl) rfl (sg_ rfl (sg_ rfl (sg_ rfl (nn_ (sr_ (mv_ rfl ?_)))))))))
  refine wl_callx (γ := Option Addr × Nat × Nat) (val := (fun g => .tuple #[.slice g.1 g.2.1 g.2.2, .int .i64 (rrAt u), .int .i64 (rrE u)])) (φ := (fun g => g.2.1 = (rrL u).length)) (Y := (fun g => fun wy => SlT rtEnc 7 38 wy g.1 g.2.1 (rrL u))) rfl cb14 rfl rfl (fun wx hm => (rrRref_any u wx (hm.fact 3 rfl).1 (by omega)).mono fun _ _ ⟨A, n, c, he, hsl, hg⟩ => ⟨(A, n, c), he, hsl.len.symm, hg, hsl⟩) (fun _ => SlT.lasts2 rfl) ?_
  rintro ⟨A3, n3, c3⟩ hk3
  dsimp only at hk3 ⊢
  subst hk3
  refine mv_ rfl (wl_ov (ov_extract rfl rfl) rfl (wl_ov (ov_extract rfl rfl) rfl (wl_ov (ov_extract rfl rfl) rfl (sg_ rfl (sg_ rfl (sg_ rfl (nn_ (sr_ (mv_ rfl (mv_ rfl (wl_ov (ov_eql rfl rfl) rfl ?_)))))))))))
  refine wl_set 62 (v' := .bool true) rfl (congrArg Value.bool (by simp)) ?_
  refine mv_ rfl (wl_guard_on rfl rfl rfl (mv_ rfl (wl_guard_on rfl rfl rfl (mv_ rfl (wl_guard_on rfl rfl rfl (wl_ov (ov_eql rfl rfl) rfl ?_))))))
  refine wl_set 66 (v' := .bool true) rfl (congrArg Value.bool (by simp)) ?_
  refine pt_ rfl rfl (mv_ rfl (wl_guard_on rfl rfl rfl (mv_ rfl (wl_guard_on rfl rfl rfl (mv_ rfl (wl_guard_on rfl rfl rfl ?_))))))
  refine wl_callv rfl cb15 rfl rfl (fun wx hm => (equal_rate_any (rrL u) A2 A3 _ c2 c3 wx (hm.fact 1 rfl) (hm.fact 0 rfl) (by omega))) ?_
  refine pt_ rfl rfl (mv_ rfl (wl_guard_on rfl rfl rfl ?_))
  refine wl_callv rfl cb16 rfl rfl (fun wx hm => (priced_any wx)) ?_
  refine pt_ rfl rfl (sg_ rfl (nn_ ?_))
  refine gw_ret ?_
  refine nx_ret1 rfl rfl fun wx hm => ?_
  exact ⟨rfl, law_end hg1 hsb hm.g⟩
 obtain ⟨FE, hFE⟩ : ∃ z, z = ratesE l := ⟨_, rfl⟩
 have hF0 : ¬ FE = 0 := by rw [hFE]; exact h0
 refine sg_ rfl (nn_ (sr_ (mv_ rfl ?_)))
 refine wl_callv (v := .tuple #[.string ⟨#[]⟩, .int .i64 FE]) rfl cb9 rfl rfl (fun wx hm => (by rw [hFE]; exact rrText_bad l A n c wx (hm.fact 1 rfl).1 (hm.fact 0 rfl) hB (by omega) h0)) ?_
 refine mv_ rfl (wl_ov (ov_extract rfl rfl) rfl (wl_ov (ov_extract rfl rfl) rfl (sg_ rfl (sg_ rfl (nn_ (gw_seq (sr_ (mv_ rfl ?_))))))))
 refine wl_callv (v := .int .i64 FE) rfl cb10 rfl rfl (fun wx hm => (by have h := ratesFault_any l A n c wx (hm.fact 0 rfl) (fun x hx => rtB_ok (hB x hx)) (by omega); rw [← hFE] at h; exact h)) ?_
 refine sg_ rfl (nn_ (sr_ (mv_ rfl (mv_ rfl (wl_ov (ov_neq rfl rfl) rfl ?_)))))
 refine wl_set 27 (v' := .bool false) rfl (congrArg Value.bool (by simp)) ?_
 refine mv_ rfl (wl_guard_on rfl rfl rfl (mv_ rfl (wl_guard_on rfl rfl rfl (wl_ov (ov_eql rfl rfl) rfl (wl_guard_on rfl rfl rfl (mv_ rfl ?_))))))
 refine wl_set 31 (v' := .bool false) rfl (congrArg Value.bool (decide_eq_false hF0)) ?_
 refine goff rfl rfl rfl (goff rfl rfl rfl (goff rfl rfl rfl (goff rfl rfl rfl (wl_guard_on rfl rfl rfl (pf_ rfl rfl (pf_ rfl rfl (mv_ rfl (wl_guard_on rfl rfl rfl (mv_ rfl (wl_guard_on rfl rfl rfl (wl_ov (ov_neq rfl rfl) rfl (wl_guard_on rfl rfl rfl (mv_ rfl ?_)))))))))))))
 refine wl_set 41 (v' := .bool true) rfl (congrArg Value.bool (by rw [decide_eq_false hF0]; rfl)) ?_
 refine wl_guard_on rfl rfl rfl (mv_ rfl (wl_guard_on rfl rfl rfl (wl_ov (ov_sneq rfl rfl) rfl ?_)))
 refine wl_set 43 (v' := .bool false) rfl (congrArg Value.bool (by decide +kernel)) ?_
 refine wl_guard_on rfl rfl rfl (pt_ rfl rfl (pf_ rfl rfl (nn_ (cf_ rfl (gw_skip (nx_then (sr_ (mv_ rfl ?_))))))))
 refine wl_calls (γ := ByteArray) (val := (fun g => .string g)) (φ := (fun g => g.size ≤ 7130)) (Y := (fun g => fun _ => True)) (m' := 0 + 200 + 2000) rfl cb12 rfl rfl rfl rfl (fun wx hm => (rrGen_any wx B sb _ hm.k (by omega) ((hm.fact 1 rfl).heap)).mono fun _ _ ⟨u, he, hu, hS, hg⟩ => ⟨u, he, hu, hS, hg, trivial⟩) (fun _ => Lasts2.true_) ?_
 rintro u hu
 have hrl := rrL_len (t := u) (by omega)
 refine sg_ rfl (nn_ (sr_ (mv_ rfl ?_)))
 refine wl_callx (γ := Option Addr × Nat × Nat) (val := (fun g => .tuple #[.slice g.1 g.2.1 g.2.2, .int .i64 (rrAt u), .int .i64 (rrE u)])) (φ := (fun g => g.2.1 = (rrL u).length)) (Y := (fun g => fun wy => SlT rtEnc 7 38 wy g.1 g.2.1 (rrL u))) rfl cb13 rfl rfl (fun wx hm => (rrRead_any u wx (hm.fact 2 rfl).1 (by omega)).mono fun _ _ ⟨A, n, c, he, hsl, hg⟩ => ⟨(A, n, c), he, hsl.len.symm, hg, hsl⟩) (fun _ => SlT.lasts2 rfl) ?_
 rintro ⟨A2, n2, c2⟩ hk2
 dsimp only at hk2 ⊢
 subst hk2
 refine mv_ rfl (wl_ov (ov_extract rfl rfl) rfl (wl_ov (ov_extract rfl rfl) rfl (wl_ov (ov_extract rfl rfl) rfl (sg_ rfl (sg_ rfl (sg_ rfl (nn_ (sr_ (mv_ rfl ?_)))))))))
 refine wl_callx (γ := Option Addr × Nat × Nat) (val := (fun g => .tuple #[.slice g.1 g.2.1 g.2.2, .int .i64 (rrAt u), .int .i64 (rrE u)])) (φ := (fun g => g.2.1 = (rrL u).length)) (Y := (fun g => fun wy => SlT rtEnc 7 38 wy g.1 g.2.1 (rrL u))) rfl cb14 rfl rfl (fun wx hm => (rrRref_any u wx (hm.fact 3 rfl).1 (by omega)).mono fun _ _ ⟨A, n, c, he, hsl, hg⟩ => ⟨(A, n, c), he, hsl.len.symm, hg, hsl⟩) (fun _ => SlT.lasts2 rfl) ?_
 rintro ⟨A3, n3, c3⟩ hk3
 dsimp only at hk3 ⊢
 subst hk3
 refine mv_ rfl (wl_ov (ov_extract rfl rfl) rfl (wl_ov (ov_extract rfl rfl) rfl (wl_ov (ov_extract rfl rfl) rfl (sg_ rfl (sg_ rfl (sg_ rfl (nn_ (sr_ (mv_ rfl (mv_ rfl (wl_ov (ov_eql rfl rfl) rfl ?_)))))))))))
 refine wl_set 62 (v' := .bool true) rfl (congrArg Value.bool (by simp)) ?_
 refine mv_ rfl (wl_guard_on rfl rfl rfl (mv_ rfl (wl_guard_on rfl rfl rfl (mv_ rfl (wl_guard_on rfl rfl rfl (wl_ov (ov_eql rfl rfl) rfl ?_))))))
 refine wl_set 66 (v' := .bool true) rfl (congrArg Value.bool (by simp)) ?_
 refine pt_ rfl rfl (mv_ rfl (wl_guard_on rfl rfl rfl (mv_ rfl (wl_guard_on rfl rfl rfl (mv_ rfl (wl_guard_on rfl rfl rfl ?_))))))
 refine wl_callv rfl cb15 rfl rfl (fun wx hm => (equal_rate_any (rrL u) A2 A3 _ c2 c3 wx (hm.fact 1 rfl) (hm.fact 0 rfl) (by omega))) ?_
 refine pt_ rfl rfl (mv_ rfl (wl_guard_on rfl rfl rfl ?_))
 refine wl_callv rfl cb16 rfl rfl (fun wx hm => (priced_any wx)) ?_
 refine pt_ rfl rfl (sg_ rfl (nn_ ?_))
 refine gw_ret ?_
 refine nx_ret1 rfl rfl fun wx hm => ?_
 exact ⟨rfl, law_end hg1 hsb hm.g⟩
theorem rateTexts_law {l : List (String × DataW Unit)} (y1 y2 : List UInt8) (a0 : Option Addr) (len0 cap0 : Nat) (z0 : List Int) (W : World) (hR : RowIn W a0 len0 cap0 z0) (hL : laidMet Tryz.prog l W) (hS : W.ShapedOpen Tryz.prog)
    (h1 : l.filter (fun x => x.1 == "internal/strconv.uint64pow10") = [("internal/strconv.uint64pow10", Lib.tabData .u64 Lib.pow10Tab)])
    (h2 : l.filter (fun x => x.1 == "strconv.ErrSyntax") = [("strconv.ErrSyntax", .iface "*errors.errorString" (.ptr (.agg [.lit (.string y1)])))])
    (h3 : l.filter (fun x => x.1 == "strconv.ErrRange") = [("strconv.ErrRange", .iface "*errors.errorString" (.ptr (.agg [.lit (.string y2)])))]) :
    Calls Tryz.prog 3 #[.slice a0 len0 cap0] W fun e w' => e = .returned (.bool true) ∧ Below W.heap.size W w' :=
  rateTexts_walk a0 len0 cap0 z0 W hR (txtW_of y1 y2 hL hS h1 h2 h3)
end Go.Proofs.YtnpcbfllnkiopaaGreatDoor
