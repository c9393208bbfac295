/- The price of a piece. -/
import Derived.Test.YtcggbojhalbkjaaTe
namespace Go.Proofs.Ytcggbojhalbkjaa
open Go.RowKit

def RateOk (r : Rt) : Prop := (-1 ≤ r.hr ∧ r.hr ≤ 1000000) ∧ (-1 ≤ r.dy ∧ r.dy ≤ 1000000) ∧ (-1 ≤ r.we ∧ r.we ≤ 1000000) ∧ (-1 ≤ r.wk ∧ r.wk ≤ 1000000)
theorem rate_ok {l : List Rt} (h : ratesE l = 0) : ∀ r ∈ l, RateOk r := fun r hr => ((ratesE_ok h).2.2 r hr).2.2
theorem take_one {α : Type} {l : List α} {i mm : Nat} {x : α} (h : l[i]? = some x) (hm : 0 < mm) : x ∈ (l.drop i).take mm := by
  apply List.mem_of_getElem? (i := 0)
  rw [List.getElem?_take, if_pos hm, List.getElem?_drop, Nat.add_zero, h]
theorem same_step {l : List Int} {i j : Nat} {x k : Int} (h : l[i + j]? = some x) : ((l.drop i).take (j + 1)).all (fun y => decide (y = k)) = (((l.drop i).take j).all (fun y => decide (y = k)) && decide (x = k)) := by
  rw [List.take_add_one, List.getElem?_drop, h, List.all_append]; simp
theorem all_same {l : List Int} {k : Int} : l.all (fun y => decide (y = k)) = true ↔ ∀ y ∈ l, some k = some y := by
  rw [List.all_eq_true]
  exact ⟨fun h y hy => by rw [of_decide_eq_true (h y hy)], fun h y hy => decide_eq_true (Option.some.inj (h y hy)).symm⟩

set_option maxRecDepth 100000 in
set_option maxHeartbeats 2000000 in
theorem tprice_any (l : List Rt) (A : Option Addr) (n c0 : Nat) (fr tt : Int) (sea : List Int) (A2 : Option Addr) (n2 c2 : Nat) (kd : Int) (i : Nat) (mv : Int) (w : World) (hl : SlT rtEnc 7 47 w A n l) (hs : SlT itEnc 1 3 w A2 n2 sea) (hc2 : n2 ≤ c2) (hn2 : n2 ≤ 120) (hi : i < n2) (hsea : ∀ k ∈ sea, -1 ≤ k ∧ k < (l.length : Int)) (hr : ∀ r ∈ l, RateOk r) (h0 : 0 ≤ fr) (h00 : fr ≤ 5761439) (ht0 : 0 ≤ tt) (ht1 : tt ≤ 5761439) (hto : begV fr i ≤ tt) :
    Calls Try.prog 21 #[.agg #[.slice A n c0, .int .i64 fr, .int .i64 tt, .slice A2 n2 c2], .int .i64 kd, .int .i64 ((i : Nat) : Int), .int .i64 mv] w (fun e w' => e = .returned (.tuple #[.int .i64 ((priceO l sea fr tt kd i mv).getD 0), .bool (priceO l sea fr tt kd i mv).isSome]) ∧ w.grownBy w' none) := by
  refine gw_enter ⟨135, w, none, []⟩ Try.func21 rfl Try.ntmps21 rfl (mem0 (X := [SlOld rtEnc 7 47 w.heap.size none A n l, SlOld itEnc 1 3 w.heap.size none A2 n2 sea]) (allF_cons hl.old (allF_cons hs.old allF_nil)) (allL_cons SlOld.lasts (allL_cons SlOld.lasts allL_nil))) ?_
  refine gw_seq ?_
  refine gw_region ?_
  have hlen := hl.len
  have hslen := hs.len
  refine wl_box rfl rfl rfl fun g1 => ?_
  refine wl_ov (ov_assign rfl) rfl ?_
  refine wl_ov (ov_assign rfl) rfl ?_
  refine wl_nil ?_
  refine nx_then ?_
  refine gw_seq ?_
  refine gw_region ?_
  refine wl_ov (ov_field fo54_2 rfl rfl) rfl ?_
  refine wl_ov (ov_load sc22 rfl (fun _ hm => hm.blkI 0 rfl) rfl) rfl ?_
  refine wl_ov (ov_len es22 rfl) rfl ?_
  refine wl_ov (ov_move rfl) rfl ?_
  refine wl_ov (ov_sub rfl rfl (by omega) (by omega)) rfl ?_
  refine wl_ov (ov_assign rfl) rfl ?_
  refine wl_nil ?_
  refine nx_then ?_
  refine gw_seq ?_
  refine gw_seq ?_
  refine gw_region ?_
  refine wl_ov (ov_move rfl) rfl ?_
  refine wl_ov (ov_lss rfl rfl) rfl ?_
  refine wl_ov (ov_move rfl) rfl ?_
  rcases Bool.eq_false_or_eq_true (decide (mv < 1)) with h1 | h1
  · refine wl_set 24 rfl (congrArg Value.bool h1) ?_
    refine wl_guard_off rfl rfl rfl (by decide) rfl ?_
    refine wl_guard_off rfl rfl rfl (by decide) rfl ?_
    refine wl_guard_off rfl rfl rfl (by decide) rfl ?_
    refine wl_ov (ov_pick_t rfl rfl) rfl ?_
    refine wl_ov (ov_move rfl) rfl ?_
    refine wl_guard_off rfl rfl rfl (by decide) rfl ?_
    refine wl_guard_off rfl rfl rfl (by decide) rfl ?_
    refine wl_guard_off rfl rfl rfl (by decide) rfl ?_
    refine wl_guard_off rfl rfl rfl (by decide) rfl ?_
    refine wl_guard_off rfl rfl rfl (by decide) rfl ?_
    refine wl_guard_off rfl rfl rfl (by decide) rfl ?_
    refine wl_guard_off rfl rfl rfl (by decide) rfl ?_
    refine wl_guard_off rfl rfl rfl (by decide) rfl ?_
    refine wl_ov (ov_pick_t rfl rfl) rfl ?_
    refine wl_nil ?_
    refine nx_then ?_
    refine gw_cond rfl (fun _ => ?_) (fun hh => by cases hh)
    refine gw_seq ?_
    refine gw_region ?_
    refine wl_ov (ov_assign rfl) rfl ?_
    refine wl_ov (ov_assign rfl) rfl ?_
    refine wl_nil ?_
    refine nx_then ?_
    refine gw_ret ?_
    refine nx_then_ret ?_
    refine nx_ret2 rfl rfl rfl fun wx hm => ?_
    have hP : priceO l sea fr tt kd i mv = none := price_no (.inl (of_decide_eq_true h1))
    refine ⟨?_, hm.g⟩
    rw [hP]; rfl
  · refine wl_set 24 rfl (congrArg Value.bool h1) ?_
    have h1 := of_decide_eq_false h1
    obtain ⟨mm, hmm⟩ := Int.eq_ofNat_of_zero_le (show 0 ≤ mv by omega)
    subst hmm
    have hm1 : 0 < mm := by omega
    refine wl_guard_on rfl rfl rfl ?_
    refine wl_ov (ov_move rfl) rfl ?_
    refine wl_guard_on rfl rfl rfl ?_
    refine wl_ov (ov_move rfl) rfl ?_
    refine wl_guard_on rfl rfl rfl ?_
    refine wl_ov (ov_gtr rfl rfl) rfl ?_
    refine wl_ov (ov_pick_f rfl rfl) rfl ?_
    refine wl_ov (ov_move rfl) rfl ?_
    rcases Bool.eq_false_or_eq_true (decide (((n2 : Nat) : Int) - ((i : Nat) : Int) < ((mm : Nat) : Int))) with h2 | h2
    · refine wl_set 29 rfl (congrArg Value.bool h2) ?_
      refine wl_guard_off rfl rfl rfl (by decide) rfl ?_
      refine wl_guard_off rfl rfl rfl (by decide) rfl ?_
      refine wl_guard_off rfl rfl rfl (by decide) rfl ?_
      refine wl_guard_off rfl rfl rfl (by decide) rfl ?_
      refine wl_guard_off rfl rfl rfl (by decide) rfl ?_
      refine wl_guard_off rfl rfl rfl (by decide) rfl ?_
      refine wl_guard_off rfl rfl rfl (by decide) rfl ?_
      refine wl_guard_off rfl rfl rfl (by decide) rfl ?_
      refine wl_ov (ov_pick_t rfl rfl) rfl ?_
      refine wl_nil ?_
      refine nx_then ?_
      refine gw_cond rfl (fun _ => ?_) (fun hh => by cases hh)
      refine gw_seq ?_
      refine gw_region ?_
      refine wl_ov (ov_assign rfl) rfl ?_
      refine wl_ov (ov_assign rfl) rfl ?_
      refine wl_nil ?_
      refine nx_then ?_
      refine gw_ret ?_
      refine nx_then_ret ?_
      refine nx_ret2 rfl rfl rfl fun wx hm => ?_
      have hP : priceO l sea fr tt kd i ((mm : Nat) : Int) = none := price_no (.inr (.inl (by have h2 := of_decide_eq_true h2; omega)))
      refine ⟨?_, hm.g⟩
      rw [hP]; rfl
    · refine wl_set 29 rfl (congrArg Value.bool h2) ?_
      have h2 := of_decide_eq_false h2
      have himm : i + mm ≤ n2 := by omega
      obtain ⟨b2, o2, hA, _, _⟩ := hs.get (by omega)
      subst hA
      refine wl_guard_on rfl rfl rfl ?_
      refine wl_ov (ov_field fo54_2 rfl rfl) rfl ?_
      refine wl_guard_on rfl rfl rfl ?_
      refine wl_ov (ov_load sc22 rfl (fun _ hm => hm.blkI 0 rfl) rfl) rfl ?_
      refine wl_guard_on rfl rfl rfl ?_
      refine wl_ov (ov_move rfl) rfl ?_
      refine wl_guard_on rfl rfl rfl ?_
      refine wl_ov (ov_move rfl) rfl ?_
      refine wl_guard_on rfl rfl rfl ?_
      refine wl_ov (ov_move rfl) rfl ?_
      refine wl_guard_on rfl rfl rfl ?_
      refine wl_ov (ov_add rfl rfl (by omega) (by omega)) rfl ?_
      refine wl_set 35 (v' := .int .i64 ((i + mm : Nat) : Int)) rfl (congrArg (Value.int .i64) (by omega)) ?_
      refine wl_guard_on rfl rfl rfl ?_
      refine wl_ov (ov_sliceLH (lo := i) (hi := i + mm) es22 rfl rfl rfl rfl rfl (by omega) (by omega)) rfl ?_
      refine wl_set 36 (v' := .slice (some ⟨b2, o2 + i, none⟩) mm (c2 - i)) rfl (slice_cut (by omega)) ?_
      refine wl_guard_on rfl rfl rfl ?_
      refine wl_callv rfl cb38 rfl rfl (fun wx hm => (contains_int ((sea.drop i).take mm) _ mm _ (-1) wx (SlT.cut (hm.fact 1 rfl).1 himm hi) (by omega))) ?_
      refine wl_ov (ov_pick_f rfl rfl) rfl ?_
      refine wl_nil ?_
      refine nx_then ?_
      refine gw_cond rfl (fun hh => ?_) (fun hh => ?_)
      · have h3 : (-1 : Int) ∈ (sea.drop i).take mm := by simpa using hh
        clear hh
        refine gw_seq ?_
        refine gw_region ?_
        refine wl_ov (ov_assign rfl) rfl ?_
        refine wl_ov (ov_assign rfl) rfl ?_
        refine wl_nil ?_
        refine nx_then ?_
        refine gw_ret ?_
        refine nx_then_ret ?_
        refine nx_ret2 rfl rfl rfl fun wx hm => ?_
        have hP : priceO l sea fr tt kd i ((mm : Nat) : Int) = none := price_no (.inr (.inr (by simpa using h3)))
        refine ⟨?_, hm.g⟩
        rw [hP]; rfl
      · have h3 : ¬ ((-1 : Int) ∈ (sea.drop i).take mm) := by simpa using hh
        clear hh
        refine gw_skip ?_
        refine nx_then ?_
        refine gw_seq ?_
        have hbad : ¬ (((mm : Nat) : Int) < 1 ∨ (sea.length : Int) - (i : Int) < ((mm : Nat) : Int) ∨ (-1 : Int) ∈ (sea.drop i).take (((mm : Nat) : Int)).toNat) := by
          rw [Int.toNat_natCast]
          rintro (h | h | h)
          · omega
          · omega
          · exact h3 h
        obtain ⟨k0, hk0⟩ : ∃ x, sea[i]? = some x := ⟨_, List.getElem?_eq_getElem (by omega)⟩
        obtain ⟨hk1, hk2⟩ := hsea k0 (List.mem_of_getElem? hk0)
        have hk3 : k0 ≠ -1 := fun h => h3 (h ▸ take_one hk0 hm1)
        obtain ⟨kk, hkk⟩ := Int.eq_ofNat_of_zero_le (show 0 ≤ k0 by omega)
        subst hkk
        have hkn : kk < n := by omega
        obtain ⟨y, hy⟩ : ∃ x, l[kk]? = some x := ⟨_, List.getElem?_eq_getElem (by omega)⟩
        obtain ⟨⟨q1, q2⟩, ⟨q3, q4⟩, ⟨q5, q6⟩, ⟨q7, q8⟩⟩ := hr y (List.mem_of_getElem? hy)
        obtain ⟨cl, rf, rt, ho, dd, we, wk⟩ := y
        dsimp only at q1 q2 q3 q4 q5 q6 q7 q8
        have hgo := price_go (fr := fr) (to_ := tt) (kind := kd) hbad hk0 (by rw [Int.toNat_natCast]; exact hy)
        obtain ⟨b, off, hA, _, _⟩ := hl.get (by omega)
        subst hA
        refine gw_draw (fun wz => Blk wz g1 54 [.slice (some ⟨b, off, none⟩) n c0, .int .i64 fr, .int .i64 tt, .slice (some ⟨b2, o2, none⟩) n2 c2] ∧ (SlOld rtEnc 7 47 w.heap.size none (some ⟨b, off, none⟩) n l) wz ∧ (SlOld itEnc 1 3 w.heap.size none (some ⟨b2, o2, none⟩) n2 sea) wz ∧ True) mixed ?_
        refine wa_take 0 rfl (by kernel_rfl) (by kernel_rfl) (by kernel_rfl) (listed' := #[true, false, false, false, false, false, false, false, false, false, false]) rfl (fun _ _ _ h => h) (fun _ hm => ⟨hm.blkI 0 rfl, hm.fact 0 rfl, hm.fact 1 rfl, trivial⟩) (ov_field fo54_0 rfl rfl) rfl ?_
        refine wa_take 1 rfl (by kernel_rfl) (by kernel_rfl) (by kernel_rfl) (listed' := #[true, true, false, false, false, false, false, false, false, false, false]) rfl (fun _ _ _ h => h) (fun _ hm => ⟨hm.blkI 0 rfl, hm.fact 0 rfl, hm.fact 1 rfl, trivial⟩) (ov_load sc26 rfl (fun _ hm => hm.1) rfl) rfl ?_
        refine wa_take 2 rfl (by kernel_rfl) (by kernel_rfl) (by kernel_rfl) (listed' := #[true, true, true, false, false, false, false, false, false, false, false]) rfl (fun _ _ _ h => h) (fun _ hm => ⟨hm.blkI 0 rfl, hm.fact 0 rfl, hm.fact 1 rfl, trivial⟩) (ov_field fo54_2 rfl rfl) rfl ?_
        refine wa_take 3 rfl (by kernel_rfl) (by kernel_rfl) (by kernel_rfl) (listed' := #[true, true, true, true, false, false, false, false, false, false, false]) rfl (fun _ _ _ h => h) (fun _ hm => ⟨hm.blkI 0 rfl, hm.fact 0 rfl, hm.fact 1 rfl, trivial⟩) (ov_load sc22 rfl (fun _ hm => hm.1) rfl) rfl ?_
        refine wa_take 4 rfl (by kernel_rfl) (by kernel_rfl) (by kernel_rfl) (listed' := #[true, true, true, true, true, false, false, false, false, false, false]) rfl (fun _ _ _ h => h) (fun _ hm => ⟨hm.blkI 0 rfl, hm.fact 0 rfl, hm.fact 1 rfl, trivial⟩) (ov_move rfl) rfl ?_
        refine wa_take 5 rfl (by kernel_rfl) (by kernel_rfl) (by kernel_rfl) (listed' := #[true, true, true, true, true, true, false, false, false, false, false]) rfl (fun _ _ _ h => h) (fun _ hm => ⟨hm.blkI 0 rfl, hm.fact 0 rfl, hm.fact 1 rfl, trivial⟩) (ov_index (j := i) es22 rfl rfl (by omega)) rfl ?_
        refine wa_take 6 rfl (by kernel_rfl) (by kernel_rfl) (by kernel_rfl) (listed' := #[true, true, true, true, true, true, true, false, false, false, false]) rfl (fun _ _ _ h => h) (fun _ hm => ⟨hm.blkI 0 rfl, hm.fact 0 rfl, hm.fact 1 rfl, trivial⟩) (ov_elem1 (k := 0) (v := .int .i64 ((kk : Nat) : Int)) sc3 rfl (fun _ hm => (hm.2.2.1).1) hk0 rfl rfl) rfl ?_
        refine wa_take 7 rfl (by kernel_rfl) (by kernel_rfl) (by kernel_rfl) (listed' := #[true, true, true, true, true, true, true, true, false, false, false]) rfl (fun _ _ _ h => h) (fun _ hm => ⟨hm.blkI 0 rfl, hm.fact 0 rfl, hm.fact 1 rfl, trivial⟩) (ov_index (j := kk) es26 rfl rfl (by omega)) rfl ?_
        refine wa_take 8 rfl (by kernel_rfl) (by kernel_rfl) (by kernel_rfl) (listed' := #[true, true, true, true, true, true, true, true, true, false, false]) rfl (fun _ _ _ h => h) (fun _ hm => ⟨hm.blkI 0 rfl, hm.fact 0 rfl, hm.fact 1 rfl, trivial⟩) (ov_elem (vs := [.string cl, .int .i64 rf, .int .i64 rt, .int .i64 ho, .int .i64 dd, .int .i64 we, .int .i64 wk]) rz47 rfl (fun _ hm => (hm.2.1).1) hy rfl rfl) rfl ?_
        refine wa_all [9] (by kernel_rfl) rfl ⟨⟨_, rfl, ?_⟩, trivial⟩
        refine wl_alloc zc47 rfl fun g2 => ?_
        refine wl_nil ?_
        refine nx_wa0 (listed' := #[true, true, true, true, true, true, true, true, true, true, false]) rfl (fun _ hm => ⟨hm.blkI 1 rfl, hm.fact 0 rfl, hm.fact 1 rfl, trivial⟩) ?_
        refine wa_all [10] (by kernel_rfl) rfl ⟨⟨_, rfl, ?_⟩, trivial⟩
        refine wl_stores (cs' := [.string cl, .int .i64 rf, .int .i64 rt, .int .i64 ho, .int .i64 dd, .int .i64 we, .int .i64 wk]) 0 rz47 rfl rfl rfl rfl rfl rfl rfl rfl ?_
        refine wl_nil ?_
        refine nx_wa0 (listed' := #[true, true, true, true, true, true, true, true, true, true, true]) rfl (fun _ hm => ⟨hm.blkI 1 rfl, hm.fact 0 rfl, hm.fact 1 rfl, trivial⟩) ?_
        refine wa_done (by kernel_rfl) ?_
        refine nx_then ?_
        refine gw_seq ?_
        refine gw_region ?_
        refine wl_ov (ov_move rfl) rfl ?_
        refine wl_ov (ov_eql rfl rfl) rfl ?_
        refine wl_ov (ov_assign rfl) rfl ?_
        refine wl_set 12 (v' := .int .i64 (-1)) rfl rfl ?_
        refine wl_ov (ov_assign rfl) rfl ?_
        refine wl_nil ?_
        refine nx_then ?_
        refine gw_seq ?_
        refine gw_seq ?_
        refine gw_region ?_
        refine wl_ov (ov_move rfl) rfl ?_
        refine wl_nil ?_
        refine nx_then ?_
        refine gw_block ?_
        refine gw_seq ?_
        refine gw_region ?_
        refine wl_ov (ov_eql rfl rfl) rfl ?_
        refine wl_ov (ov_assign rfl) rfl ?_
        refine wl_nil ?_
        refine nx_then ?_
        refine gw_cond rfl (fun hh => ?_) (fun hh => ?_)
        · have hk : kd = 1 := by simpa using hh
          clear hh
          refine gw_region ?_
          refine wl_ov (ov_field fo47_3 rfl rfl) rfl ?_
          refine wl_ov (ov_load sc3 rfl (fun _ hm => hm.blkI 0 rfl) rfl) rfl ?_
          refine wl_ov (ov_move rfl) rfl ?_
          refine wl_ov (ov_move rfl) rfl ?_
          rcases Bool.eq_false_or_eq_true (decide (((mm : Nat) : Int) = 1)) with hmm1 | hmm1
          · refine wl_set 56 rfl (congrArg Value.bool hmm1) ?_
            have hmm1 := of_decide_eq_true hmm1
            refine wl_guard_on rfl rfl rfl ?_
            refine wl_ov (ov_move rfl) rfl ?_
            refine wl_guard_on rfl rfl rfl ?_
            refine wl_ov (ov_eql rfl rfl) rfl ?_
            refine wl_ov (ov_pick_t rfl rfl) rfl ?_
            refine wl_ov (ov_assign rfl) rfl ?_
            refine wl_ov (ov_assign rfl) rfl ?_
            refine wl_nil ?_
            refine nx_blk_nrm ?_
            refine nx_then ?_
            refine gw_seq ?_
            refine gw_seq ?_
            refine gw_region ?_
            refine wl_ov (ov_move rfl) rfl ?_
            refine wl_ov (ov_un_not rfl) rfl ?_
            refine wl_ov (ov_move rfl) rfl ?_
            rcases Bool.eq_false_or_eq_true (!(decide (((n2 : Nat) : Int) - ((i : Nat) : Int) = 1))) with hL | hL
            · refine wl_set 117 rfl (congrArg Value.bool hL) ?_
              have hL : ¬ (sea.length = i + 1) := by simp at hL; omega
              refine wl_guard_off rfl rfl rfl (by decide) rfl ?_
              refine wl_guard_off rfl rfl rfl (by decide) rfl ?_
              refine wl_ov (ov_pick_t rfl rfl) rfl ?_
              refine wl_nil ?_
              refine nx_then ?_
              refine gw_cond rfl (fun _ => ?_) (fun hh => by cases hh)
              refine gw_seq ?_
              refine gw_region ?_
              refine wl_ov (ov_assign rfl) rfl ?_
              refine wl_ov (ov_assign rfl) rfl ?_
              refine wl_nil ?_
              refine nx_then ?_
              refine gw_ret ?_
              refine nx_then_ret ?_
              refine nx_ret2 rfl rfl rfl fun wx hm => ?_
              have hP : priceK ⟨cl, rf, rt, ho, dd, we, wk⟩ sea fr tt kd i ((mm : Nat) : Int) = none := by
                unfold priceK
                rw [if_pos hk, if_neg (fun h => hL h.2.1)]
              refine ⟨?_, hm.g⟩
              rw [hgo, hP]; rfl
            · refine wl_set 117 rfl (congrArg Value.bool hL) ?_
              have hL : sea.length = i + 1 := by simp at hL; omega
              refine wl_guard_on rfl rfl rfl ?_
              refine wl_ov (ov_move rfl) rfl ?_
              refine wl_guard_on rfl rfl rfl ?_
              refine wl_ov (ov_lss rfl rfl) rfl ?_
              refine wl_ov (ov_pick_f rfl rfl) rfl ?_
              refine wl_nil ?_
              refine nx_then ?_
              refine gw_cond rfl (fun hh => ?_) (fun hh => ?_)
              · have hz : ho < 0 := by simpa using hh
                clear hh
                refine gw_seq ?_
                refine gw_region ?_
                refine wl_ov (ov_assign rfl) rfl ?_
                refine wl_ov (ov_assign rfl) rfl ?_
                refine wl_nil ?_
                refine nx_then ?_
                refine gw_ret ?_
                refine nx_then_ret ?_
                refine nx_ret2 rfl rfl rfl fun wx hm => ?_
                have hP : priceK ⟨cl, rf, rt, ho, dd, we, wk⟩ sea fr tt kd i ((mm : Nat) : Int) = none := by
                  unfold priceK
                  rw [if_pos hk]; rw [if_neg (fun h => absurd h.2.2 (show ¬ 0 ≤ ho by omega))]
                refine ⟨?_, hm.g⟩
                rw [hgo, hP]; rfl
              · have hz : ¬ (ho < 0) := by simpa using hh
                clear hh
                refine gw_skip ?_
                refine nx_then ?_
                refine gw_seq ?_
                refine gw_seq ?_
                refine gw_region ?_
                obtain ⟨E, hE⟩ : ∃ E, E = endV fr tt i := ⟨_, rfl⟩
                obtain ⟨G, hG⟩ : ∃ E, E = begV fr i := ⟨_, rfl⟩
                have hEG : 0 ≤ E - G ∧ E - G ≤ 1440 := by rw [hE, hG]; unfold endV; unfold begV at hto ⊢; omega
                have hG0 : 0 ≤ G := by rw [hG]; unfold begV; omega
                have hE0 : E ≤ 10000000 := by rw [hE]; unfold endV; omega
                have hq0 : 0 ≤ (E - G + 59) / 60 := by omega
                have hq1 : (E - G + 59) / 60 ≤ 24 := by omega
                have hml0 : 0 ≤ ho * ((E - G + 59) / 60) := Int.mul_nonneg (by omega) hq0
                have hml1 : ho * ((E - G + 59) / 60) ≤ 1000000 * 24 := Int.mul_le_mul q2 hq1 hq0 (by omega)
                have hEG0 := hEG.1
                have hEG1 := hEG.2
                refine wl_ov (ov_move rfl) rfl ?_
                refine wl_ov (ov_eql rfl rfl) rfl ?_
                refine wl_set 122 (v' := .bool true) rfl (congrArg Value.bool (decide_eq_true hk)) ?_
                refine wl_nil ?_
                refine nx_then ?_
                refine gw_cond rfl (fun _ => ?_) (fun hh => by cases hh)
                refine gw_draw (fun wz => Blk wz g2 47 [.string cl, .int .i64 rf, .int .i64 rt, .int .i64 ho, .int .i64 dd, .int .i64 we, .int .i64 wk] ∧ Blk wz g1 54 [.slice (some ⟨b, off, none⟩) n c0, .int .i64 fr, .int .i64 tt, .slice (some ⟨b2, o2, none⟩) n2 c2] ∧ (SlOld rtEnc 7 47 w.heap.size none (some ⟨b, off, none⟩) n l) wz ∧ (SlOld itEnc 1 3 w.heap.size none (some ⟨b2, o2, none⟩) n2 sea) wz ∧ True) mixed ?_
                refine wa_take 0 rfl (by kernel_rfl) (by kernel_rfl) (by kernel_rfl) (listed' := #[true, false, false, false, false, false, false, false, false, false, false, false]) rfl (fun _ _ _ h => h) (fun _ hm => ⟨hm.blkI 0 rfl, hm.blkI 1 rfl, hm.fact 0 rfl, hm.fact 1 rfl, trivial⟩) (ov_move rfl) rfl ?_
                refine wa_take 1 rfl (by kernel_rfl) (by kernel_rfl) (by kernel_rfl) (listed' := #[true, true, false, false, false, false, false, false, false, false, false, false]) rfl (fun _ _ _ h => h) (fun _ hm => ⟨hm.blkI 0 rfl, hm.blkI 1 rfl, hm.fact 0 rfl, hm.fact 1 rfl, trivial⟩) (ov_loads rz54 rfl (fun _ hm => hm.2.1) rfl rfl) rfl ?_
                refine wa_take 2 rfl (by kernel_rfl) (by kernel_rfl) (by kernel_rfl) (listed' := #[true, true, true, false, false, false, false, false, false, false, false, false]) rfl (fun _ _ _ h => h) (fun _ hm => ⟨hm.blkI 0 rfl, hm.blkI 1 rfl, hm.fact 0 rfl, hm.fact 1 rfl, trivial⟩) (ov_move rfl) rfl ?_
                refine wa_take 4 rfl (by kernel_rfl) (by kernel_rfl) (by kernel_rfl) (listed' := #[true, true, true, false, true, false, false, false, false, false, false, false]) rfl (fun _ _ _ h => h) (fun _ hm => ⟨hm.blkI 0 rfl, hm.blkI 1 rfl, hm.fact 0 rfl, hm.fact 1 rfl, trivial⟩) (ov_loads rz54 rfl (fun _ hm => hm.2.1) rfl rfl) rfl ?_
                refine wa_take 5 rfl (by kernel_rfl) (by kernel_rfl) (by kernel_rfl) (listed' := #[true, true, true, false, true, true, false, false, false, false, false, false]) rfl (fun _ _ _ h => h) (fun _ hm => ⟨hm.blkI 0 rfl, hm.blkI 1 rfl, hm.fact 0 rfl, hm.fact 1 rfl, trivial⟩) (ov_move rfl) rfl ?_
                refine wa_all [3] (by kernel_rfl) rfl ⟨⟨_, rfl, ?_⟩, trivial⟩
                refine wl_callv (v := .int .i64 E) rfl cb40 rfl rfl (fun wx hm => (by rw [hE]; exact tend_any _ _ _ fr tt _ i wx h0 h00 (by omega))) ?_
                refine wl_nil ?_
                refine nx_wa0 (listed' := #[true, true, true, true, true, true, false, false, false, false, false, false]) rfl (fun _ hm => ⟨hm.blkI 0 rfl, hm.blkI 1 rfl, hm.fact 0 rfl, hm.fact 1 rfl, trivial⟩) ?_
                refine wa_all [6] (by kernel_rfl) rfl ⟨⟨_, rfl, ?_⟩, trivial⟩
                refine wl_callv (v := .int .i64 G) rfl cb35 rfl rfl (fun wx hm => (by rw [hG]; exact tbegin_any _ _ _ fr tt _ i wx h0 h00 (by omega))) ?_
                refine wl_nil ?_
                refine nx_wa0 (listed' := #[true, true, true, true, true, true, true, false, false, false, false, false]) rfl (fun _ hm => ⟨hm.blkI 0 rfl, hm.blkI 1 rfl, hm.fact 0 rfl, hm.fact 1 rfl, trivial⟩) ?_
                refine wa_take 7 rfl (by kernel_rfl) (by kernel_rfl) (by kernel_rfl) (listed' := #[true, true, true, true, true, true, true, true, false, false, false, false]) rfl (fun _ _ _ h => h) (fun _ hm => ⟨hm.blkI 0 rfl, hm.blkI 1 rfl, hm.fact 0 rfl, hm.fact 1 rfl, trivial⟩) (ov_sub rfl rfl (by omega) (by omega)) rfl ?_
                refine wa_take 8 rfl (by kernel_rfl) (by kernel_rfl) (by kernel_rfl) (listed' := #[true, true, true, true, true, true, true, true, true, false, false, false]) rfl (fun _ _ _ h => h) (fun _ hm => ⟨hm.blkI 0 rfl, hm.blkI 1 rfl, hm.fact 0 rfl, hm.fact 1 rfl, trivial⟩) (ov_add rfl rfl (by omega) (by omega)) rfl ?_
                refine wa_take 9 rfl (by kernel_rfl) (by kernel_rfl) (by kernel_rfl) (listed' := #[true, true, true, true, true, true, true, true, true, true, false, false]) rfl (fun _ _ _ h => h) (fun _ hm => ⟨hm.blkI 0 rfl, hm.blkI 1 rfl, hm.fact 0 rfl, hm.fact 1 rfl, trivial⟩) (ov_quo rfl rfl (by omega) (by omega) (by omega)) rfl ?_
                refine wa_take 10 rfl (by kernel_rfl) (by kernel_rfl) (by kernel_rfl) (listed' := #[true, true, true, true, true, true, true, true, true, true, true, false]) rfl (fun _ _ _ h => h) (fun _ hm => ⟨hm.blkI 0 rfl, hm.blkI 1 rfl, hm.fact 0 rfl, hm.fact 1 rfl, trivial⟩) (ov_mul rfl rfl (by omega) (by omega)) rfl ?_
                refine wa_take 11 rfl (by kernel_rfl) (by kernel_rfl) (by kernel_rfl) (listed' := #[true, true, true, true, true, true, true, true, true, true, true, true]) rfl (fun _ _ _ h => h) (fun _ hm => ⟨hm.blkI 0 rfl, hm.blkI 1 rfl, hm.fact 0 rfl, hm.fact 1 rfl, trivial⟩) (ov_assign rfl) rfl ?_
                refine wa_done (by kernel_rfl) ?_
                refine nx_then ?_
                refine gw_seq ?_
                refine gw_region ?_
                refine wl_ov (ov_move rfl) rfl ?_
                refine wl_ov (ov_assign rfl) rfl ?_
                refine wl_ov (ov_assign rfl) rfl ?_
                refine wl_nil ?_
                refine nx_then ?_
                refine gw_ret ?_
                refine nx_ret2 rfl rfl rfl fun wx hm => ?_
                have hP : priceK ⟨cl, rf, rt, ho, dd, we, wk⟩ sea fr tt kd i ((mm : Nat) : Int) = some (ho * ((E - G + 59) / 60)) := by
                  unfold priceK
                  rw [if_pos hk]; rw [if_pos ⟨hmm1, hL, (show 0 ≤ ho by omega)⟩]; rw [hE, hG]
                refine ⟨?_, hm.g⟩
                rw [hgo, hP]; rfl
          · refine wl_set 56 rfl (congrArg Value.bool hmm1) ?_
            have hmm1 := of_decide_eq_false hmm1
            refine wl_guard_off rfl rfl rfl (by decide) rfl ?_
            refine wl_guard_off rfl rfl rfl (by decide) rfl ?_
            refine wl_ov (ov_pick_f rfl rfl) rfl ?_
            refine wl_ov (ov_assign rfl) rfl ?_
            refine wl_ov (ov_assign rfl) rfl ?_
            refine wl_nil ?_
            refine nx_blk_nrm ?_
            refine nx_then ?_
            refine gw_seq ?_
            refine gw_seq ?_
            refine gw_region ?_
            refine wl_ov (ov_move rfl) rfl ?_
            refine wl_ov (ov_un_not rfl) rfl ?_
            refine wl_set 116 (v' := .bool true) rfl (congrArg Value.bool (by decide)) ?_
            refine wl_ov (ov_move rfl) rfl ?_
            refine wl_guard_off rfl rfl rfl (by decide) rfl ?_
            refine wl_guard_off rfl rfl rfl (by decide) rfl ?_
            refine wl_ov (ov_pick_t rfl rfl) rfl ?_
            refine wl_nil ?_
            refine nx_then ?_
            refine gw_cond rfl (fun _ => ?_) (fun hh => by cases hh)
            refine gw_seq ?_
            refine gw_region ?_
            refine wl_ov (ov_assign rfl) rfl ?_
            refine wl_ov (ov_assign rfl) rfl ?_
            refine wl_nil ?_
            refine nx_then ?_
            refine gw_ret ?_
            refine nx_then_ret ?_
            refine nx_ret2 rfl rfl rfl fun wx hm => ?_
            have hP : priceK ⟨cl, rf, rt, ho, dd, we, wk⟩ sea fr tt kd i ((mm : Nat) : Int) = none := by
              unfold priceK
              rw [if_pos hk, if_neg (fun h => hmm1 h.1)]
            refine ⟨?_, hm.g⟩
            rw [hgo, hP]; rfl
        · have hk : ¬ (kd = 1) := by simpa using hh
          clear hh
          refine gw_seq ?_
          refine gw_region ?_
          refine wl_ov (ov_eql rfl rfl) rfl ?_
          refine wl_ov (ov_assign rfl) rfl ?_
          refine wl_nil ?_
          refine nx_then ?_
          refine gw_cond rfl (fun hh => ?_) (fun hh => ?_)
          · have hk : kd = 2 := by simpa using hh
            clear hh
            refine gw_region ?_
            have hk1 : ¬ kd = 1 := by omega
            refine wl_ov (ov_field fo47_4 rfl rfl) rfl ?_
            refine wl_ov (ov_load sc3 rfl (fun _ hm => hm.blkI 0 rfl) rfl) rfl ?_
            refine wl_ov (ov_assign rfl) rfl ?_
            refine wl_nil ?_
            refine nx_blk_nrm ?_
            refine nx_then ?_
            refine gw_seq ?_
            refine gw_seq ?_
            refine gw_region ?_
            refine wl_ov (ov_move rfl) rfl ?_
            refine wl_ov (ov_un_not rfl) rfl ?_
            refine wl_ov (ov_move rfl) rfl ?_
            rcases Bool.eq_false_or_eq_true (!(decide (((mm : Nat) : Int) = 1))) with hmm1 | hmm1
            · refine wl_set 117 rfl (congrArg Value.bool hmm1) ?_
              have hmm1 : ¬ ((mm : Nat) : Int) = 1 := by simpa using hmm1
              refine wl_guard_off rfl rfl rfl (by decide) rfl ?_
              refine wl_guard_off rfl rfl rfl (by decide) rfl ?_
              refine wl_ov (ov_pick_t rfl rfl) rfl ?_
              refine wl_nil ?_
              refine nx_then ?_
              refine gw_cond rfl (fun _ => ?_) (fun hh => by cases hh)
              refine gw_seq ?_
              refine gw_region ?_
              refine wl_ov (ov_assign rfl) rfl ?_
              refine wl_ov (ov_assign rfl) rfl ?_
              refine wl_nil ?_
              refine nx_then ?_
              refine gw_ret ?_
              refine nx_then_ret ?_
              refine nx_ret2 rfl rfl rfl fun wx hm => ?_
              have hP : priceK ⟨cl, rf, rt, ho, dd, we, wk⟩ sea fr tt kd i ((mm : Nat) : Int) = none := by
                unfold priceK
                rw [if_neg hk1, if_pos hk, if_neg (fun h => hmm1 h.1)]
              refine ⟨?_, hm.g⟩
              rw [hgo, hP]; rfl
            · refine wl_set 117 rfl (congrArg Value.bool hmm1) ?_
              have hmm1 : ((mm : Nat) : Int) = 1 := by simpa using hmm1
              refine wl_guard_on rfl rfl rfl ?_
              refine wl_ov (ov_move rfl) rfl ?_
              refine wl_guard_on rfl rfl rfl ?_
              refine wl_ov (ov_lss rfl rfl) rfl ?_
              refine wl_ov (ov_pick_f rfl rfl) rfl ?_
              refine wl_nil ?_
              refine nx_then ?_
              refine gw_cond rfl (fun hh => ?_) (fun hh => ?_)
              · have hz : dd < 0 := by simpa using hh
                clear hh
                refine gw_seq ?_
                refine gw_region ?_
                refine wl_ov (ov_assign rfl) rfl ?_
                refine wl_ov (ov_assign rfl) rfl ?_
                refine wl_nil ?_
                refine nx_then ?_
                refine gw_ret ?_
                refine nx_then_ret ?_
                refine nx_ret2 rfl rfl rfl fun wx hm => ?_
                have hP : priceK ⟨cl, rf, rt, ho, dd, we, wk⟩ sea fr tt kd i ((mm : Nat) : Int) = none := by
                  unfold priceK
                  rw [if_neg hk1, if_pos hk]; rw [if_neg (fun h => absurd h.2 (show ¬ 0 ≤ dd by omega))]
                refine ⟨?_, hm.g⟩
                rw [hgo, hP]; rfl
              · have hz : ¬ (dd < 0) := by simpa using hh
                clear hh
                refine gw_skip ?_
                refine nx_then ?_
                refine gw_seq ?_
                refine gw_seq ?_
                refine gw_region ?_
                refine wl_ov (ov_move rfl) rfl ?_
                refine wl_ov (ov_eql rfl rfl) rfl ?_
                refine wl_set 122 (v' := .bool false) rfl (congrArg Value.bool (decide_eq_false (by omega))) ?_
                refine wl_nil ?_
                refine nx_then ?_
                refine gw_cond rfl (fun hh => by cases hh) (fun _ => ?_)
                refine gw_skip ?_
                refine nx_then ?_
                refine gw_seq ?_
                refine gw_region ?_
                refine wl_ov (ov_move rfl) rfl ?_
                refine wl_ov (ov_assign rfl) rfl ?_
                refine wl_ov (ov_assign rfl) rfl ?_
                refine wl_nil ?_
                refine nx_then ?_
                refine gw_ret ?_
                refine nx_ret2 rfl rfl rfl fun wx hm => ?_
                have hP : priceK ⟨cl, rf, rt, ho, dd, we, wk⟩ sea fr tt kd i ((mm : Nat) : Int) = some (dd) := by
                  unfold priceK
                  rw [if_neg hk1, if_pos hk]; rw [if_pos ⟨hmm1, (show 0 ≤ dd by omega)⟩]
                refine ⟨?_, hm.g⟩
                rw [hgo, hP]; rfl
          · have hk : ¬ (kd = 2) := by simpa using hh
            clear hh
            refine gw_seq ?_
            refine gw_region ?_
            refine wl_ov (ov_eql rfl rfl) rfl ?_
            refine wl_ov (ov_assign rfl) rfl ?_
            refine wl_nil ?_
            refine nx_then ?_
            refine gw_cond rfl (fun hh => ?_) (fun hh => ?_)
            · have hk : kd = 3 := by simpa using hh
              clear hh
              refine gw_seq ?_
              refine gw_region ?_
              have hk1 : ¬ kd = 1 := by omega
              have hk2 : ¬ kd = 2 := by omega
              obtain ⟨G, hG⟩ : ∃ E, E = begV fr i := ⟨_, rfl⟩
              have hG0 : 0 ≤ G := by rw [hG]; unfold begV; omega
              have hG1 : G ≤ 10000000 := by rw [hG]; unfold begV; omega
              obtain ⟨W, hW⟩ : ∃ E, E = wkE G := ⟨_, rfl⟩
              obtain ⟨E2, hE2⟩ : ∃ E, E = endV fr tt (i + mm - 1) := ⟨_, rfl⟩
              refine wl_ov (ov_loads rz54 rfl (fun _ hm => hm.blkI 1 rfl) rfl rfl) rfl ?_
              refine wl_ov (ov_move rfl) rfl ?_
              refine wl_callv (v := .int .i64 G) rfl cb35 rfl rfl (fun wx hm => (by rw [hG]; exact tbegin_any _ _ _ fr tt _ i wx h0 h00 (by omega))) ?_
              refine wl_callv (v := .int .i64 W) rfl cb39 rfl rfl (fun wx hm => (by rw [hW]; exact tweekend_any G wx hG0 (by omega))) ?_
              refine wl_ov (ov_assign rfl) rfl ?_
              refine wl_nil ?_
              refine nx_then ?_
              refine gw_draw (fun wz => Blk wz g2 47 [.string cl, .int .i64 rf, .int .i64 rt, .int .i64 ho, .int .i64 dd, .int .i64 we, .int .i64 wk] ∧ Blk wz g1 54 [.slice (some ⟨b, off, none⟩) n c0, .int .i64 fr, .int .i64 tt, .slice (some ⟨b2, o2, none⟩) n2 c2] ∧ (SlOld rtEnc 7 47 w.heap.size none (some ⟨b, off, none⟩) n l) wz ∧ (SlOld itEnc 1 3 w.heap.size none (some ⟨b2, o2, none⟩) n2 sea) wz ∧ True) mixed ?_
              refine wa_take 0 rfl (by kernel_rfl) (by kernel_rfl) (by kernel_rfl) (listed' := #[true, false, false, false, false, false, false, false, false, false, false, false, false, false, false, false]) rfl (fun _ _ _ h => h) (fun _ hm => ⟨hm.blkI 0 rfl, hm.blkI 1 rfl, hm.fact 0 rfl, hm.fact 1 rfl, trivial⟩) (ov_field fo47_5 rfl rfl) rfl ?_
              refine wa_take 1 rfl (by kernel_rfl) (by kernel_rfl) (by kernel_rfl) (listed' := #[true, true, false, false, false, false, false, false, false, false, false, false, false, false, false, false]) rfl (fun _ _ _ h => h) (fun _ hm => ⟨hm.blkI 0 rfl, hm.blkI 1 rfl, hm.fact 0 rfl, hm.fact 1 rfl, trivial⟩) (ov_load sc3 rfl (fun _ hm => hm.1) rfl) rfl ?_
              refine wa_take 2 rfl (by kernel_rfl) (by kernel_rfl) (by kernel_rfl) (listed' := #[true, true, true, false, false, false, false, false, false, false, false, false, false, false, false, false]) rfl (fun _ _ _ h => h) (fun _ hm => ⟨hm.blkI 0 rfl, hm.blkI 1 rfl, hm.fact 0 rfl, hm.fact 1 rfl, trivial⟩) (ov_move rfl) rfl ?_
              refine wa_take 3 rfl (by kernel_rfl) (by kernel_rfl) (by kernel_rfl) (listed' := #[true, true, true, true, false, false, false, false, false, false, false, false, false, false, false, false]) rfl (fun _ _ _ h => h) (fun _ hm => ⟨hm.blkI 0 rfl, hm.blkI 1 rfl, hm.fact 0 rfl, hm.fact 1 rfl, trivial⟩) (ov_geq rfl rfl) rfl ?_
              refine wa_take 4 rfl (by kernel_rfl) (by kernel_rfl) (by kernel_rfl) (listed' := #[true, true, true, true, true, false, false, false, false, false, false, false, false, false, false, false]) rfl (fun _ _ _ h => h) (fun _ hm => ⟨hm.blkI 0 rfl, hm.blkI 1 rfl, hm.fact 0 rfl, hm.fact 1 rfl, trivial⟩) (ov_move rfl) rfl ?_
              rcases Bool.eq_false_or_eq_true (decide (0 ≤ W)) with hW0 | hW0
              · refine wa_set 74 rfl (congrArg Value.bool hW0) ?_
                have hW0 : 0 ≤ W := of_decide_eq_true hW0
                refine wa_take_on 5 rfl rfl rfl (by kernel_rfl) (by kernel_rfl) (by kernel_rfl) (listed' := #[true, true, true, true, true, true, false, false, false, false, false, false, false, false, false, false]) rfl (fun _ _ _ h => h) (fun _ hm => ⟨hm.blkI 0 rfl, hm.blkI 1 rfl, hm.fact 0 rfl, hm.fact 1 rfl, trivial⟩) (ov_loads rz54 rfl (fun _ hm => hm.2.1) rfl rfl) rfl ?_
                refine wa_take_on 6 rfl rfl rfl (by kernel_rfl) (by kernel_rfl) (by kernel_rfl) (listed' := #[true, true, true, true, true, true, true, false, false, false, false, false, false, false, false, false]) rfl (fun _ _ _ h => h) (fun _ hm => ⟨hm.blkI 0 rfl, hm.blkI 1 rfl, hm.fact 0 rfl, hm.fact 1 rfl, trivial⟩) (ov_move rfl) rfl ?_
                refine wa_take_on 7 rfl rfl rfl (by kernel_rfl) (by kernel_rfl) (by kernel_rfl) (listed' := #[true, true, true, true, true, true, true, true, false, false, false, false, false, false, false, false]) rfl (fun _ _ _ h => h) (fun _ hm => ⟨hm.blkI 0 rfl, hm.blkI 1 rfl, hm.fact 0 rfl, hm.fact 1 rfl, trivial⟩) (ov_move rfl) rfl ?_
                refine wa_take_on 8 rfl rfl rfl (by kernel_rfl) (by kernel_rfl) (by kernel_rfl) (listed' := #[true, true, true, true, true, true, true, true, true, false, false, false, false, false, false, false]) rfl (fun _ _ _ h => h) (fun _ hm => ⟨hm.blkI 0 rfl, hm.blkI 1 rfl, hm.fact 0 rfl, hm.fact 1 rfl, trivial⟩) (ov_add rfl rfl (by omega) (by omega)) rfl ?_
                refine wa_set 78 (v' := .int .i64 ((i + mm : Nat) : Int)) rfl (congrArg (Value.int .i64) (by omega)) ?_
                refine wa_take_on 9 rfl rfl rfl (by kernel_rfl) (by kernel_rfl) (by kernel_rfl) (listed' := #[true, true, true, true, true, true, true, true, true, true, false, false, false, false, false, false]) rfl (fun _ _ _ h => h) (fun _ hm => ⟨hm.blkI 0 rfl, hm.blkI 1 rfl, hm.fact 0 rfl, hm.fact 1 rfl, trivial⟩) (ov_sub rfl rfl (by omega) (by omega)) rfl ?_
                refine wa_set 79 (v' := .int .i64 ((i + mm - 1 : Nat) : Int)) rfl (congrArg (Value.int .i64) (by omega)) ?_
                refine wa_take_on 11 rfl rfl rfl (by kernel_rfl) (by kernel_rfl) (by kernel_rfl) (listed' := #[true, true, true, true, true, true, true, true, true, true, false, true, false, false, false, false]) rfl (fun _ _ _ h => h) (fun _ hm => ⟨hm.blkI 0 rfl, hm.blkI 1 rfl, hm.fact 0 rfl, hm.fact 1 rfl, trivial⟩) (ov_move rfl) rfl ?_
                refine wa_all [10] (by kernel_rfl) rfl ⟨⟨_, rfl, ?_⟩, trivial⟩
                refine wl_guard_on rfl rfl rfl ?_
                refine wl_callv (v := .int .i64 E2) rfl cb40 rfl rfl (fun wx hm => (by rw [hE2]; exact tend_any _ _ _ fr tt _ (i + mm - 1) wx h0 h00 (by omega))) ?_
                refine wl_nil ?_
                refine nx_wa0 (listed' := #[true, true, true, true, true, true, true, true, true, true, true, true, false, false, false, false]) rfl (fun _ hm => ⟨hm.blkI 0 rfl, hm.blkI 1 rfl, hm.fact 0 rfl, hm.fact 1 rfl, trivial⟩) ?_
                refine wa_take_on 12 rfl rfl rfl (by kernel_rfl) (by kernel_rfl) (by kernel_rfl) (listed' := #[true, true, true, true, true, true, true, true, true, true, true, true, true, false, false, false]) rfl (fun _ _ _ h => h) (fun _ hm => ⟨hm.blkI 0 rfl, hm.blkI 1 rfl, hm.fact 0 rfl, hm.fact 1 rfl, trivial⟩) (ov_leq rfl rfl) rfl ?_
                refine wa_take 13 rfl (by kernel_rfl) (by kernel_rfl) (by kernel_rfl) (listed' := #[true, true, true, true, true, true, true, true, true, true, true, true, true, true, false, false]) rfl (fun _ _ _ h => h) (fun _ hm => ⟨hm.blkI 0 rfl, hm.blkI 1 rfl, hm.fact 0 rfl, hm.fact 1 rfl, trivial⟩) (ov_pick_t rfl rfl) rfl ?_
                refine wa_take 14 rfl (by kernel_rfl) (by kernel_rfl) (by kernel_rfl) (listed' := #[true, true, true, true, true, true, true, true, true, true, true, true, true, true, true, false]) rfl (fun _ _ _ h => h) (fun _ hm => ⟨hm.blkI 0 rfl, hm.blkI 1 rfl, hm.fact 0 rfl, hm.fact 1 rfl, trivial⟩) (ov_assign rfl) rfl ?_
                refine wa_take 15 rfl (by kernel_rfl) (by kernel_rfl) (by kernel_rfl) (listed' := #[true, true, true, true, true, true, true, true, true, true, true, true, true, true, true, true]) rfl (fun _ _ _ h => h) (fun _ hm => ⟨hm.blkI 0 rfl, hm.blkI 1 rfl, hm.fact 0 rfl, hm.fact 1 rfl, trivial⟩) (ov_assign rfl) rfl ?_
                refine wa_done (by kernel_rfl) ?_
                refine nx_blk_nrm ?_
                refine nx_then ?_
                refine gw_seq ?_
                refine gw_seq ?_
                refine gw_region ?_
                refine wl_ov (ov_move rfl) rfl ?_
                refine wl_ov (ov_un_not rfl) rfl ?_
                refine wl_ov (ov_move rfl) rfl ?_
                rcases Bool.eq_false_or_eq_true (!(decide (E2 ≤ W))) with hW1 | hW1
                · refine wl_set 117 rfl (congrArg Value.bool hW1) ?_
                  have hW1 : ¬ E2 ≤ W := by simpa using hW1
                  refine wl_guard_off rfl rfl rfl (by decide) rfl ?_
                  refine wl_guard_off rfl rfl rfl (by decide) rfl ?_
                  refine wl_ov (ov_pick_t rfl rfl) rfl ?_
                  refine wl_nil ?_
                  refine nx_then ?_
                  refine gw_cond rfl (fun _ => ?_) (fun hh => by cases hh)
                  refine gw_seq ?_
                  refine gw_region ?_
                  refine wl_ov (ov_assign rfl) rfl ?_
                  refine wl_ov (ov_assign rfl) rfl ?_
                  refine wl_nil ?_
                  refine nx_then ?_
                  refine gw_ret ?_
                  refine nx_then_ret ?_
                  refine nx_ret2 rfl rfl rfl fun wx hm => ?_
                  have hP : priceK ⟨cl, rf, rt, ho, dd, we, wk⟩ sea fr tt kd i ((mm : Nat) : Int) = none := by
                    unfold priceK
                    rw [if_neg hk1, if_neg hk2, if_pos hk, Int.toNat_natCast, ← hE2, ← hG, ← hW]; rw [if_neg (fun h => hW1 h.1.2)]
                  refine ⟨?_, hm.g⟩
                  rw [hgo, hP]; rfl
                · refine wl_set 117 rfl (congrArg Value.bool hW1) ?_
                  have hW1 : E2 ≤ W := by simpa using hW1
                  refine wl_guard_on rfl rfl rfl ?_
                  refine wl_ov (ov_move rfl) rfl ?_
                  refine wl_guard_on rfl rfl rfl ?_
                  refine wl_ov (ov_lss rfl rfl) rfl ?_
                  refine wl_ov (ov_pick_f rfl rfl) rfl ?_
                  refine wl_nil ?_
                  refine nx_then ?_
                  refine gw_cond rfl (fun hh => ?_) (fun hh => ?_)
                  · have hz : we < 0 := by simpa using hh
                    clear hh
                    refine gw_seq ?_
                    refine gw_region ?_
                    refine wl_ov (ov_assign rfl) rfl ?_
                    refine wl_ov (ov_assign rfl) rfl ?_
                    refine wl_nil ?_
                    refine nx_then ?_
                    refine gw_ret ?_
                    refine nx_then_ret ?_
                    refine nx_ret2 rfl rfl rfl fun wx hm => ?_
                    have hP : priceK ⟨cl, rf, rt, ho, dd, we, wk⟩ sea fr tt kd i ((mm : Nat) : Int) = none := by
                      unfold priceK
                      rw [if_neg hk1, if_neg hk2, if_pos hk, Int.toNat_natCast, ← hE2, ← hG, ← hW]; rw [if_neg (fun h => absurd h.2 (show ¬ 0 ≤ we by omega))]
                    refine ⟨?_, hm.g⟩
                    rw [hgo, hP]; rfl
                  · have hz : ¬ (we < 0) := by simpa using hh
                    clear hh
                    refine gw_skip ?_
                    refine nx_then ?_
                    refine gw_seq ?_
                    refine gw_seq ?_
                    refine gw_region ?_
                    refine wl_ov (ov_move rfl) rfl ?_
                    refine wl_ov (ov_eql rfl rfl) rfl ?_
                    refine wl_set 122 (v' := .bool false) rfl (congrArg Value.bool (decide_eq_false (by omega))) ?_
                    refine wl_nil ?_
                    refine nx_then ?_
                    refine gw_cond rfl (fun hh => by cases hh) (fun _ => ?_)
                    refine gw_skip ?_
                    refine nx_then ?_
                    refine gw_seq ?_
                    refine gw_region ?_
                    refine wl_ov (ov_move rfl) rfl ?_
                    refine wl_ov (ov_assign rfl) rfl ?_
                    refine wl_ov (ov_assign rfl) rfl ?_
                    refine wl_nil ?_
                    refine nx_then ?_
                    refine gw_ret ?_
                    refine nx_ret2 rfl rfl rfl fun wx hm => ?_
                    have hP : priceK ⟨cl, rf, rt, ho, dd, we, wk⟩ sea fr tt kd i ((mm : Nat) : Int) = some (we) := by
                      unfold priceK
                      rw [if_neg hk1, if_neg hk2, if_pos hk, Int.toNat_natCast, ← hE2, ← hG, ← hW]; rw [if_pos ⟨⟨hW0, hW1⟩, (show 0 ≤ we by omega)⟩]
                    refine ⟨?_, hm.g⟩
                    rw [hgo, hP]; rfl
              · refine wa_set 74 rfl (congrArg Value.bool hW0) ?_
                have hW0 : ¬ 0 ≤ W := of_decide_eq_false hW0
                refine wa_take_off 5 rfl rfl rfl (by decide) (by kernel_rfl) (by kernel_rfl) (by kernel_rfl) (listed' := #[true, true, true, true, true, true, false, false, false, false, false, false, false, false, false, false]) rfl (fun _ _ _ h => h) (fun _ hm => ⟨hm.blkI 0 rfl, hm.blkI 1 rfl, hm.fact 0 rfl, hm.fact 1 rfl, trivial⟩) rfl ?_
                refine wa_take_off 6 rfl rfl rfl (by decide) (by kernel_rfl) (by kernel_rfl) (by kernel_rfl) (listed' := #[true, true, true, true, true, true, true, false, false, false, false, false, false, false, false, false]) rfl (fun _ _ _ h => h) (fun _ hm => ⟨hm.blkI 0 rfl, hm.blkI 1 rfl, hm.fact 0 rfl, hm.fact 1 rfl, trivial⟩) rfl ?_
                refine wa_take_off 7 rfl rfl rfl (by decide) (by kernel_rfl) (by kernel_rfl) (by kernel_rfl) (listed' := #[true, true, true, true, true, true, true, true, false, false, false, false, false, false, false, false]) rfl (fun _ _ _ h => h) (fun _ hm => ⟨hm.blkI 0 rfl, hm.blkI 1 rfl, hm.fact 0 rfl, hm.fact 1 rfl, trivial⟩) rfl ?_
                refine wa_take_off 8 rfl rfl rfl (by decide) (by kernel_rfl) (by kernel_rfl) (by kernel_rfl) (listed' := #[true, true, true, true, true, true, true, true, true, false, false, false, false, false, false, false]) rfl (fun _ _ _ h => h) (fun _ hm => ⟨hm.blkI 0 rfl, hm.blkI 1 rfl, hm.fact 0 rfl, hm.fact 1 rfl, trivial⟩) rfl ?_
                refine wa_take_off 9 rfl rfl rfl (by decide) (by kernel_rfl) (by kernel_rfl) (by kernel_rfl) (listed' := #[true, true, true, true, true, true, true, true, true, true, false, false, false, false, false, false]) rfl (fun _ _ _ h => h) (fun _ hm => ⟨hm.blkI 0 rfl, hm.blkI 1 rfl, hm.fact 0 rfl, hm.fact 1 rfl, trivial⟩) rfl ?_
                refine wa_take_off 10 rfl rfl rfl (by decide) (by kernel_rfl) (by kernel_rfl) (by kernel_rfl) (listed' := #[true, true, true, true, true, true, true, true, true, true, true, false, false, false, false, false]) rfl (fun _ _ _ h => h) (fun _ hm => ⟨hm.blkI 0 rfl, hm.blkI 1 rfl, hm.fact 0 rfl, hm.fact 1 rfl, trivial⟩) rfl ?_
                refine wa_take_off 11 rfl rfl rfl (by decide) (by kernel_rfl) (by kernel_rfl) (by kernel_rfl) (listed' := #[true, true, true, true, true, true, true, true, true, true, true, true, false, false, false, false]) rfl (fun _ _ _ h => h) (fun _ hm => ⟨hm.blkI 0 rfl, hm.blkI 1 rfl, hm.fact 0 rfl, hm.fact 1 rfl, trivial⟩) rfl ?_
                refine wa_take_off 12 rfl rfl rfl (by decide) (by kernel_rfl) (by kernel_rfl) (by kernel_rfl) (listed' := #[true, true, true, true, true, true, true, true, true, true, true, true, true, false, false, false]) rfl (fun _ _ _ h => h) (fun _ hm => ⟨hm.blkI 0 rfl, hm.blkI 1 rfl, hm.fact 0 rfl, hm.fact 1 rfl, trivial⟩) rfl ?_
                refine wa_take 13 rfl (by kernel_rfl) (by kernel_rfl) (by kernel_rfl) (listed' := #[true, true, true, true, true, true, true, true, true, true, true, true, true, true, false, false]) rfl (fun _ _ _ h => h) (fun _ hm => ⟨hm.blkI 0 rfl, hm.blkI 1 rfl, hm.fact 0 rfl, hm.fact 1 rfl, trivial⟩) (ov_pick_f rfl rfl) rfl ?_
                refine wa_take 14 rfl (by kernel_rfl) (by kernel_rfl) (by kernel_rfl) (listed' := #[true, true, true, true, true, true, true, true, true, true, true, true, true, true, true, false]) rfl (fun _ _ _ h => h) (fun _ hm => ⟨hm.blkI 0 rfl, hm.blkI 1 rfl, hm.fact 0 rfl, hm.fact 1 rfl, trivial⟩) (ov_assign rfl) rfl ?_
                refine wa_take 15 rfl (by kernel_rfl) (by kernel_rfl) (by kernel_rfl) (listed' := #[true, true, true, true, true, true, true, true, true, true, true, true, true, true, true, true]) rfl (fun _ _ _ h => h) (fun _ hm => ⟨hm.blkI 0 rfl, hm.blkI 1 rfl, hm.fact 0 rfl, hm.fact 1 rfl, trivial⟩) (ov_assign rfl) rfl ?_
                refine wa_done (by kernel_rfl) ?_
                refine nx_blk_nrm ?_
                refine nx_then ?_
                refine gw_seq ?_
                refine gw_seq ?_
                refine gw_region ?_
                refine wl_ov (ov_move rfl) rfl ?_
                refine wl_ov (ov_un_not rfl) rfl ?_
                refine wl_set 116 (v' := .bool true) rfl (congrArg Value.bool (by decide)) ?_
                refine wl_ov (ov_move rfl) rfl ?_
                refine wl_guard_off rfl rfl rfl (by decide) rfl ?_
                refine wl_guard_off rfl rfl rfl (by decide) rfl ?_
                refine wl_ov (ov_pick_t rfl rfl) rfl ?_
                refine wl_nil ?_
                refine nx_then ?_
                refine gw_cond rfl (fun _ => ?_) (fun hh => by cases hh)
                refine gw_seq ?_
                refine gw_region ?_
                refine wl_ov (ov_assign rfl) rfl ?_
                refine wl_ov (ov_assign rfl) rfl ?_
                refine wl_nil ?_
                refine nx_then ?_
                refine gw_ret ?_
                refine nx_then_ret ?_
                refine nx_ret2 rfl rfl rfl fun wx hm => ?_
                have hP : priceK ⟨cl, rf, rt, ho, dd, we, wk⟩ sea fr tt kd i ((mm : Nat) : Int) = none := by
                  unfold priceK
                  rw [if_neg hk1, if_neg hk2, if_pos hk, Int.toNat_natCast, ← hE2, ← hG, ← hW]; rw [if_neg (fun h => hW0 h.1.1)]
                refine ⟨?_, hm.g⟩
                rw [hgo, hP]; rfl
            · have hk : ¬ (kd = 3) := by simpa using hh
              clear hh
              refine gw_seq ?_
              refine gw_region ?_
              refine wl_ov (ov_eql rfl rfl) rfl ?_
              refine wl_ov (ov_assign rfl) rfl ?_
              refine wl_nil ?_
              refine nx_then ?_
              refine gw_cond rfl (fun hh => ?_) (fun hh => ?_)
              · have hk : kd = 4 := by simpa using hh
                clear hh
                refine gw_seq ?_
                refine gw_region ?_
                have hk1 : ¬ kd = 1 := by omega
                have hk2 : ¬ kd = 2 := by omega
                have hk3 : ¬ kd = 3 := by omega
                refine wl_ov (ov_field fo47_6 rfl rfl) rfl ?_
                refine wl_ov (ov_load sc3 rfl (fun _ hm => hm.blkI 0 rfl) rfl) rfl ?_
                refine wl_ov (ov_move rfl) rfl ?_
                refine wl_ov (ov_move rfl) rfl ?_
                refine wl_ov (ov_min rfl rfl) rfl ?_
                refine wl_ov (ov_eql rfl rfl) rfl ?_
                refine wl_ov (ov_assign rfl) rfl ?_
                refine wl_ov (ov_assign rfl) rfl ?_
                refine wl_nil ?_
                refine nx_then ?_
                refine gw_seq ?_
                refine gw_region ?_
                refine wl_ov (ov_field fo54_2 rfl rfl) rfl ?_
                refine wl_ov (ov_load sc22 rfl (fun _ hm => hm.blkI 1 rfl) rfl) rfl ?_
                refine wl_ov (ov_move rfl) rfl ?_
                refine wl_ov (ov_move rfl) rfl ?_
                refine wl_ov (ov_move rfl) rfl ?_
                refine wl_ov (ov_add rfl rfl (by omega) (by omega)) rfl ?_
                refine wl_set 97 (v' := .int .i64 ((i + mm : Nat) : Int)) rfl (congrArg (Value.int .i64) (by omega)) ?_
                refine wl_ov (ov_sliceLH (lo := i) (hi := i + mm) es22 rfl rfl rfl rfl rfl (by omega) (by omega)) rfl ?_
                refine wl_set 98 (v' := .slice (some ⟨b2, o2 + i, none⟩) mm (c2 - i)) rfl (slice_cut (by omega)) ?_
                refine wl_ov (ov_len es22 rfl) rfl ?_
                refine wl_ov (ov_move rfl) rfl ?_
                refine wl_nil ?_
                refine nx_then ?_
                refine gw_block ?_
                obtain ⟨MN, hMN⟩ : ∃ b : Bool, b = decide (((mm : Nat) : Int) = min 7 (((n2 : Nat) : Int) - ((i : Nat) : Int))) := ⟨_, rfl⟩
                refine gw_set 13 (v' := .bool MN) rfl (congrArg Value.bool hMN.symm) ?_
                refine gw_loop (γ := Nat × Bool) (fun (g : Nat × Bool) => g.1 ≤ mm ∧ g.2 = (MN && ((sea.drop i).take g.1).all (fun y => decide (y = ((kk : Nat) : Int))))) (fun (g : Nat × Bool) => [(1, .int .i64 kd), (2, .int .i64 ((i : Nat) : Int)), (4, .pointer (some ⟨g1, 0, none⟩)), (8, .int .i64 0), (9, .bool false), (12, .int .i64 wk), (13, .bool g.2), (98, .slice (some ⟨b2, o2 + i, none⟩) mm (c2 - i)), (99, .int .i64 ((mm : Nat) : Int)), (100, .int .i64 ((g.1 : Nat) : Int))]) (fun (g : Nat × Bool) => fun _ => True) (fun (g : Nat × Bool) => [(g2, 47, [.string cl, .int .i64 rf, .int .i64 rt, .int .i64 ho, .int .i64 dd, .int .i64 we, .int .i64 wk]), (g1, 54, [.slice (some ⟨b, off, none⟩) n c0, .int .i64 fr, .int .i64 tt, .slice (some ⟨b2, o2, none⟩) n2 c2])]) (fun (g : Nat × Bool) => []) (fun (g : Nat × Bool) => [SlOld rtEnc 7 47 w.heap.size none (some ⟨b, off, none⟩) n l, SlOld itEnc 1 3 w.heap.size none (some ⟨b2, o2, none⟩) n2 sea]) (fun (g : Nat × Bool) => mm - g.1) (0, MN) ⟨Nat.zero_le _, by simp⟩ ⟨rfl, rfl, rfl, rfl, rfl, rfl, rfl, rfl, rfl, rfl, trivial⟩ (fun _ hm => hm.pick [0, 1] [] [0, 1] rfl rfl) ?_
                rintro ⟨j, bb⟩ hinv
                replace hinv : j ≤ mm ∧ bb = (MN && ((sea.drop i).take j).all (fun y => decide (y = ((kk : Nat) : Int)))) := hinv
                dsimp only
                refine gw_seq ?_
                refine gw_region ?_
                obtain ⟨hj0, hj1⟩ := hinv
                refine wl_ov (ov_lss rfl rfl) rfl ?_
                refine wl_nil ?_
                refine nx_then ?_
                refine gw_seq ?_
                refine gw_cond rfl (fun hh => ?_) (fun hh => ?_)
                · have hj : ((j : Nat) : Int) < ((mm : Nat) : Int) := by simpa using hh
                  clear hh
                  refine gw_skip ?_
                  refine nx_then ?_
                  refine gw_seq ?_
                  refine gw_block ?_
                  refine gw_seq ?_
                  refine gw_region ?_
                  obtain ⟨xj, hxj⟩ : ∃ x, sea[i + j]? = some x := ⟨_, List.getElem?_eq_getElem (by omega)⟩
                  have hst := same_step (k := ((kk : Nat) : Int)) hxj
                  refine wl_ov (ov_index (j := j) es22 rfl rfl (by omega)) rfl ?_
                  refine wl_ov (ov_elem1 (k := 0) (v := .int .i64 xj) sc3 rfl (fun _ hm => (SlT.cut (hm.fact 1 rfl).1 himm hi)) (show ((sea.drop i).take mm)[j]? = some xj by rw [List.getElem?_take, if_pos (by omega), List.getElem?_drop]; exact hxj) rfl rfl) rfl ?_
                  refine wl_ov (ov_assign rfl) rfl ?_
                  refine wl_nil ?_
                  refine nx_then ?_
                  refine gw_region ?_
                  refine wl_ov (ov_move rfl) rfl ?_
                  refine wl_ov (ov_move rfl) rfl ?_
                  rcases Bool.eq_false_or_eq_true bb with hb | hb
                  · refine wl_set 105 rfl (congrArg Value.bool hb) ?_
                    refine wl_guard_on rfl rfl rfl ?_
                    refine wl_ov (ov_move rfl) rfl ?_
                    refine wl_guard_on rfl rfl rfl ?_
                    refine wl_ov (ov_field fo54_2 rfl rfl) rfl ?_
                    refine wl_guard_on rfl rfl rfl ?_
                    refine wl_ov (ov_load sc22 rfl (fun _ hm => hm.blkI 1 rfl) rfl) rfl ?_
                    refine wl_guard_on rfl rfl rfl ?_
                    refine wl_ov (ov_move rfl) rfl ?_
                    refine wl_guard_on rfl rfl rfl ?_
                    refine wl_ov (ov_index (j := i) es22 rfl rfl (by omega)) rfl ?_
                    refine wl_guard_on rfl rfl rfl ?_
                    refine wl_ov (ov_elem1 (k := 0) (v := .int .i64 ((kk : Nat) : Int)) sc3 rfl (fun _ hm => (hm.fact 1 rfl).1) hk0 rfl rfl) rfl ?_
                    refine wl_guard_on rfl rfl rfl ?_
                    refine wl_ov (ov_eql rfl rfl) rfl ?_
                    refine wl_ov (ov_pick_t rfl rfl) rfl ?_
                    refine wl_ov (ov_assign rfl) rfl ?_
                    refine wl_nil ?_
                    refine nx_blk_nrm ?_
                    refine nx_then ?_
                    refine gw_region ?_
                    refine wl_ov (ov_add rfl rfl (by omega) (by omega)) rfl ?_
                    refine wl_ov (ov_move rfl) rfl ?_
                    refine wl_nil ?_
                    exact nx_round (j + 1, decide (xj = ((kk : Nat) : Int))) ⟨by dsimp only; omega, by dsimp only; rw [hst, ← Bool.and_assoc, ← hj1, hb]; rfl⟩ (by dsimp only; omega) ⟨rfl, rfl, rfl, rfl, rfl, rfl, rfl, rfl, rfl, (some_int (by omega)), trivial⟩ (fun _ hm => hm.pick [0, 1] [] [0, 1] rfl rfl)
                  · refine wl_set 105 rfl (congrArg Value.bool hb) ?_
                    refine wl_guard_off rfl rfl rfl (by decide) rfl ?_
                    refine wl_guard_off rfl rfl rfl (by decide) rfl ?_
                    refine wl_guard_off rfl rfl rfl (by decide) rfl ?_
                    refine wl_guard_off rfl rfl rfl (by decide) rfl ?_
                    refine wl_guard_off rfl rfl rfl (by decide) rfl ?_
                    refine wl_guard_off rfl rfl rfl (by decide) rfl ?_
                    refine wl_guard_off rfl rfl rfl (by decide) rfl ?_
                    refine wl_ov (ov_pick_f rfl rfl) rfl ?_
                    refine wl_ov (ov_assign rfl) rfl ?_
                    refine wl_nil ?_
                    refine nx_blk_nrm ?_
                    refine nx_then ?_
                    refine gw_region ?_
                    refine wl_ov (ov_add rfl rfl (by omega) (by omega)) rfl ?_
                    refine wl_ov (ov_move rfl) rfl ?_
                    refine wl_nil ?_
                    exact nx_round (j + 1, false) ⟨by dsimp only; omega, by dsimp only; rw [hst, ← Bool.and_assoc, ← hj1, hb]; rfl⟩ (by dsimp only; omega) ⟨rfl, rfl, rfl, rfl, rfl, rfl, rfl, rfl, rfl, (some_int (by omega)), trivial⟩ (fun _ hm => hm.pick [0, 1] [] [0, 1] rfl rfl)
                · have hj : ¬ (((j : Nat) : Int) < ((mm : Nat) : Int)) := by simpa using hh
                  clear hh
                  refine gw_exit ?_
                  refine nx_then_exit ?_
                  refine nx_then_exit ?_
                  refine nx_blk_here ?_
                  refine nx_blk_nrm ?_
                  refine nx_then ?_
                  refine gw_seq ?_
                  refine gw_seq ?_
                  refine gw_region ?_
                  have hjm : j = mm := by omega
                  subst hjm
                  refine wl_ov (ov_move rfl) rfl ?_
                  refine wl_ov (ov_un_not rfl) rfl ?_
                  refine wl_ov (ov_move rfl) rfl ?_
                  rcases Bool.eq_false_or_eq_true (!bb) with hb | hb
                  · refine wl_set 117 rfl (congrArg Value.bool hb) ?_
                    have hno : ¬ (((j : Nat) : Int) = min 7 (((n2 : Nat) : Int) - ((i : Nat) : Int)) ∧ ∀ y ∈ (sea.drop i).take j, some ((kk : Nat) : Int) = some y) := by
                      have hb : bb = false := by simpa using hb
                      rw [hj1, hMN] at hb
                      rintro ⟨h1, h2⟩
                      rw [decide_eq_true h1, all_same.2 h2] at hb
                      cases hb
                    refine wl_guard_off rfl rfl rfl (by decide) rfl ?_
                    refine wl_guard_off rfl rfl rfl (by decide) rfl ?_
                    refine wl_ov (ov_pick_t rfl rfl) rfl ?_
                    refine wl_nil ?_
                    refine nx_then ?_
                    refine gw_cond rfl (fun _ => ?_) (fun hh => by cases hh)
                    refine gw_seq ?_
                    refine gw_region ?_
                    refine wl_ov (ov_assign rfl) rfl ?_
                    refine wl_ov (ov_assign rfl) rfl ?_
                    refine wl_nil ?_
                    refine nx_then ?_
                    refine gw_ret ?_
                    refine nx_then_ret ?_
                    refine nx_ret2 rfl rfl rfl fun wx hm => ?_
                    have hP : priceK ⟨cl, rf, rt, ho, dd, we, wk⟩ sea fr tt kd i ((j : Nat) : Int) = none := by
                      unfold priceK
                      rw [if_neg hk1, if_neg hk2, if_neg hk3, if_pos hk, Int.toNat_natCast, hk0, hslen]; rw [if_neg (fun h => hno h.1)]
                    refine ⟨?_, hm.g⟩
                    rw [hgo, hP]; rfl
                  · refine wl_set 117 rfl (congrArg Value.bool hb) ?_
                    have hys : ((j : Nat) : Int) = min 7 (((n2 : Nat) : Int) - ((i : Nat) : Int)) ∧ ∀ y ∈ (sea.drop i).take j, some ((kk : Nat) : Int) = some y := by
                      have hb : bb = true := by simpa using hb
                      rw [hj1, hMN, Bool.and_eq_true] at hb
                      exact ⟨of_decide_eq_true hb.1, all_same.1 hb.2⟩
                    obtain ⟨hmin, hsame⟩ := hys
                    refine wl_guard_on rfl rfl rfl ?_
                    refine wl_ov (ov_move rfl) rfl ?_
                    refine wl_guard_on rfl rfl rfl ?_
                    refine wl_ov (ov_lss rfl rfl) rfl ?_
                    refine wl_ov (ov_pick_f rfl rfl) rfl ?_
                    refine wl_nil ?_
                    refine nx_then ?_
                    refine gw_cond rfl (fun hh => ?_) (fun hh => ?_)
                    · have hz : wk < 0 := by simpa using hh
                      clear hh
                      refine gw_seq ?_
                      refine gw_region ?_
                      refine wl_ov (ov_assign rfl) rfl ?_
                      refine wl_ov (ov_assign rfl) rfl ?_
                      refine wl_nil ?_
                      refine nx_then ?_
                      refine gw_ret ?_
                      refine nx_then_ret ?_
                      refine nx_ret2 rfl rfl rfl fun wx hm => ?_
                      have hP : priceK ⟨cl, rf, rt, ho, dd, we, wk⟩ sea fr tt kd i ((j : Nat) : Int) = none := by
                        unfold priceK
                        rw [if_neg hk1, if_neg hk2, if_neg hk3, if_pos hk, Int.toNat_natCast, hk0, hslen]; rw [if_neg (fun h => absurd h.2 (show ¬ 0 ≤ wk by omega))]
                      refine ⟨?_, hm.g⟩
                      rw [hgo, hP]; rfl
                    · have hz : ¬ (wk < 0) := by simpa using hh
                      clear hh
                      refine gw_skip ?_
                      refine nx_then ?_
                      refine gw_seq ?_
                      refine gw_seq ?_
                      refine gw_region ?_
                      refine wl_ov (ov_move rfl) rfl ?_
                      refine wl_ov (ov_eql rfl rfl) rfl ?_
                      refine wl_set 122 (v' := .bool false) rfl (congrArg Value.bool (decide_eq_false (by omega))) ?_
                      refine wl_nil ?_
                      refine nx_then ?_
                      refine gw_cond rfl (fun hh => by cases hh) (fun _ => ?_)
                      refine gw_skip ?_
                      refine nx_then ?_
                      refine gw_seq ?_
                      refine gw_region ?_
                      refine wl_ov (ov_move rfl) rfl ?_
                      refine wl_ov (ov_assign rfl) rfl ?_
                      refine wl_ov (ov_assign rfl) rfl ?_
                      refine wl_nil ?_
                      refine nx_then ?_
                      refine gw_ret ?_
                      refine nx_ret2 rfl rfl rfl fun wx hm => ?_
                      have hP : priceK ⟨cl, rf, rt, ho, dd, we, wk⟩ sea fr tt kd i ((j : Nat) : Int) = some (wk) := by
                        unfold priceK
                        rw [if_neg hk1, if_neg hk2, if_neg hk3, if_pos hk, Int.toNat_natCast, hk0, hslen]; rw [if_pos ⟨⟨hmin, hsame⟩, (show 0 ≤ wk by omega)⟩]
                      refine ⟨?_, hm.g⟩
                      rw [hgo, hP]; rfl
              · have hk : ¬ (kd = 4) := by simpa using hh
                clear hh
                refine gw_skip ?_
                refine nx_blk_nrm ?_
                refine nx_then ?_
                refine gw_seq ?_
                refine gw_seq ?_
                refine gw_region ?_
                have hk1 : ¬ kd = 1 := by omega
                have hk2 : ¬ kd = 2 := by omega
                have hk3 : ¬ kd = 3 := by omega
                refine wl_ov (ov_move rfl) rfl ?_
                refine wl_ov (ov_un_not rfl) rfl ?_
                refine wl_ov (ov_move rfl) rfl ?_
                rcases Bool.eq_false_or_eq_true (!(decide (((mm : Nat) : Int) = 1))) with hmm1 | hmm1
                · refine wl_set 117 rfl (congrArg Value.bool hmm1) ?_
                  refine wl_guard_off rfl rfl rfl (by decide) rfl ?_
                  refine wl_guard_off rfl rfl rfl (by decide) rfl ?_
                  refine wl_ov (ov_pick_t rfl rfl) rfl ?_
                  refine wl_nil ?_
                  refine nx_then ?_
                  refine gw_cond rfl (fun _ => ?_) (fun hh => by cases hh)
                  refine gw_seq ?_
                  refine gw_region ?_
                  refine wl_ov (ov_assign rfl) rfl ?_
                  refine wl_ov (ov_assign rfl) rfl ?_
                  refine wl_nil ?_
                  refine nx_then ?_
                  refine gw_ret ?_
                  refine nx_then_ret ?_
                  refine nx_ret2 rfl rfl rfl fun wx hm => ?_
                  have hP : priceK ⟨cl, rf, rt, ho, dd, we, wk⟩ sea fr tt kd i ((mm : Nat) : Int) = none := by
                    unfold priceK
                    rw [if_neg hk1, if_neg hk2, if_neg hk3, if_neg hk]
                  refine ⟨?_, hm.g⟩
                  rw [hgo, hP]; rfl
                · refine wl_set 117 rfl (congrArg Value.bool hmm1) ?_
                  refine wl_guard_on rfl rfl rfl ?_
                  refine wl_ov (ov_move rfl) rfl ?_
                  refine wl_guard_on rfl rfl rfl ?_
                  refine wl_ov (ov_lss rfl rfl) rfl ?_
                  refine wl_set 119 (v' := .bool true) rfl (congrArg Value.bool (by decide)) ?_
                  refine wl_ov (ov_pick_f rfl rfl) rfl ?_
                  refine wl_nil ?_
                  refine nx_then ?_
                  refine gw_cond rfl (fun _ => ?_) (fun hh => by cases hh)
                  refine gw_seq ?_
                  refine gw_region ?_
                  refine wl_ov (ov_assign rfl) rfl ?_
                  refine wl_ov (ov_assign rfl) rfl ?_
                  refine wl_nil ?_
                  refine nx_then ?_
                  refine gw_ret ?_
                  refine nx_then_ret ?_
                  refine nx_ret2 rfl rfl rfl fun wx hm => ?_
                  have hP : priceK ⟨cl, rf, rt, ho, dd, we, wk⟩ sea fr tt kd i ((mm : Nat) : Int) = none := by
                    unfold priceK
                    rw [if_neg hk1, if_neg hk2, if_neg hk3, if_neg hk]
                  refine ⟨?_, hm.g⟩
                  rw [hgo, hP]; rfl

end Go.Proofs.Ytcggbojhalbkjaa
