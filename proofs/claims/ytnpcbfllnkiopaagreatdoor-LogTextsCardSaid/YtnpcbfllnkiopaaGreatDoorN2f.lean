/- Several texts as one: Lgc Rdk Lgd Lo Xa Twt Lge -/
import Derived.Test.YtnpcbfllnkiopaaGreatDoorN2e
import Derived.Test.YtnpcbfllnkiopaaGreatDoorN2a
import Derived.Test.YtnpcbfllnkiopaaGreatDoorN2b
import Derived.Lay
import Derived.LaidSub
import Derived.MakeChecks
import Derived.Stop.LaidErr
import Derived.Lib.LaidU8
import Derived.Shelf.Vars
import Derived.Test.YtnpcbfllnkiopaaGreatDoorN2c
set_option maxRecDepth 100000
set_option maxHeartbeats 4000000
namespace Go.Proofs.YtnpcbfllnkiopaaGreatDoor
open Go.RowKit
theorem lgW_t {a0 a2 : ByteArray} {n : Nat} (h0 : numB a0 = true) (h1 : 1 ≤ kixV a2) (h5 : kixV a2 = 6 → n = 5) (h4 : ¬ kixV a2 = 6 → n = 4) : lgW a0 a2 n = true := by
  unfold lgW
  rw [h0, decide_eq_true h1]
  by_cases h : kixV a2 = 6
  · rw [if_pos h, decide_eq_true (h5 h)]; rfl
  · rw [if_neg h, decide_eq_true (h4 h)]; rfl
theorem lgW_f {a0 a2 : ByteArray} {n : Nat} (h : numB a0 = true → 1 ≤ kixV a2 → (kixV a2 = 6 → n = 5) → (¬ kixV a2 = 6 → n = 4) → False) : lgW a0 a2 n = false := by
  cases hw : lgW a0 a2 n with
  | false => rfl
  | true =>
    unfold lgW at hw
    simp only [Bool.and_eq_true, decide_eq_true_eq] at hw
    refine (h hw.1.1 hw.1.2 (fun e => ?_) (fun e => ?_)).elim
    · have h2 := hw.2; rw [if_pos e] at h2; exact h2
    · have h2 := hw.2; rw [if_neg e] at h2; exact h2
theorem list_one {l : List ByteArray} (h : 4 + l.length = 5) : ∃ a, l = [a] := List.length_eq_one_iff.1 (by omega)
theorem list_none {l : List ByteArray} (h : 4 + l.length = 4) : l = [] := List.eq_nil_of_length_eq_zero (by omega)
theorem sc47' : scalarB Tryz.prog 47 = true := by kernel_rfl
theorem lgRead1_any (t : ByteArray) (w0 w : World) (g n : Nat) (v : Value) (acc : List Ev) (hts : t.size ≤ 1000000) (hn : n ≤ 1000000) (hm : Mem ⟨0, w0, some g, [9, 3]⟩ (RowK 0 47 1 1 1 g ([v].flatMap svEnc)) [] [⟨v, 54, 5, n, (acc).flatMap evEnc⟩] [TxtO w0.heap.size (some g)] w) :
  Calls Tryz.prog 107 #[.string t, .pointer (some ⟨g, 0, none⟩)] w (fun e w' => ∃ v' n', e = .returned (.bool (lgRdB t)) ∧ Mem ⟨0, w0, some g, [9, 3]⟩ (RowK 0 47 1 1 1 g ([v'].flatMap svEnc)) [] [⟨v', 54, 5, n', (lgRdA t acc).flatMap evEnc⟩] [TxtO w0.heap.size (some g)] w') := by
 refine gw_enter ⟨67, w0, (some g), [9, 3]⟩ Tryz.func107 rfl Tryz.ntmps107 rfl hm.cx ?_
 refine sr_ ?_
 by_cases h4 : 4 ≤ (wdL t).length
 ·obtain ⟨a0, a1, a2, a3, rr, hw⟩ := lg_four h4
  have hwz := wdL_sz t
  rw [hw] at hwz
  have za0 : a0.size ≤ 1000000 := Nat.le_trans (hwz a0 (by simp)) hts
  have za1 : a1.size ≤ 1000000 := Nat.le_trans (hwz a1 (by simp)) hts
  have za2 : a2.size ≤ 1000000 := Nat.le_trans (hwz a2 (by simp)) hts
  have za3 : a3.size ≤ 1000000 := Nat.le_trans (hwz a3 (by simp)) hts
  have hkx := kix_bd a2
  refine sg_ rfl (nn_ (sr_ (mv_ rfl ?_)))
  refine wl_callx (γ := Nat × Nat) (val := (fun g => .tuple #[.slice (some ⟨g.1, 0, none⟩) g.2 g.2, .bool (wdB t)])) (φ := (fun g => g.2 = (4 + rr.length) ∧ g.2 ≤ t.size + 1)) (Y := (fun g => fun wy => SlT sgEnc 1 9 wy (some ⟨g.1, 0, none⟩) g.2 (a0 :: a1 :: a2 :: a3 :: rr))) rfl cb68 rfl rfl (fun wx hm => (words_any t wx (hm.fact 0 rfl).1 hts).mono fun _ _ ⟨gw, k, he, h1, h2, hg⟩ => ⟨(gw, k), he, ⟨by have h := h1.len; rw [hw] at h; simp only [List.length_cons] at h; omega, h2.2⟩, hg, by rw [hw] at h1; exact h1⟩) (fun _ => SlT.lasts2 rfl) ?_
  rintro ⟨gw, k⟩ hk
  dsimp only at hk ⊢
  obtain ⟨hk, hkt⟩ := hk
  subst hk
  refine mv_ rfl (wl_ov (ov_extract rfl rfl) rfl (wl_ov (ov_extract rfl rfl) rfl (sg_ rfl (sg_ rfl (nn_ (gw_seq (sr_ (mv_ rfl (wl_ov (ov_un_not rfl) rfl (mv_ rfl ?_))))))))))
  rcases Bool.eq_false_or_eq_true (!(wdB t)) with h1 | h1
  ·refine wl_set 16 rfl (congrArg Value.bool h1) ?_
   refine goff rfl rfl rfl (goff rfl rfl rfl (goff rfl rfl rfl (pt_ rfl rfl (nn_ (ct_ rfl (sr_ (sg_ rfl (nn_ ?_))))))))
   refine gw_ret ?_
   refine nx_then_ret ?_
   obtain ⟨hN1, hN2⟩ := lg_none (acc := acc) (lg_wd h1)
   rw [hN1]
   refine nx_ret1 rfl rfl fun wx hm => ?_
   exact ⟨v, n, by rw [hN2], (hm.pick [] [0] [1] rfl rfl).cx⟩
  refine wl_set 16 rfl (congrArg Value.bool h1) ?_
  refine wl_guard_on rfl rfl rfl (mv_ rfl (wl_guard_on rfl rfl rfl (wl_ov (ov_len es112 rfl) rfl (wl_guard_on rfl rfl rfl (wl_ov (ov_lss rfl rfl) rfl (pf_ rfl rfl (nn_ ?_)))))))
  refine gw_cond rfl (fun hh => ?_) (fun hh => ?_)
  ·have hc : (((4 + rr.length) : Nat) : Int) < 4 := by simpa using hh
   clear hh
   refine sr_ ?_
   exact absurd hc (by omega)
  have hc : ¬ ((((4 + rr.length) : Nat) : Int) < 4) := by simpa using hh
  clear hh
  refine gw_skip (nx_then (sr_ (mv_ rfl ?_)))
  refine wl_ov (ov_index (j := 0) es112 rfl rfl (by omega)) rfl ?_
  refine wl_ov (ov_elem1 (k := 0) (v := .string a0) sc9 rfl (fun _ hm => (hm.fact 0 rfl)) (show (a0 :: a1 :: a2 :: a3 :: rr : List ByteArray)[0]? = some a0 from rfl) rfl rfl) rfl ?_
  refine wl_callx (γ := Int) (val := (fun g => .tuple #[.int .i64 g, .bool (numB a0)])) (φ := (fun g => numB a0 = true → g = numV a0)) (Y := (fun g => fun _ => True)) rfl cb108 rfl rfl (fun wx hm => (number_any a0 wx (hm.fact 1 rfl).1 (by omega)).mono fun _ _ ⟨v, he, hv, hg⟩ => ⟨v, he, hv, hg, trivial⟩) (fun _ => Lasts2.true_) ?_
  rintro nv hnv
  refine mv_ rfl (wl_ov (ov_extract rfl rfl) rfl (wl_ov (ov_extract rfl rfl) rfl (sg_ rfl (sg_ rfl (nn_ ?_)))))
  refine gw_cut (γ := Nat) (I := (fun (gx : Nat) => True)) (S' := (fun (gx : Nat) => [(1, .pointer (some ⟨g, 0, none⟩)), (3, .bool false), (4, .slice (some ⟨gw, 0, none⟩) (4 + rr.length) (4 + rr.length)), (5, .bool (numB a0)), (7, .pointer (some ⟨gx, 0, none⟩))])) (K' := (fun (gx : Nat) => RowK 0 47 1 1 1 g ([v].flatMap svEnc))) (L' := (fun (gx : Nat) => [(gx, 54, [.int .i64 nv, .string a1, .string a3, .int .i64 (kixV a2), .string ⟨#[]⟩])])) (O' := (fun (gx : Nat) => [⟨v, 54, 5, n, acc.flatMap evEnc⟩])) (X' := (fun (gx : Nat) => [fun _ => True, fun wy => SlT sgEnc 1 9 wy (some ⟨gw, 0, none⟩) (4 + rr.length) (a0 :: a1 :: a2 :: a3 :: rr), TxtO w0.heap.size (some g)])) ?_ ?_
  ·refine gd (fun wz => (fun _ => True) wz ∧ (fun wy => SlT sgEnc 1 9 wy (some ⟨gw, 0, none⟩) (4 + rr.length) (a0 :: a1 :: a2 :: a3 :: rr)) wz ∧ (TxtO w0.heap.size (some g)) wz ∧ True) mixed (fun _ hm => ⟨hm.fa 0, hm.fa 1, hm.fa 2, trivial⟩) fun z => ?_
   refine wt 0 15 1 rfl z (ov_move rfl) ?_
   refine wt 1 15 3 rfl z (ov_move rfl) ?_
   refine wt 2 15 7 rfl z (ov_index (j := 1) es112 rfl rfl (by omega)) ?_
   refine wt 3 15 15 rfl z (ov_elem1 (k := 0) (v := .string a1) sc9 rfl (fun _ hm => (hm.2.1)) (show (a0 :: a1 :: a2 :: a3 :: rr : List ByteArray)[1]? = some a1 from rfl) rfl rfl) ?_
   refine wt 5 15 47 rfl z (ov_move rfl) ?_
   refine wt 6 15 111 rfl z (ov_index (j := 2) es112 rfl rfl (by omega)) ?_
   refine wt 7 15 239 rfl z (ov_elem1 (k := 0) (v := .string a2) sc9 rfl (fun _ hm => (hm.2.1)) (show (a0 :: a1 :: a2 :: a3 :: rr : List ByteArray)[2]? = some a2 from rfl) rfl rfl) ?_
   refine wt 9 15 751 rfl z (ov_move rfl) ?_
   refine wt 10 15 1775 rfl z (ov_index (j := 3) es112 rfl rfl (by omega)) ?_
   refine wt 11 15 3823 rfl z (ov_elem1 (k := 0) (v := .string a3) sc9 rfl (fun _ hm => (hm.2.1)) (show (a0 :: a1 :: a2 :: a3 :: rr : List ByteArray)[3]? = some a3 from rfl) rfl rfl) ?_
   refine wa_all [4, 13] (by kernel_rfl) rfl ⟨⟨_, rfl, ?_⟩, ⟨_, rfl, ?_⟩, trivial⟩
   ·refine wl_callx (γ := Nat) (val := (fun g => .slice (some ⟨g, 0, none⟩) 9 9)) (φ := (fun g => True)) (Y := (fun g => fun wy => SlT sgEnc 1 9 wy (some ⟨g, 0, none⟩) 9 kindsL)) rfl cb101 rfl rfl (fun wx hm => (kinds_any wx).mono fun _ _ ⟨g, he, h1, hg⟩ => ⟨g, he, trivial, hg, h1⟩) (fun _ => SlT.lasts2 rfl) ?_
    rintro gk7 hphi
    clear hphi
    refine wl_nil ?_
    refine nw 15 3839 (fun _ hm => ⟨hm.fa 1, hm.fa 2, hm.fa 3, trivial⟩) fun z => ?_
    refine wa_all [8, 13] (by kernel_rfl) rfl ⟨⟨_, rfl, ?_⟩, ⟨_, rfl, ?_⟩, trivial⟩
    ·refine wl_callv (v := .int .i64 (kixV a2)) rfl cb109 rfl rfl (fun wx hm => (by have h := tIndex_any kindsL (some ⟨gk7, 0, none⟩) 9 9 a2 wx (hm.fact 0 rfl) (by omega); exact h)) ?_
     refine wl_nil ?_
     refine nw 15 4095 (fun _ hm => ⟨hm.fa 1, hm.fa 2, hm.fa 3, trivial⟩) fun z => ?_
     refine wt 12 15 8191 rfl z (ov_build (cs := [.int .i64 nv, .string a1, .string a3, .int .i64 (kixV a2), .string ⟨#[]⟩]) rfl (by kernel_rfl)) ?_
     refine wa1 13 rfl ?_
     refine wl_alloc zc54 rfl fun g2 => ?_
     refine wl_nil ?_
     refine nw 15 16383 (fun _ hm => ⟨hm.fa 1, hm.fa 2, hm.fa 3, trivial⟩) fun z => ?_
     refine wa1 14 rfl ?_
     refine wl_stores (cs' := [.int .i64 nv, .string a1, .string a3, .int .i64 (kixV a2), .string ⟨#[]⟩]) 0 rz54 rfl rfl rfl rfl rfl rfl rfl rfl ?_
     refine wl_nil ?_
     refine nw 15 32767 (fun _ hm => ⟨hm.fa 1, hm.fa 2, hm.fa 3, trivial⟩) fun z => ?_
     refine wa_done (by kernel_rfl) ?_
     exact nx_meet g2 trivial ⟨rfl, rfl, rfl, rfl, rfl, trivial⟩ (fun _ hm => hm.pick [0] [0] [1, 2, 3] rfl rfl)
    refine wl_alloc zc54 rfl fun g3 => ?_
    refine wl_nil ?_
    refine nw 15 12031 (fun _ hm => ⟨hm.fa 1, hm.fa 2, hm.fa 3, trivial⟩) fun z => ?_
    refine wa1 8 rfl ?_
    refine wl_callv (v := .int .i64 (kixV a2)) rfl cb109 rfl rfl (fun wx hm => (by have h := tIndex_any kindsL (some ⟨gk7, 0, none⟩) 9 9 a2 wx (hm.fact 0 rfl) (by omega); exact h)) ?_
    refine wl_nil ?_
    refine nw 15 12287 (fun _ hm => ⟨hm.fa 1, hm.fa 2, hm.fa 3, trivial⟩) fun z => ?_
    refine wt 12 15 16383 rfl z (ov_build (cs := [.int .i64 nv, .string a1, .string a3, .int .i64 (kixV a2), .string ⟨#[]⟩]) rfl (by kernel_rfl)) ?_
    refine wa1 14 rfl ?_
    refine wl_stores (cs' := [.int .i64 nv, .string a1, .string a3, .int .i64 (kixV a2), .string ⟨#[]⟩]) 0 rz54 rfl rfl rfl rfl rfl rfl rfl rfl ?_
    refine wl_nil ?_
    refine nw 15 32767 (fun _ hm => ⟨hm.fa 1, hm.fa 2, hm.fa 3, trivial⟩) fun z => ?_
    refine wa_done (by kernel_rfl) ?_
    exact nx_meet g3 trivial ⟨rfl, rfl, rfl, rfl, rfl, trivial⟩ (fun _ hm => hm.pick [0] [0] [1, 2, 3] rfl rfl)
   refine wl_alloc zc54 rfl fun g4 => ?_
   refine wl_nil ?_
   refine nw 15 12015 (fun _ hm => ⟨hm.fa 0, hm.fa 1, hm.fa 2, trivial⟩) fun z => ?_
   refine wa1 4 rfl ?_
   refine wl_callx (γ := Nat) (val := (fun g => .slice (some ⟨g, 0, none⟩) 9 9)) (φ := (fun g => True)) (Y := (fun g => fun wy => SlT sgEnc 1 9 wy (some ⟨g, 0, none⟩) 9 kindsL)) rfl cb101 rfl rfl (fun wx hm => (kinds_any wx).mono fun _ _ ⟨g, he, h1, hg⟩ => ⟨g, he, trivial, hg, h1⟩) (fun _ => SlT.lasts2 rfl) ?_
   rintro gk7 hphi
   clear hphi
   refine wl_nil ?_
   refine nw 15 12031 (fun _ hm => ⟨hm.fa 1, hm.fa 2, hm.fa 3, trivial⟩) fun z => ?_
   refine wa1 8 rfl ?_
   refine wl_callv (v := .int .i64 (kixV a2)) rfl cb109 rfl rfl (fun wx hm => (by have h := tIndex_any kindsL (some ⟨gk7, 0, none⟩) 9 9 a2 wx (hm.fact 0 rfl) (by omega); exact h)) ?_
   refine wl_nil ?_
   refine nw 15 12287 (fun _ hm => ⟨hm.fa 1, hm.fa 2, hm.fa 3, trivial⟩) fun z => ?_
   refine wt 12 15 16383 rfl z (ov_build (cs := [.int .i64 nv, .string a1, .string a3, .int .i64 (kixV a2), .string ⟨#[]⟩]) rfl (by kernel_rfl)) ?_
   refine wa1 14 rfl ?_
   refine wl_stores (cs' := [.int .i64 nv, .string a1, .string a3, .int .i64 (kixV a2), .string ⟨#[]⟩]) 0 rz54 rfl rfl rfl rfl rfl rfl rfl rfl ?_
   refine wl_nil ?_
   refine nw 15 32767 (fun _ hm => ⟨hm.fa 1, hm.fa 2, hm.fa 3, trivial⟩) fun z => ?_
   refine wa_done (by kernel_rfl) ?_
   exact nx_meet g4 trivial ⟨rfl, rfl, rfl, rfl, rfl, trivial⟩ (fun _ hm => hm.pick [0] [0] [1, 2, 3] rfl rfl)
  intro gx hinv
  replace hinv : True := hinv
  refine sr_ (sg_ rfl (nn_ (gw_seq (sr_ (fd_ fo54_3 rfl rfl (lk_ sc3 0 rfl rfl rfl (wl_ov (ov_eql rfl rfl) rfl (nn_ ?_))))))))
  refine gw_cond rfl (fun hh => ?_) (fun hh => ?_)
  ·have hq1 : kixV a2 = 6 := by simpa using hh
   clear hh
   refine gw_region ?_
   have hq1p : kixV a2 = 6 := by simpa using hq1
   refine sg_ rfl (nn_ (gw_seq (sr_ (mv_ rfl (wl_ov (ov_un_not rfl) rfl (mv_ rfl ?_))))))
   rcases Bool.eq_false_or_eq_true (!(numB a0)) with hq2 | hq2
   ·refine wl_set 46 rfl (congrArg Value.bool hq2) ?_
    have hb : numB a0 = false := by simpa using hq2
    refine goff rfl rfl rfl (goff rfl rfl rfl (goff rfl rfl rfl (pt_ rfl rfl (mv_ rfl (goff rfl rfl rfl (goff rfl rfl rfl (goff rfl rfl rfl (goff rfl rfl rfl (pt_ rfl rfl (nn_ (ct_ rfl (gw_seq ?_))))))))))))
    refine gw_region (sg_ rfl (nn_ ?_))
    refine gw_ret ?_
    refine nx_then_ret ?_
    obtain ⟨hN1, hN2⟩ := lg_none (acc := acc) (lg_bad hw (lgW_f (fun e0 _ _ _ => by (rw [e0] at hb; cases hb))))
    rw [hN1]
    refine nx_ret1 rfl rfl fun wx hm => ?_
    exact ⟨v, n, by rw [hN2], (hm.pick [] [0] [2] rfl rfl).cx⟩
   refine wl_set 46 rfl (congrArg Value.bool hq2) ?_
   have hb : numB a0 = true := by simpa using hq2
   refine wl_guard_on rfl rfl rfl (fd_ fo54_3 rfl rfl (wl_guard_on rfl rfl rfl (lk_ sc3 0 rfl rfl rfl (wl_guard_on rfl rfl rfl (wl_ov (ov_lss rfl rfl) rfl (pf_ rfl rfl (mv_ rfl ?_)))))))
   rcases Bool.eq_false_or_eq_true (decide (kixV a2 < 1)) with hq3 | hq3
   ·refine wl_set 51 rfl (congrArg Value.bool hq3) ?_
    have hq3p : kixV a2 < 1 := by simpa using hq3
    refine goff rfl rfl rfl (goff rfl rfl rfl (goff rfl rfl rfl (goff rfl rfl rfl (pt_ rfl rfl (nn_ (ct_ rfl (sr_ (sg_ rfl (nn_ ?_)))))))))
    refine gw_ret ?_
    refine nx_then_ret ?_
    obtain ⟨hN1, hN2⟩ := lg_none (acc := acc) (lg_bad hw (lgW_f (fun _ e1 e5 e4 => by omega)))
    rw [hN1]
    refine nx_ret1 rfl rfl fun wx hm => ?_
    exact ⟨v, n, by rw [hN2], (hm.pick [] [0] [2] rfl rfl).cx⟩
   refine wl_set 51 rfl (congrArg Value.bool hq3) ?_
   have hq3p : ¬ (kixV a2 < 1) := by simpa using hq3
   refine wl_guard_on rfl rfl rfl (mv_ rfl (wl_guard_on rfl rfl rfl (wl_ov (ov_len es112 rfl) rfl (wl_guard_on rfl rfl rfl (mv_ rfl (wl_guard_on rfl rfl rfl (wl_ov (ov_neq rfl rfl) rfl (pf_ rfl rfl (nn_ ?_)))))))))
   refine gw_cond rfl (fun hh => ?_) (fun hh => ?_)
   ·have hq4 : ¬ ((((4 + rr.length) : Nat) : Int) = 5) := by simpa using hh
    clear hh
    refine sr_ ?_
    have hq4p : ¬ ((((4 + rr.length) : Nat) : Int) = 5) := by simpa using hq4
    refine sg_ rfl (nn_ ?_)
    refine gw_ret ?_
    refine nx_then_ret ?_
    obtain ⟨hN1, hN2⟩ := lg_none (acc := acc) (lg_bad hw (lgW_f (fun _ e1 e5 e4 => by omega)))
    rw [hN1]
    refine nx_ret1 rfl rfl fun wx hm => ?_
    exact ⟨v, n, by rw [hN2], (hm.pick [] [0] [2] rfl rfl).cx⟩
   have hq4 : (((4 + rr.length) : Nat) : Int) = 5 := by simpa using hh
   clear hh
   refine gw_skip (nx_then (gw_seq (sr_ ?_)))
   have hq4p : (((4 + rr.length) : Nat) : Int) = 5 := by simpa using hq4
   obtain ⟨a4, hrr⟩ := list_one (l := rr) (by omega)
   refine mv_ rfl (wl_ov (ov_eql rfl rfl) rfl ?_)
   refine wl_set 58 (v' := .bool true) rfl (congrArg Value.bool (by decide)) ?_
   refine nn_ (ct_ rfl (gw_region (mv_ rfl ?_)))
   refine wl_ov (ov_index (j := 4) es112 rfl rfl (by omega)) rfl ?_
   refine wl_ov (ov_elem1 (k := 0) (v := .string a4) sc9 rfl (fun _ hm => (hm.fact 1 rfl)) (show (a0 :: a1 :: a2 :: a3 :: rr : List ByteArray)[4]? = some a4 from by rw [hrr]; rfl) rfl rfl) rfl ?_
   refine fd_ fo54_4 rfl rfl ?_
   refine wl_store 0 sc9 rfl rfl rfl rfl rfl rfl ?_
   refine nn_ (sr_ ?_)
   refine wl_ov (ov_load (v := v) sc47 rfl (fun _ hm => (rowBlk1 hm.k)) rfl) rfl ?_
   refine wl_ov (ov_loads rz54 rfl (fun _ hm => hm.blkI 0 rfl) rfl rfl) rfl ?_
   refine wl_buildSlice (e := 54) (cs := [.int .i64 nv, .string a1, .string a3, .int .i64 (kixV a2), .string a4]) rfl (by kernel_rfl) rfl fun g5 => ?_
   obtain ⟨hS1, hS2⟩ := lg_some (acc := acc) (lg_good h1 hw (lgW_t hb (by omega) (fun _ => by omega) (fun _ => by omega)))
   rw [hrr] at hS1
   replace hS1 : lgRdA t acc = acc ++ [(⟨numV a0, a1, a3, kixV a2, a4⟩ : Ev)] := hS1
   obtain rfl := hnv hb
   refine wl_look (R := ∃ A cc, v = .slice A n cc) (fun wx hm => own_slice (hm.ownI 0 rfl)) ?_
   rintro ⟨A, cc, rfl⟩
   refine wl_append (news := [.int .i64 (numV a0), .string a1, .string a3, .int .i64 (kixV a2), .string a4]) 0 0 ap47 rfl rfl rfl rfl rfl rfl rfl (by omega) (by unfold maxLen; omega) rfl rfl fun v2 hv => ?_
   refine wl_look (R := ∃ A cc, v2 = .slice A (n + 1) cc) (fun wx hm => own_slice (hm.ownI 0 rfl)) ?_
   rintro ⟨A5, c5, rfl⟩
   refine wl_storeRow (l := [Value.slice A n cc]) (j := 0) (r := 0) (el := Value.slice A n cc) (el' := Value.slice A5 (n + 1) c5) rfl sc47' rfl rfl rfl sv_len rfl rfl rfl (by decide) rfl rfl ?_
   refine nn_ (sr_ (sg_ rfl (nn_ ?_)))
   refine gw_ret ?_
   rw [hS1]
   rw [show acc.flatMap evEnc ++ ([.int .i64 (numV a0), .string a1, .string a3, .int .i64 (kixV a2), .string a4] : List Value) = (acc ++ [(⟨numV a0, a1, a3, kixV a2, a4⟩ : Ev)]).flatMap evEnc from by simp [evEnc]]
   refine nx_ret1 rfl rfl fun wx hm => ?_
   exact ⟨.slice A5 (n + 1) c5, n + 1, by rw [hS2], (hm.pick [] [0] [2] rfl rfl).cx⟩
  have hq1 : ¬ (kixV a2 = 6) := by simpa using hh
  clear hh
  refine gw_skip (nx_then (gw_seq (sr_ ?_)))
  have hq1p : ¬ (kixV a2 = 6) := by simpa using hq1
  refine mv_ rfl (wl_ov (ov_un_not rfl) rfl (mv_ rfl ?_))
  rcases Bool.eq_false_or_eq_true (!(numB a0)) with hq5 | hq5
  ·refine wl_set 46 rfl (congrArg Value.bool hq5) ?_
   have hb : numB a0 = false := by simpa using hq5
   refine goff rfl rfl rfl (goff rfl rfl rfl (goff rfl rfl rfl (pt_ rfl rfl (mv_ rfl (goff rfl rfl rfl (goff rfl rfl rfl (goff rfl rfl rfl (goff rfl rfl rfl (pt_ rfl rfl (nn_ (ct_ rfl (gw_seq ?_))))))))))))
   refine gw_region (sg_ rfl (nn_ ?_))
   refine gw_ret ?_
   refine nx_then_ret ?_
   obtain ⟨hN1, hN2⟩ := lg_none (acc := acc) (lg_bad hw (lgW_f (fun e0 _ _ _ => by (rw [e0] at hb; cases hb))))
   rw [hN1]
   refine nx_ret1 rfl rfl fun wx hm => ?_
   exact ⟨v, n, by rw [hN2], (hm.pick [] [0] [2] rfl rfl).cx⟩
  refine wl_set 46 rfl (congrArg Value.bool hq5) ?_
  have hb : numB a0 = true := by simpa using hq5
  refine wl_guard_on rfl rfl rfl (fd_ fo54_3 rfl rfl (wl_guard_on rfl rfl rfl (lk_ sc3 0 rfl rfl rfl (wl_guard_on rfl rfl rfl (wl_ov (ov_lss rfl rfl) rfl (pf_ rfl rfl (mv_ rfl ?_)))))))
  rcases Bool.eq_false_or_eq_true (decide (kixV a2 < 1)) with hq6 | hq6
  ·refine wl_set 51 rfl (congrArg Value.bool hq6) ?_
   have hq6p : kixV a2 < 1 := by simpa using hq6
   refine goff rfl rfl rfl (goff rfl rfl rfl (goff rfl rfl rfl (goff rfl rfl rfl (pt_ rfl rfl (nn_ (ct_ rfl (sr_ (sg_ rfl (nn_ ?_)))))))))
   refine gw_ret ?_
   refine nx_then_ret ?_
   obtain ⟨hN1, hN2⟩ := lg_none (acc := acc) (lg_bad hw (lgW_f (fun _ e1 e5 e4 => by omega)))
   rw [hN1]
   refine nx_ret1 rfl rfl fun wx hm => ?_
   exact ⟨v, n, by rw [hN2], (hm.pick [] [0] [2] rfl rfl).cx⟩
  refine wl_set 51 rfl (congrArg Value.bool hq6) ?_
  have hq6p : ¬ (kixV a2 < 1) := by simpa using hq6
  refine wl_guard_on rfl rfl rfl (mv_ rfl (wl_guard_on rfl rfl rfl (wl_ov (ov_len es112 rfl) rfl (wl_guard_on rfl rfl rfl (mv_ rfl (wl_guard_on rfl rfl rfl (wl_ov (ov_neq rfl rfl) rfl (pf_ rfl rfl (nn_ ?_)))))))))
  refine gw_cond rfl (fun hh => ?_) (fun hh => ?_)
  ·have hq7 : ¬ ((((4 + rr.length) : Nat) : Int) = 4) := by simpa using hh
   clear hh
   refine sr_ ?_
   have hq7p : ¬ ((((4 + rr.length) : Nat) : Int) = 4) := by simpa using hq7
   refine sg_ rfl (nn_ ?_)
   refine gw_ret ?_
   refine nx_then_ret ?_
   obtain ⟨hN1, hN2⟩ := lg_none (acc := acc) (lg_bad hw (lgW_f (fun _ e1 e5 e4 => by omega)))
   rw [hN1]
   refine nx_ret1 rfl rfl fun wx hm => ?_
   exact ⟨v, n, by rw [hN2], (hm.pick [] [0] [2] rfl rfl).cx⟩
  have hq7 : (((4 + rr.length) : Nat) : Int) = 4 := by simpa using hh
  clear hh
  refine gw_skip (nx_then (gw_seq (sr_ ?_)))
  have hq7p : (((4 + rr.length) : Nat) : Int) = 4 := by simpa using hq7
  refine mv_ rfl (wl_ov (ov_eql rfl rfl) rfl ?_)
  refine wl_set 58 (v' := .bool false) rfl (congrArg Value.bool (by decide)) ?_
  refine nn_ (cf_ rfl (gw_skip (nx_then (sr_ ?_))))
  refine wl_ov (ov_load (v := v) sc47 rfl (fun _ hm => (rowBlk1 hm.k)) rfl) rfl ?_
  refine wl_ov (ov_loads rz54 rfl (fun _ hm => hm.blkI 0 rfl) rfl rfl) rfl ?_
  refine wl_buildSlice (e := 54) (cs := [.int .i64 nv, .string a1, .string a3, .int .i64 (kixV a2), .string ⟨#[]⟩]) rfl (by kernel_rfl) rfl fun g6 => ?_
  have hrr := list_none (l := rr) (by omega)
  obtain ⟨hS1, hS2⟩ := lg_some (acc := acc) (lg_good h1 hw (lgW_t hb (by omega) (fun _ => by omega) (fun _ => by omega)))
  rw [hrr] at hS1
  replace hS1 : lgRdA t acc = acc ++ [(⟨numV a0, a1, a3, kixV a2, ⟨#[]⟩⟩ : Ev)] := hS1
  obtain rfl := hnv hb
  refine wl_look (R := ∃ A cc, v = .slice A n cc) (fun wx hm => own_slice (hm.ownI 0 rfl)) ?_
  rintro ⟨A, cc, rfl⟩
  refine wl_append (news := [.int .i64 (numV a0), .string a1, .string a3, .int .i64 (kixV a2), .string ⟨#[]⟩]) 0 0 ap47 rfl rfl rfl rfl rfl rfl rfl (by omega) (by unfold maxLen; omega) rfl rfl fun v2 hv => ?_
  refine wl_look (R := ∃ A cc, v2 = .slice A (n + 1) cc) (fun wx hm => own_slice (hm.ownI 0 rfl)) ?_
  rintro ⟨A5, c5, rfl⟩
  refine wl_storeRow (l := [Value.slice A n cc]) (j := 0) (r := 0) (el := Value.slice A n cc) (el' := Value.slice A5 (n + 1) c5) rfl sc47' rfl rfl rfl sv_len rfl rfl rfl (by decide) rfl rfl ?_
  refine nn_ (sr_ (sg_ rfl (nn_ ?_)))
  refine gw_ret ?_
  rw [hS1]
  rw [show acc.flatMap evEnc ++ ([.int .i64 (numV a0), .string a1, .string a3, .int .i64 (kixV a2), .string ⟨#[]⟩] : List Value) = (acc ++ [(⟨numV a0, a1, a3, kixV a2, ⟨#[]⟩⟩ : Ev)]).flatMap evEnc from by simp [evEnc]]
  refine nx_ret1 rfl rfl fun wx hm => ?_
  exact ⟨.slice A5 (n + 1) c5, n + 1, by rw [hS2], (hm.pick [] [0] [2] rfl rfl).cx⟩
 refine sg_ rfl (nn_ (sr_ (mv_ rfl ?_)))
 refine wl_callx (γ := Nat × Nat) (val := (fun g => .tuple #[.slice (some ⟨g.1, 0, none⟩) g.2 g.2, .bool (wdB t)])) (φ := (fun g => g.2 = (wdL t).length ∧ 1 ≤ g.2 ∧ g.2 ≤ t.size + 1)) (Y := (fun g => fun wy => SlT sgEnc 1 9 wy (some ⟨g.1, 0, none⟩) g.2 (wdL t))) rfl cb68 rfl rfl (fun wx hm => (words_any t wx (hm.fact 0 rfl).1 hts).mono fun _ _ ⟨gw, k, he, h1, h2, hg⟩ => ⟨(gw, k), he, ⟨h1.len.symm, h2⟩, hg, h1⟩) (fun _ => SlT.lasts2 rfl) ?_
 rintro ⟨gw, k⟩ hk
 dsimp only at hk ⊢
 refine mv_ rfl (wl_ov (ov_extract rfl rfl) rfl (wl_ov (ov_extract rfl rfl) rfl (sg_ rfl (sg_ rfl (nn_ (gw_seq (sr_ (mv_ rfl (wl_ov (ov_un_not rfl) rfl (mv_ rfl ?_))))))))))
 rcases Bool.eq_false_or_eq_true (!(wdB t)) with h1 | h1
 ·refine wl_set 16 rfl (congrArg Value.bool h1) ?_
  refine goff rfl rfl rfl (goff rfl rfl rfl (goff rfl rfl rfl (pt_ rfl rfl (nn_ (ct_ rfl (sr_ (sg_ rfl (nn_ ?_))))))))
  refine gw_ret ?_
  refine nx_then_ret ?_
  obtain ⟨hN1, hN2⟩ := lg_none (acc := acc) (lg_wd h1)
  rw [hN1]
  refine nx_ret1 rfl rfl fun wx hm => ?_
  exact ⟨v, n, by rw [hN2], (hm.pick [] [0] [1] rfl rfl).cx⟩
 refine wl_set 16 rfl (congrArg Value.bool h1) ?_
 have hk2 : ((k : Nat) : Int) < 4 := by omega
 refine wl_guard_on rfl rfl rfl (mv_ rfl (wl_guard_on rfl rfl rfl (wl_ov (ov_len es112 rfl) rfl (wl_guard_on rfl rfl rfl (wl_ov (ov_lss rfl rfl) rfl (pf_ rfl rfl (nn_ ?_)))))))
 refine gw_cond rfl (fun hh => ?_) (fun hh => ?_)
 ·have hc : ((k : Nat) : Int) < 4 := by simpa using hh
  clear hh
  refine sr_ (sg_ rfl (nn_ ?_))
  refine gw_ret ?_
  refine nx_then_ret ?_
  obtain ⟨hN1, hN2⟩ := lg_none (acc := acc) (lg_short h4)
  rw [hN1]
  refine nx_ret1 rfl rfl fun wx hm => ?_
  exact ⟨v, n, by rw [hN2], (hm.pick [] [0] [1] rfl rfl).cx⟩
 have hc : ¬ (((k : Nat) : Int) < 4) := by simpa using hh
 clear hh
 refine gw_skip (nx_then (sr_ ?_))
 exact absurd hk2 (by simpa using hc)
theorem lgRread1_any (t : ByteArray) (w0 w : World) (g n : Nat) (v : Value) (acc : List Ev) (hts : t.size ≤ 1000000) (hn : n ≤ 1000000) (hm : Mem ⟨0, w0, some g, [9, 3]⟩ (RowK 0 47 1 1 1 g ([v].flatMap svEnc)) [] [⟨v, 54, 5, n, (acc).flatMap evEnc⟩] [TxtO w0.heap.size (some g)] w) :
  Calls Tryz.prog 121 #[.string t, .pointer (some ⟨g, 0, none⟩)] w (fun e w' => ∃ v' n', e = .returned (.bool (lgRdB t)) ∧ Mem ⟨0, w0, some g, [9, 3]⟩ (RowK 0 47 1 1 1 g ([v'].flatMap svEnc)) [] [⟨v', 54, 5, n', (lgRdA t acc).flatMap evEnc⟩] [TxtO w0.heap.size (some g)] w') := by
 refine gw_enter ⟨77, w0, (some g), [9, 3]⟩ Tryz.func121 rfl Tryz.ntmps121 rfl hm.cx ?_
 refine sr_ ?_
 by_cases h4 : 4 ≤ (wdL t).length
 ·obtain ⟨a0, a1, a2, a3, rr, hw⟩ := lg_four h4
  have hwz := wdL_sz t
  rw [hw] at hwz
  have za0 : a0.size ≤ 1000000 := Nat.le_trans (hwz a0 (by simp)) hts
  have za1 : a1.size ≤ 1000000 := Nat.le_trans (hwz a1 (by simp)) hts
  have za2 : a2.size ≤ 1000000 := Nat.le_trans (hwz a2 (by simp)) hts
  have za3 : a3.size ≤ 1000000 := Nat.le_trans (hwz a3 (by simp)) hts
  have hkx := kix_bd a2
  refine sg_ rfl (nn_ (sr_ (mv_ rfl ?_)))
  refine wl_callx (γ := Nat × Nat) (val := (fun g => .tuple #[.slice (some ⟨g.1, 0, none⟩) g.2 g.2, .bool (wdB t)])) (φ := (fun g => g.2 = (4 + rr.length) ∧ g.2 ≤ t.size + 1)) (Y := (fun g => fun wy => SlT sgEnc 1 9 wy (some ⟨g.1, 0, none⟩) g.2 (a0 :: a1 :: a2 :: a3 :: rr))) rfl cb72 rfl rfl (fun wx hm => (rwords_any t wx (hm.fact 0 rfl).1 hts).mono fun _ _ ⟨gw, k, he, h1, h2, hg⟩ => ⟨(gw, k), he, ⟨by have h := h1.len; rw [hw] at h; simp only [List.length_cons] at h; omega, h2.2⟩, hg, by rw [hw] at h1; exact h1⟩) (fun _ => SlT.lasts2 rfl) ?_
  rintro ⟨gw, k⟩ hk
  dsimp only at hk ⊢
  obtain ⟨hk, hkt⟩ := hk
  subst hk
  refine mv_ rfl (wl_ov (ov_extract rfl rfl) rfl (wl_ov (ov_extract rfl rfl) rfl (sg_ rfl (sg_ rfl (nn_ (gw_seq (sr_ (mv_ rfl (wl_ov (ov_un_not rfl) rfl (mv_ rfl ?_))))))))))
  rcases Bool.eq_false_or_eq_true (!(wdB t)) with h1 | h1
  ·refine wl_set 17 rfl (congrArg Value.bool h1) ?_
   refine goff rfl rfl rfl (goff rfl rfl rfl (goff rfl rfl rfl (pt_ rfl rfl (nn_ (ct_ rfl (sr_ (sg_ rfl (nn_ ?_))))))))
   refine gw_ret ?_
   refine nx_then_ret ?_
   obtain ⟨hN1, hN2⟩ := lg_none (acc := acc) (lg_wd h1)
   rw [hN1]
   refine nx_ret1 rfl rfl fun wx hm => ?_
   exact ⟨v, n, by rw [hN2], (hm.pick [] [0] [1] rfl rfl).cx⟩
  refine wl_set 17 rfl (congrArg Value.bool h1) ?_
  refine wl_guard_on rfl rfl rfl (mv_ rfl (wl_guard_on rfl rfl rfl (wl_ov (ov_len es112 rfl) rfl (wl_guard_on rfl rfl rfl (wl_ov (ov_lss rfl rfl) rfl (pf_ rfl rfl (nn_ ?_)))))))
  refine gw_cond rfl (fun hh => ?_) (fun hh => ?_)
  ·have hc : (((4 + rr.length) : Nat) : Int) < 4 := by simpa using hh
   clear hh
   refine sr_ ?_
   exact absurd hc (by omega)
  have hc : ¬ ((((4 + rr.length) : Nat) : Int) < 4) := by simpa using hh
  clear hh
  refine gw_skip (nx_then (sr_ (mv_ rfl ?_)))
  refine wl_ov (ov_index (j := 0) es112 rfl rfl (by omega)) rfl ?_
  refine wl_ov (ov_elem1 (k := 0) (v := .string a0) sc9 rfl (fun _ hm => (hm.fact 0 rfl)) (show (a0 :: a1 :: a2 :: a3 :: rr : List ByteArray)[0]? = some a0 from rfl) rfl rfl) rfl ?_
  refine wl_callx (γ := Int) (val := (fun g => .tuple #[.int .i64 g, .bool (numB a0)])) (φ := (fun g => numB a0 = true → g = numV a0)) (Y := (fun g => fun _ => True)) rfl cb122 rfl rfl (fun wx hm => (rnumber_any a0 wx (hm.fact 1 rfl).1 (by omega)).mono fun _ _ ⟨v, he, hv, hg⟩ => ⟨v, he, hv, hg, trivial⟩) (fun _ => Lasts2.true_) ?_
  rintro nv hnv
  refine mv_ rfl (wl_ov (ov_extract rfl rfl) rfl (wl_ov (ov_extract rfl rfl) rfl (sg_ rfl (sg_ rfl (nn_ (gw_seq ?_))))))
  refine gd (fun wz => (fun _ => True) wz ∧ (fun wy => SlT sgEnc 1 9 wy (some ⟨gw, 0, none⟩) (4 + rr.length) (a0 :: a1 :: a2 :: a3 :: rr)) wz ∧ (TxtO w0.heap.size (some g)) wz ∧ True) mixed (fun _ hm => ⟨hm.fa 0, hm.fa 1, hm.fa 2, trivial⟩) fun z => ?_
  refine wt 1 6 2 rfl z (ov_move rfl) ?_
  refine wt 2 6 6 rfl z (ov_index (j := 2) es112 rfl rfl (by omega)) ?_
  refine wt 3 6 14 rfl z (ov_elem1 (k := 0) (v := .string a2) sc9 rfl (fun _ hm => (hm.2.1)) (show (a0 :: a1 :: a2 :: a3 :: rr : List ByteArray)[2]? = some a2 from rfl) rfl rfl) ?_
  refine wa1 0 rfl ?_
  refine wl_callx (γ := Nat) (val := (fun g => .slice (some ⟨g, 0, none⟩) 9 9)) (φ := (fun g => True)) (Y := (fun g => fun wy => SlT sgEnc 1 9 wy (some ⟨g, 0, none⟩) 9 kindsL)) rfl cb103 rfl rfl (fun wx hm => (evWords_any wx).mono fun _ _ ⟨g, he, h1, hg⟩ => ⟨g, he, trivial, hg, h1⟩) (fun _ => SlT.lasts2 rfl) ?_
  rintro gk7 hphi
  clear hphi
  refine wl_nil ?_
  refine nw 6 15 (fun _ hm => ⟨hm.fa 1, hm.fa 2, hm.fa 3, trivial⟩) fun z => ?_
  refine wa1 4 rfl ?_
  refine wl_callv (v := .int .i64 (kixV a2)) rfl cb109 rfl rfl (fun wx hm => (by have h := tIndex_any kindsL (some ⟨gk7, 0, none⟩) 9 9 a2 wx (hm.fact 0 rfl) (by omega); exact h)) ?_
  refine wl_nil ?_
  refine nw 6 31 (fun _ hm => ⟨hm.fa 1, hm.fa 2, hm.fa 3, trivial⟩) fun z => ?_
  refine wt 5 6 63 rfl z (ov_assign rfl) ?_
  refine wa_done (by kernel_rfl) ?_
  refine nx_then (gw_seq (sr_ (mv_ rfl (wl_ov (ov_un_not rfl) rfl (mv_ rfl ?_)))))
  rcases Bool.eq_false_or_eq_true (!(numB a0)) with hq1 | hq1
  ·refine wl_set 36 rfl (congrArg Value.bool hq1) ?_
   have hb : numB a0 = false := by simpa using hq1
   refine goff rfl rfl rfl (goff rfl rfl rfl (pt_ rfl rfl (mv_ rfl (goff rfl rfl rfl (goff rfl rfl rfl (goff rfl rfl rfl (goff rfl rfl rfl (gnd rfl rfl rfl (gnd rfl rfl rfl (goff rfl rfl rfl (pt_ rfl rfl (mv_ rfl (goff rfl rfl rfl ?_)))))))))))))
   refine goff rfl rfl rfl (goff rfl rfl rfl (gnd rfl rfl rfl (gnd rfl rfl rfl (gnd rfl rfl rfl (goff rfl rfl rfl (pt_ rfl rfl (nn_ (ct_ rfl (sr_ (sg_ rfl (wl_nil ?_)))))))))))
   refine nx_then ?_
   refine gw_ret ?_
   refine nx_then_ret ?_
   obtain ⟨hN1, hN2⟩ := lg_none (acc := acc) (lg_bad hw (lgW_f (fun e0 _ _ _ => by (rw [e0] at hb; cases hb))))
   rw [hN1]
   refine nx_ret1 rfl rfl fun wx hm => ?_
   exact ⟨v, n, by rw [hN2], (hm.pick [] [0] [3] rfl rfl).cx⟩
  refine wl_set 36 rfl (congrArg Value.bool hq1) ?_
  have hb : numB a0 = true := by simpa using hq1
  refine wl_guard_on rfl rfl rfl (mv_ rfl (wl_guard_on rfl rfl rfl (wl_ov (ov_lss rfl rfl) rfl (pf_ rfl rfl (mv_ rfl ?_)))))
  rcases Bool.eq_false_or_eq_true (decide (kixV a2 < 1)) with hq2 | hq2
  ·refine wl_set 40 rfl (congrArg Value.bool hq2) ?_
   have hq2p : kixV a2 < 1 := by simpa using hq2
   refine goff rfl rfl rfl (goff rfl rfl rfl (goff rfl rfl rfl (goff rfl rfl rfl (gnd rfl rfl rfl (gnd rfl rfl rfl (goff rfl rfl rfl (pt_ rfl rfl (mv_ rfl (goff rfl rfl rfl (goff rfl rfl rfl (goff rfl rfl rfl (gnd rfl rfl rfl (gnd rfl rfl rfl ?_)))))))))))))
   refine gnd rfl rfl rfl (goff rfl rfl rfl (pt_ rfl rfl (nn_ (ct_ rfl (sr_ (sg_ rfl (nn_ ?_)))))))
   refine gw_ret ?_
   refine nx_then_ret ?_
   obtain ⟨hN1, hN2⟩ := lg_none (acc := acc) (lg_bad hw (lgW_f (fun _ e1 e5 e4 => by omega)))
   rw [hN1]
   refine nx_ret1 rfl rfl fun wx hm => ?_
   exact ⟨v, n, by rw [hN2], (hm.pick [] [0] [3] rfl rfl).cx⟩
  refine wl_set 40 rfl (congrArg Value.bool hq2) ?_
  have hq2p : ¬ (kixV a2 < 1) := by simpa using hq2
  refine wl_guard_on rfl rfl rfl (mv_ rfl (wl_guard_on rfl rfl rfl (wl_ov (ov_len es112 rfl) rfl (wl_guard_on rfl rfl rfl (wl_ov (ov_neq rfl rfl) rfl (wl_guard_on rfl rfl rfl (mv_ rfl ?_)))))))
  rcases Bool.eq_false_or_eq_true (!decide ((((4 + rr.length) : Nat) : Int) = 4)) with hq3 | hq3
  ·refine wl_set 44 rfl (congrArg Value.bool hq3) ?_
   have hq3p : ¬ ((((4 + rr.length) : Nat) : Int) = 4) := by simpa using hq3
   refine wl_guard_on rfl rfl rfl (mv_ rfl (wl_guard_on rfl rfl rfl (wl_ov (ov_neq rfl rfl) rfl (wl_guard_on rfl rfl rfl (pt_ rfl rfl (pf_ rfl rfl (mv_ rfl ?_)))))))
   rcases Bool.eq_false_or_eq_true (!decide (kixV a2 = 6)) with hq4 | hq4
   ·refine wl_set 49 rfl (congrArg Value.bool hq4) ?_
    have hq4p : ¬ (kixV a2 = 6) := by simpa using hq4
    refine goff rfl rfl rfl (goff rfl rfl rfl (goff rfl rfl rfl (gnd rfl rfl rfl (gnd rfl rfl rfl (gnd rfl rfl rfl (goff rfl rfl rfl (pt_ rfl rfl (nn_ (ct_ rfl (sr_ (sg_ rfl ?_)))))))))))
    refine nn_ ?_
    refine gw_ret ?_
    refine nx_then_ret ?_
    obtain ⟨hN1, hN2⟩ := lg_none (acc := acc) (lg_bad hw (lgW_f (fun _ e1 e5 e4 => by omega)))
    rw [hN1]
    refine nx_ret1 rfl rfl fun wx hm => ?_
    exact ⟨v, n, by rw [hN2], (hm.pick [] [0] [3] rfl rfl).cx⟩
   refine wl_set 49 rfl (congrArg Value.bool hq4) ?_
   have hq4p : kixV a2 = 6 := by simpa using hq4
   refine wl_guard_on rfl rfl rfl (mv_ rfl (wl_guard_on rfl rfl rfl (wl_ov (ov_eql rfl rfl) rfl (wl_guard_on rfl rfl rfl (mv_ rfl ?_)))))
   rcases Bool.eq_false_or_eq_true (decide (kixV a2 = 6)) with hq5 | hq5
   ·refine wl_set 52 rfl (congrArg Value.bool hq5) ?_
    have hq5p : kixV a2 = 6 := by simpa using hq5
    refine wl_guard_on rfl rfl rfl (mv_ rfl (wl_guard_on rfl rfl rfl (wl_ov (ov_len es112 rfl) rfl (wl_guard_on rfl rfl rfl (wl_ov (ov_neq rfl rfl) rfl (wl_guard_on rfl rfl rfl (pt_ rfl rfl (pf_ rfl rfl (nn_ ?_)))))))))
    refine gw_cond rfl (fun hh => ?_) (fun hh => ?_)
    ·have hq6 : ¬ ((((4 + rr.length) : Nat) : Int) = 5) := by simpa using hh
     clear hh
     refine sr_ ?_
     have hq6p : ¬ ((((4 + rr.length) : Nat) : Int) = 5) := by simpa using hq6
     refine sg_ rfl (nn_ ?_)
     refine gw_ret ?_
     refine nx_then_ret ?_
     obtain ⟨hN1, hN2⟩ := lg_none (acc := acc) (lg_bad hw (lgW_f (fun _ e1 e5 e4 => by omega)))
     rw [hN1]
     refine nx_ret1 rfl rfl fun wx hm => ?_
     exact ⟨v, n, by rw [hN2], (hm.pick [] [0] [3] rfl rfl).cx⟩
    have hq6 : (((4 + rr.length) : Nat) : Int) = 5 := by simpa using hh
    clear hh
    refine gw_skip (nx_then (gw_seq ?_))
    have hq6p : (((4 + rr.length) : Nat) : Int) = 5 := by simpa using hq6
    obtain ⟨a4, hrr⟩ := list_one (l := rr) (by omega)
    refine gd (fun wz => (fun wy => SlT sgEnc 1 9 wy (some ⟨gk7, 0, none⟩) 9 kindsL) wz ∧ (fun _ => True) wz ∧ (fun wy => SlT sgEnc 1 9 wy (some ⟨gw, 0, none⟩) (4 + rr.length) (a0 :: a1 :: a2 :: a3 :: rr)) wz ∧ (TxtO w0.heap.size (some g)) wz ∧ True) mixed (fun _ hm => ⟨hm.fa 0, hm.fa 1, hm.fa 2, hm.fa 3, trivial⟩) fun z => ?_
    refine wt 0 11 1 rfl z (ov_move rfl) ?_
    refine wt 1 11 3 rfl z (ov_move rfl) ?_
    refine wt 2 11 7 rfl z (ov_index (j := 1) es112 rfl rfl (by omega)) ?_
    refine wt 3 11 15 rfl z (ov_elem1 (k := 0) (v := .string a1) sc9 rfl (fun _ hm => (hm.2.2.1)) (show (a0 :: a1 :: a2 :: a3 :: rr : List ByteArray)[1]? = some a1 from rfl) rfl rfl) ?_
    refine wt 4 11 31 rfl z (ov_move rfl) ?_
    refine wt 5 11 63 rfl z (ov_index (j := 3) es112 rfl rfl (by omega)) ?_
    refine wt 6 11 127 rfl z (ov_elem1 (k := 0) (v := .string a3) sc9 rfl (fun _ hm => (hm.2.2.1)) (show (a0 :: a1 :: a2 :: a3 :: rr : List ByteArray)[3]? = some a3 from rfl) rfl rfl) ?_
    refine wt 7 11 255 rfl z (ov_move rfl) ?_
    refine wt 8 11 511 rfl z (ov_build (cs := [.int .i64 nv, .string a1, .string a3, .int .i64 (kixV a2), .string ⟨#[]⟩]) rfl (by kernel_rfl)) ?_
    refine wa1 9 rfl ?_
    refine wl_alloc zc54 rfl fun g2 => ?_
    refine wl_nil ?_
    refine nw 11 1023 (fun _ hm => ⟨hm.fa 0, hm.fa 1, hm.fa 2, hm.fa 3, trivial⟩) fun z => ?_
    refine wa1 10 rfl ?_
    refine wl_stores (cs' := [.int .i64 nv, .string a1, .string a3, .int .i64 (kixV a2), .string ⟨#[]⟩]) 0 rz54 rfl rfl rfl rfl rfl rfl rfl rfl ?_
    refine wl_nil ?_
    refine nw 11 2047 (fun _ hm => ⟨hm.fa 0, hm.fa 1, hm.fa 2, hm.fa 3, trivial⟩) fun z => ?_
    refine wa_done (by kernel_rfl) ?_
    refine nx_then (gw_seq (sr_ (mv_ rfl (wl_ov (ov_eql rfl rfl) rfl (nn_ ?_)))))
    refine gw_cond rfl (fun hh => ?_) (fun hh => ?_)
    ·have hq7 : kixV a2 = 6 := by simpa using hh
     clear hh
     refine gw_region ?_
     have hq7p : kixV a2 = 6 := by simpa using hq7
     refine mv_ rfl ?_
     refine wl_ov (ov_index (j := 4) es112 rfl rfl (by omega)) rfl ?_
     refine wl_ov (ov_elem1 (k := 0) (v := .string a4) sc9 rfl (fun _ hm => (hm.fact 2 rfl)) (show (a0 :: a1 :: a2 :: a3 :: rr : List ByteArray)[4]? = some a4 from by rw [hrr]; rfl) rfl rfl) rfl ?_
     refine fd_ fo54_4 rfl rfl ?_
     refine wl_store 0 sc9 rfl rfl rfl rfl rfl rfl ?_
     refine nn_ (sr_ ?_)
     refine wl_ov (ov_load (v := v) sc47 rfl (fun _ hm => (rowBlk1 hm.k)) rfl) rfl ?_
     refine wl_ov (ov_loads rz54 rfl (fun _ hm => hm.blkI 0 rfl) rfl rfl) rfl ?_
     refine wl_buildSlice (e := 54) (cs := [.int .i64 nv, .string a1, .string a3, .int .i64 (kixV a2), .string a4]) rfl (by kernel_rfl) rfl fun g3 => ?_
     obtain ⟨hS1, hS2⟩ := lg_some (acc := acc) (lg_good h1 hw (lgW_t hb (by omega) (fun _ => by omega) (fun _ => by omega)))
     rw [hrr] at hS1
     replace hS1 : lgRdA t acc = acc ++ [(⟨numV a0, a1, a3, kixV a2, a4⟩ : Ev)] := hS1
     obtain rfl := hnv hb
     refine wl_look (R := ∃ A cc, v = .slice A n cc) (fun wx hm => own_slice (hm.ownI 0 rfl)) ?_
     rintro ⟨A, cc, rfl⟩
     refine wl_append (news := [.int .i64 (numV a0), .string a1, .string a3, .int .i64 (kixV a2), .string a4]) 0 0 ap47 rfl rfl rfl rfl rfl rfl rfl (by omega) (by unfold maxLen; omega) rfl rfl fun v2 hv => ?_
     refine wl_look (R := ∃ A cc, v2 = .slice A (n + 1) cc) (fun wx hm => own_slice (hm.ownI 0 rfl)) ?_
     rintro ⟨A5, c5, rfl⟩
     refine wl_storeRow (l := [Value.slice A n cc]) (j := 0) (r := 0) (el := Value.slice A n cc) (el' := Value.slice A5 (n + 1) c5) rfl sc47' rfl rfl rfl sv_len rfl rfl rfl (by decide) rfl rfl ?_
     refine nn_ (sr_ (sg_ rfl (nn_ ?_)))
     refine gw_ret ?_
     rw [hS1]
     rw [show acc.flatMap evEnc ++ ([.int .i64 (numV a0), .string a1, .string a3, .int .i64 (kixV a2), .string a4] : List Value) = (acc ++ [(⟨numV a0, a1, a3, kixV a2, a4⟩ : Ev)]).flatMap evEnc from by simp [evEnc]]
     refine nx_ret1 rfl rfl fun wx hm => ?_
     exact ⟨.slice A5 (n + 1) c5, n + 1, by rw [hS2], (hm.pick [] [0] [3] rfl rfl).cx⟩
    have hq7 : ¬ (kixV a2 = 6) := by simpa using hh
    clear hh
    refine gw_skip (nx_then (sr_ ?_))
    have hq7p : ¬ (kixV a2 = 6) := by simpa using hq7
    exfalso; omega
   refine wl_set 52 rfl (congrArg Value.bool hq5) ?_
   have hq5p : ¬ (kixV a2 = 6) := by simpa using hq5
   exfalso; omega
  refine wl_set 44 rfl (congrArg Value.bool hq3) ?_
  have hq3p : (((4 + rr.length) : Nat) : Int) = 4 := by simpa using hq3
  refine goff rfl rfl rfl (goff rfl rfl rfl (wl_guard_on rfl rfl rfl (pf_ rfl rfl (pf_ rfl rfl (mv_ rfl (wl_guard_on rfl rfl rfl (mv_ rfl (wl_guard_on rfl rfl rfl (wl_ov (ov_eql rfl rfl) rfl (wl_guard_on rfl rfl rfl (mv_ rfl ?_)))))))))))
  rcases Bool.eq_false_or_eq_true (decide (kixV a2 = 6)) with hq8 | hq8
  ·refine wl_set 52 rfl (congrArg Value.bool hq8) ?_
   have hq8p : kixV a2 = 6 := by simpa using hq8
   refine wl_guard_on rfl rfl rfl (mv_ rfl (wl_guard_on rfl rfl rfl (wl_ov (ov_len es112 rfl) rfl (wl_guard_on rfl rfl rfl (wl_ov (ov_neq rfl rfl) rfl (wl_guard_on rfl rfl rfl (pt_ rfl rfl (pf_ rfl rfl (nn_ ?_)))))))))
   refine gw_cond rfl (fun hh => ?_) (fun hh => ?_)
   ·have hq9 : ¬ ((((4 + rr.length) : Nat) : Int) = 5) := by simpa using hh
    clear hh
    refine sr_ ?_
    have hq9p : ¬ ((((4 + rr.length) : Nat) : Int) = 5) := by simpa using hq9
    refine sg_ rfl (nn_ ?_)
    refine gw_ret ?_
    refine nx_then_ret ?_
    obtain ⟨hN1, hN2⟩ := lg_none (acc := acc) (lg_bad hw (lgW_f (fun _ e1 e5 e4 => by omega)))
    rw [hN1]
    refine nx_ret1 rfl rfl fun wx hm => ?_
    exact ⟨v, n, by rw [hN2], (hm.pick [] [0] [3] rfl rfl).cx⟩
   have hq9 : (((4 + rr.length) : Nat) : Int) = 5 := by simpa using hh
   clear hh
   refine gw_skip (nx_then (gw_seq ?_))
   have hq9p : (((4 + rr.length) : Nat) : Int) = 5 := by simpa using hq9
   obtain ⟨a4, hrr⟩ := list_one (l := rr) (by omega)
   refine gd (fun wz => (fun wy => SlT sgEnc 1 9 wy (some ⟨gk7, 0, none⟩) 9 kindsL) wz ∧ (fun _ => True) wz ∧ (fun wy => SlT sgEnc 1 9 wy (some ⟨gw, 0, none⟩) (4 + rr.length) (a0 :: a1 :: a2 :: a3 :: rr)) wz ∧ (TxtO w0.heap.size (some g)) wz ∧ True) mixed (fun _ hm => ⟨hm.fa 0, hm.fa 1, hm.fa 2, hm.fa 3, trivial⟩) fun z => ?_
   refine wt 0 11 1 rfl z (ov_move rfl) ?_
   refine wt 1 11 3 rfl z (ov_move rfl) ?_
   refine wt 2 11 7 rfl z (ov_index (j := 1) es112 rfl rfl (by omega)) ?_
   refine wt 3 11 15 rfl z (ov_elem1 (k := 0) (v := .string a1) sc9 rfl (fun _ hm => (hm.2.2.1)) (show (a0 :: a1 :: a2 :: a3 :: rr : List ByteArray)[1]? = some a1 from rfl) rfl rfl) ?_
   refine wt 4 11 31 rfl z (ov_move rfl) ?_
   refine wt 5 11 63 rfl z (ov_index (j := 3) es112 rfl rfl (by omega)) ?_
   refine wt 6 11 127 rfl z (ov_elem1 (k := 0) (v := .string a3) sc9 rfl (fun _ hm => (hm.2.2.1)) (show (a0 :: a1 :: a2 :: a3 :: rr : List ByteArray)[3]? = some a3 from rfl) rfl rfl) ?_
   refine wt 7 11 255 rfl z (ov_move rfl) ?_
   refine wt 8 11 511 rfl z (ov_build (cs := [.int .i64 nv, .string a1, .string a3, .int .i64 (kixV a2), .string ⟨#[]⟩]) rfl (by kernel_rfl)) ?_
   refine wa1 9 rfl ?_
   refine wl_alloc zc54 rfl fun g4 => ?_
   refine wl_nil ?_
   refine nw 11 1023 (fun _ hm => ⟨hm.fa 0, hm.fa 1, hm.fa 2, hm.fa 3, trivial⟩) fun z => ?_
   refine wa1 10 rfl ?_
   refine wl_stores (cs' := [.int .i64 nv, .string a1, .string a3, .int .i64 (kixV a2), .string ⟨#[]⟩]) 0 rz54 rfl rfl rfl rfl rfl rfl rfl rfl ?_
   refine wl_nil ?_
   refine nw 11 2047 (fun _ hm => ⟨hm.fa 0, hm.fa 1, hm.fa 2, hm.fa 3, trivial⟩) fun z => ?_
   refine wa_done (by kernel_rfl) ?_
   refine nx_then (gw_seq (sr_ (mv_ rfl (wl_ov (ov_eql rfl rfl) rfl (nn_ ?_)))))
   refine gw_cond rfl (fun hh => ?_) (fun hh => ?_)
   ·have hq10 : kixV a2 = 6 := by simpa using hh
    clear hh
    refine gw_region ?_
    have hq10p : kixV a2 = 6 := by simpa using hq10
    refine mv_ rfl ?_
    refine wl_ov (ov_index (j := 4) es112 rfl rfl (by omega)) rfl ?_
    refine wl_ov (ov_elem1 (k := 0) (v := .string a4) sc9 rfl (fun _ hm => (hm.fact 2 rfl)) (show (a0 :: a1 :: a2 :: a3 :: rr : List ByteArray)[4]? = some a4 from by rw [hrr]; rfl) rfl rfl) rfl ?_
    refine fd_ fo54_4 rfl rfl ?_
    refine wl_store 0 sc9 rfl rfl rfl rfl rfl rfl ?_
    refine nn_ (sr_ ?_)
    refine wl_ov (ov_load (v := v) sc47 rfl (fun _ hm => (rowBlk1 hm.k)) rfl) rfl ?_
    refine wl_ov (ov_loads rz54 rfl (fun _ hm => hm.blkI 0 rfl) rfl rfl) rfl ?_
    refine wl_buildSlice (e := 54) (cs := [.int .i64 nv, .string a1, .string a3, .int .i64 (kixV a2), .string a4]) rfl (by kernel_rfl) rfl fun g5 => ?_
    obtain ⟨hS1, hS2⟩ := lg_some (acc := acc) (lg_good h1 hw (lgW_t hb (by omega) (fun _ => by omega) (fun _ => by omega)))
    rw [hrr] at hS1
    replace hS1 : lgRdA t acc = acc ++ [(⟨numV a0, a1, a3, kixV a2, a4⟩ : Ev)] := hS1
    obtain rfl := hnv hb
    refine wl_look (R := ∃ A cc, v = .slice A n cc) (fun wx hm => own_slice (hm.ownI 0 rfl)) ?_
    rintro ⟨A, cc, rfl⟩
    refine wl_append (news := [.int .i64 (numV a0), .string a1, .string a3, .int .i64 (kixV a2), .string a4]) 0 0 ap47 rfl rfl rfl rfl rfl rfl rfl (by omega) (by unfold maxLen; omega) rfl rfl fun v2 hv => ?_
    refine wl_look (R := ∃ A cc, v2 = .slice A (n + 1) cc) (fun wx hm => own_slice (hm.ownI 0 rfl)) ?_
    rintro ⟨A5, c5, rfl⟩
    refine wl_storeRow (l := [Value.slice A n cc]) (j := 0) (r := 0) (el := Value.slice A n cc) (el' := Value.slice A5 (n + 1) c5) rfl sc47' rfl rfl rfl sv_len rfl rfl rfl (by decide) rfl rfl ?_
    refine nn_ (sr_ (sg_ rfl (nn_ ?_)))
    refine gw_ret ?_
    rw [hS1]
    rw [show acc.flatMap evEnc ++ ([.int .i64 (numV a0), .string a1, .string a3, .int .i64 (kixV a2), .string a4] : List Value) = (acc ++ [(⟨numV a0, a1, a3, kixV a2, a4⟩ : Ev)]).flatMap evEnc from by simp [evEnc]]
    refine nx_ret1 rfl rfl fun wx hm => ?_
    exact ⟨.slice A5 (n + 1) c5, n + 1, by rw [hS2], (hm.pick [] [0] [3] rfl rfl).cx⟩
   have hq10 : ¬ (kixV a2 = 6) := by simpa using hh
   clear hh
   refine gw_skip (nx_then (sr_ ?_))
   have hq10p : ¬ (kixV a2 = 6) := by simpa using hq10
   exfalso; omega
  refine wl_set 52 rfl (congrArg Value.bool hq8) ?_
  have hq8p : ¬ (kixV a2 = 6) := by simpa using hq8
  refine goff rfl rfl rfl (goff rfl rfl rfl (goff rfl rfl rfl (wl_guard_on rfl rfl rfl (pf_ rfl rfl (pf_ rfl rfl (nn_ (cf_ rfl (gw_skip (nx_then (gw_seq ?_))))))))))
  refine gd (fun wz => (fun wy => SlT sgEnc 1 9 wy (some ⟨gk7, 0, none⟩) 9 kindsL) wz ∧ (fun _ => True) wz ∧ (fun wy => SlT sgEnc 1 9 wy (some ⟨gw, 0, none⟩) (4 + rr.length) (a0 :: a1 :: a2 :: a3 :: rr)) wz ∧ (TxtO w0.heap.size (some g)) wz ∧ True) mixed (fun _ hm => ⟨hm.fa 0, hm.fa 1, hm.fa 2, hm.fa 3, trivial⟩) fun z => ?_
  refine wt 0 11 1 rfl z (ov_move rfl) ?_
  refine wt 1 11 3 rfl z (ov_move rfl) ?_
  refine wt 2 11 7 rfl z (ov_index (j := 1) es112 rfl rfl (by omega)) ?_
  refine wt 3 11 15 rfl z (ov_elem1 (k := 0) (v := .string a1) sc9 rfl (fun _ hm => (hm.2.2.1)) (show (a0 :: a1 :: a2 :: a3 :: rr : List ByteArray)[1]? = some a1 from rfl) rfl rfl) ?_
  refine wt 4 11 31 rfl z (ov_move rfl) ?_
  refine wt 5 11 63 rfl z (ov_index (j := 3) es112 rfl rfl (by omega)) ?_
  refine wt 6 11 127 rfl z (ov_elem1 (k := 0) (v := .string a3) sc9 rfl (fun _ hm => (hm.2.2.1)) (show (a0 :: a1 :: a2 :: a3 :: rr : List ByteArray)[3]? = some a3 from rfl) rfl rfl) ?_
  refine wt 7 11 255 rfl z (ov_move rfl) ?_
  refine wt 8 11 511 rfl z (ov_build (cs := [.int .i64 nv, .string a1, .string a3, .int .i64 (kixV a2), .string ⟨#[]⟩]) rfl (by kernel_rfl)) ?_
  refine wa1 9 rfl ?_
  refine wl_alloc zc54 rfl fun g6 => ?_
  refine wl_nil ?_
  refine nw 11 1023 (fun _ hm => ⟨hm.fa 0, hm.fa 1, hm.fa 2, hm.fa 3, trivial⟩) fun z => ?_
  refine wa1 10 rfl ?_
  refine wl_stores (cs' := [.int .i64 nv, .string a1, .string a3, .int .i64 (kixV a2), .string ⟨#[]⟩]) 0 rz54 rfl rfl rfl rfl rfl rfl rfl rfl ?_
  refine wl_nil ?_
  refine nw 11 2047 (fun _ hm => ⟨hm.fa 0, hm.fa 1, hm.fa 2, hm.fa 3, trivial⟩) fun z => ?_
  refine wa_done (by kernel_rfl) ?_
  refine nx_then (gw_seq (sr_ (mv_ rfl (wl_ov (ov_eql rfl rfl) rfl (nn_ ?_)))))
  refine gw_cond rfl (fun hh => ?_) (fun hh => ?_)
  ·have hq11 : kixV a2 = 6 := by simpa using hh
   clear hh
   refine gw_region ?_
   have hq11p : kixV a2 = 6 := by simpa using hq11
   exfalso; omega
  have hq11 : ¬ (kixV a2 = 6) := by simpa using hh
  clear hh
  refine gw_skip (nx_then (sr_ ?_))
  have hq11p : ¬ (kixV a2 = 6) := by simpa using hq11
  refine wl_ov (ov_load (v := v) sc47 rfl (fun _ hm => (rowBlk1 hm.k)) rfl) rfl ?_
  refine wl_ov (ov_loads rz54 rfl (fun _ hm => hm.blkI 0 rfl) rfl rfl) rfl ?_
  refine wl_buildSlice (e := 54) (cs := [.int .i64 nv, .string a1, .string a3, .int .i64 (kixV a2), .string ⟨#[]⟩]) rfl (by kernel_rfl) rfl fun g7 => ?_
  have hrr := list_none (l := rr) (by omega)
  obtain ⟨hS1, hS2⟩ := lg_some (acc := acc) (lg_good h1 hw (lgW_t hb (by omega) (fun _ => by omega) (fun _ => by omega)))
  rw [hrr] at hS1
  replace hS1 : lgRdA t acc = acc ++ [(⟨numV a0, a1, a3, kixV a2, ⟨#[]⟩⟩ : Ev)] := hS1
  obtain rfl := hnv hb
  refine wl_look (R := ∃ A cc, v = .slice A n cc) (fun wx hm => own_slice (hm.ownI 0 rfl)) ?_
  rintro ⟨A, cc, rfl⟩
  refine wl_append (news := [.int .i64 (numV a0), .string a1, .string a3, .int .i64 (kixV a2), .string ⟨#[]⟩]) 0 0 ap47 rfl rfl rfl rfl rfl rfl rfl (by omega) (by unfold maxLen; omega) rfl rfl fun v2 hv => ?_
  refine wl_look (R := ∃ A cc, v2 = .slice A (n + 1) cc) (fun wx hm => own_slice (hm.ownI 0 rfl)) ?_
  rintro ⟨A5, c5, rfl⟩
  refine wl_storeRow (l := [Value.slice A n cc]) (j := 0) (r := 0) (el := Value.slice A n cc) (el' := Value.slice A5 (n + 1) c5) rfl sc47' rfl rfl rfl sv_len rfl rfl rfl (by decide) rfl rfl ?_
  refine nn_ (sr_ (sg_ rfl (nn_ ?_)))
  refine gw_ret ?_
  rw [hS1]
  rw [show acc.flatMap evEnc ++ ([.int .i64 (numV a0), .string a1, .string a3, .int .i64 (kixV a2), .string ⟨#[]⟩] : List Value) = (acc ++ [(⟨numV a0, a1, a3, kixV a2, ⟨#[]⟩⟩ : Ev)]).flatMap evEnc from by simp [evEnc]]
  refine nx_ret1 rfl rfl fun wx hm => ?_
  exact ⟨.slice A5 (n + 1) c5, n + 1, by rw [hS2], (hm.pick [] [0] [3] rfl rfl).cx⟩
 refine sg_ rfl (nn_ (sr_ (mv_ rfl ?_)))
 refine wl_callx (γ := Nat × Nat) (val := (fun g => .tuple #[.slice (some ⟨g.1, 0, none⟩) g.2 g.2, .bool (wdB t)])) (φ := (fun g => g.2 = (wdL t).length ∧ 1 ≤ g.2 ∧ g.2 ≤ t.size + 1)) (Y := (fun g => fun wy => SlT sgEnc 1 9 wy (some ⟨g.1, 0, none⟩) g.2 (wdL t))) rfl cb72 rfl rfl (fun wx hm => (rwords_any t wx (hm.fact 0 rfl).1 hts).mono fun _ _ ⟨gw, k, he, h1, h2, hg⟩ => ⟨(gw, k), he, ⟨h1.len.symm, h2⟩, hg, h1⟩) (fun _ => SlT.lasts2 rfl) ?_
 rintro ⟨gw, k⟩ hk
 dsimp only at hk ⊢
 refine mv_ rfl (wl_ov (ov_extract rfl rfl) rfl (wl_ov (ov_extract rfl rfl) rfl (sg_ rfl (sg_ rfl (nn_ (gw_seq (sr_ (mv_ rfl (wl_ov (ov_un_not rfl) rfl (mv_ rfl ?_))))))))))
 rcases Bool.eq_false_or_eq_true (!(wdB t)) with h1 | h1
 ·refine wl_set 17 rfl (congrArg Value.bool h1) ?_
  refine goff rfl rfl rfl (goff rfl rfl rfl (goff rfl rfl rfl (pt_ rfl rfl (nn_ (ct_ rfl (sr_ (sg_ rfl (nn_ ?_))))))))
  refine gw_ret ?_
  refine nx_then_ret ?_
  obtain ⟨hN1, hN2⟩ := lg_none (acc := acc) (lg_wd h1)
  rw [hN1]
  refine nx_ret1 rfl rfl fun wx hm => ?_
  exact ⟨v, n, by rw [hN2], (hm.pick [] [0] [1] rfl rfl).cx⟩
 refine wl_set 17 rfl (congrArg Value.bool h1) ?_
 have hk2 : ((k : Nat) : Int) < 4 := by omega
 refine wl_guard_on rfl rfl rfl (mv_ rfl (wl_guard_on rfl rfl rfl (wl_ov (ov_len es112 rfl) rfl (wl_guard_on rfl rfl rfl (wl_ov (ov_lss rfl rfl) rfl (pf_ rfl rfl (nn_ ?_)))))))
 refine gw_cond rfl (fun hh => ?_) (fun hh => ?_)
 ·have hc : ((k : Nat) : Int) < 4 := by simpa using hh
  clear hh
  refine sr_ (sg_ rfl (nn_ ?_))
  refine gw_ret ?_
  refine nx_then_ret ?_
  obtain ⟨hN1, hN2⟩ := lg_none (acc := acc) (lg_short h4)
  rw [hN1]
  refine nx_ret1 rfl rfl fun wx hm => ?_
  exact ⟨v, n, by rw [hN2], (hm.pick [] [0] [1] rfl rfl).cx⟩
 have hc : ¬ (((k : Nat) : Int) < 4) := by simpa using hh
 clear hh
 refine gw_skip (nx_then (sr_ ?_))
 exact absurd hk2 (by simpa using hc)
end Go.Proofs.YtnpcbfllnkiopaaGreatDoor
namespace Go.Proofs.YtnpcbfllnkiopaaGreatDoor
open Go.RowKit
section
variable {c : Cx} {K : World → Prop} {L : List (Nat × TypeId × List Value)} {O : List Own} {X X' : List (World → Prop)} {w w' : World}
theorem Mem.handedK {i g : Nat} {T e : TypeId} {sz m : Nat} {cs0 cs1 : List Value} {v : Value} {xs : List Value} (hm : Mem c (fun _ => True) L O X w) (hi : L[i]? = some (g, T, cs0)) (hg : w.grownBy w' (some g)) (hb : Blk w' g T cs1) (ho : w'.ownsRow w.heap.size e sz v m xs)
    (hX : ∀ A ∈ X', (∀ w w', c.w0.heap.size ≤ g → w.grownBy w' (some g) → A w → A w') ∧ A ∈ X) : Mem c (fun _ => True) (L.set i (g, T, cs1)) [⟨v, e, sz, m, xs⟩] X' w' := by
  have hil := (List.getElem?_eq_some_iff.1 hi).1
  have hiv := (List.getElem?_eq_some_iff.1 hi).2
  have h1 := hm.b _ (List.mem_of_getElem? hi)
  have hlt : g < w.heap.size := h1.2.lt
  have hN : c.w0.heap.size ≤ w.heap.size := hm.g.size
  have hin : ∀ x ∈ L.set i (g, T, cs1), x = (g, T, cs1) ∨ (x ∈ L ∧ x.1 ≠ g) := fun x hx => by
    obtain ⟨j, hj⟩ := List.getElem?_of_mem hx
    rw [List.getElem?_set] at hj
    by_cases hij : i = j
    · rw [if_pos hij, if_pos hil] at hj
      exact .inl (Option.some.inj hj).symm
    · rw [if_neg hij] at hj
      have hjl := (List.getElem?_eq_some_iff.1 hj).1
      have hjv := (List.getElem?_eq_some_iff.1 hj).2
      refine .inr ⟨List.mem_of_getElem? hj, fun he => ?_⟩
      have hp := List.pairwise_iff_getElem.1 hm.nd
      rcases Nat.lt_or_gt_of_ne hij with h1 | h1
      · exact hp i j hil hjl h1 (by rw [hiv, hjv]; exact he.symm)
      · exact hp j i hjl hil h1 (by rw [hiv, hjv]; exact he)
  have hlx : ∀ x ∈ L.set i (g, T, cs1), x.1 < w.heap.size := fun x hx => by
    rcases hin x hx with rfl | ⟨h, _⟩
    · exact hlt
    · exact (hm.b x h).2.lt
  refine ⟨⟨hg.os.trans hm.g.os, hg.tape.trans hm.g.tape, hg.output.trans hm.g.output, Nat.le_trans hm.g.size hg.size, fun k hk hne => ?_⟩, trivial, fun x hx => ?_, ?_, fun r hr => ?_, fun r hr x hx => ?_, List.pairwise_singleton _ _, fun A hA => (hX A hA).1 _ _ h1.1 hg (hm.x A (hX A hA).2), Keeps.true_, fun A hA => hm.l A (hX A hA).2, hm.rs⟩
  · exact (hg.block k (Nat.lt_of_lt_of_le hk hm.g.size) (fun e => by
      have e2 : k = g := by injection e
      have := h1.1
      omega)).trans (hm.g.block k hk hne)
  · rcases hin x hx with rfl | ⟨hxL, hxg⟩
    · exact ⟨h1.1, hb⟩
    · have h2 := hm.b x hxL
      have h3 : w.heap[x.1]? = some (.cells x.2.2.toArray x.2.1 (0, 0)) := h2.2
      exact ⟨h2.1, (hg.block x.1 h2.2.lt (fun e => hxg (by injection e))).trans h3⟩
  · have h2 : (L.map (·.1)).Pairwise (fun a b => a ≠ b) := List.pairwise_map.2 hm.nd
    have h3 : (L.set i (g, T, cs1)).map (·.1) = L.map (·.1) := by
      rw [List.map_set]
      apply List.ext_getElem?
      intro j
      rw [List.getElem?_set, List.length_map]
      by_cases hij : i = j
      · subst hij
        rw [if_pos rfl, if_pos hil, List.getElem?_map, hi]; rfl
      · rw [if_neg hij]
    rw [← h3] at h2
    exact List.pairwise_map.1 h2
  · rw [List.mem_singleton.1 hr]
    refine ⟨ho.1, ?_⟩
    rcases ho.2 with h | ⟨g', cap, cur, h2, h3, h4⟩
    · exact .inl h
    · exact .inr ⟨g', cap, cur, h2, Nat.le_trans hN h3, h4⟩
  · rw [List.mem_singleton.1 hr]
    intro e
    have := (ho.lt _ e).1
    have := hlx x hx
    omega
end
theorem farX_nil {N g : Nat} {X : List (World → Prop)} : ∀ A ∈ ([] : List (World → Prop)), (∀ w w' : World, N ≤ g → w.grownBy w' (some g) → A w → A w') ∧ A ∈ X := fun _ h => by cases h
theorem farX_cons {N g i : Nat} {X X' : List (World → Prop)} {A : World → Prop} (h : ∀ w w' : World, N ≤ g → w.grownBy w' (some g) → A w → A w') (hi : X[i]? = some A) (t : ∀ B ∈ X', (∀ w w' : World, N ≤ g → w.grownBy w' (some g) → B w → B w') ∧ B ∈ X) :
    ∀ B ∈ A :: X', (∀ w w' : World, N ≤ g → w.grownBy w' (some g) → B w → B w') ∧ B ∈ X := fun B hB => by
  rcases List.mem_cons.1 hB with rfl | hB
  · exact ⟨h, List.mem_of_getElem? hi⟩
  · exact t B hB
end Go.Proofs.YtnpcbfllnkiopaaGreatDoor
namespace Go.Proofs.YtnpcbfllnkiopaaGreatDoor
open Go.RowKit
theorem lgWl_any (t : ByteArray) (g : Nat) (w : World) (hts : t.size ≤ 200000) (hb : Blk w g 47 [.slice none 0 0]) (htx : TxtO w.heap.size (some g) w) :
  Calls Tryz.prog 66 #[.string t, .func (.func 107) #[] #[.pointer (some ⟨g, 0, none⟩)]] w (fun e w' => ∃ v n, e = .returned (.tuple #[.int .i64 (lgR t).1, .bool (lgR t).2.1]) ∧ Blk w' g 47 [v] ∧ w'.ownsRow w.heap.size 54 5 v n ((lgR t).2.2.flatMap evEnc) ∧ w.grownBy w' (some g)) := by
 refine gw_enter ⟨30, w, (some g), [9, 3]⟩ Tryz.func66 rfl Tryz.ntmps66 rfl (memR (X := [TxtO w.heap.size (some g)]) (blkRow1 hb) (allF_cons htx allF_nil) (allL_cons TxtO.lasts allL_nil)) ?_
 refine sr_ (sg_ rfl (sg_ rfl (nn_ (gw_seq (sr_ (sg_ rfl (nn_ (gw_block ?_))))))))
 refine gw_nilOwn 54 5 ?_
 refine gw_loop (γ := Nat × ByteArray × Int × Value × List Ev) (fun (gz : Nat × ByteArray × Int × Value × List Ev) => gz.2.1.size < gz.1 ∧ gz.2.1.size ≤ t.size ∧ lgR t = linesF lgStep gz.1 gz.2.1 gz.2.2.1 gz.2.2.2.2 ∧ 0 ≤ gz.2.2.1 ∧ gz.2.2.1 + gz.2.1.size ≤ t.size ∧ gz.2.2.2.2.length + gz.2.1.size ≤ t.size) (fun (gz : Nat × ByteArray × Int × Value × List Ev) => [(0, .string gz.2.1), (1, .func (.func 107) #[] #[.pointer (some ⟨g, 0, none⟩)]), (6, .int .i64 gz.2.2.1)]) (fun (gz : Nat × ByteArray × Int × Value × List Ev) => RowK 0 47 1 1 1 g ([gz.2.2.2.1].flatMap svEnc)) (fun (gz : Nat × ByteArray × Int × Value × List Ev) => []) (fun (gz : Nat × ByteArray × Int × Value × List Ev) => [⟨gz.2.2.2.1, 54, 5, gz.2.2.2.2.length, gz.2.2.2.2.flatMap evEnc⟩]) (fun (gz : Nat × ByteArray × Int × Value × List Ev) => [TxtO w.heap.size (some g)]) (fun (gz : Nat × ByteArray × Int × Value × List Ev) => gz.1) (t.size + 1, t, 0, .slice none 0 0, []) ⟨Nat.lt_succ_self _, Nat.le_refl _, rfl, Int.le_refl _, by dsimp only; omega, by simp⟩ ⟨rfl, rfl, rfl, trivial⟩ (fun _ hm => hm.pick [] [0] [0] rfl rfl) ?_
 rintro ⟨f, u, at_, v, acc⟩ hinv
 replace hinv : u.size < f ∧ u.size ≤ t.size ∧ lgR t = linesF lgStep f u at_ acc ∧ 0 ≤ at_ ∧ at_ + u.size ≤ t.size ∧ acc.length + u.size ≤ t.size := hinv
 dsimp only
 refine gw_seq (sr_ ?_)
 obtain ⟨hf, hu, hR, ha0, ha1, hacc⟩ := hinv
 refine mv_ rfl (wl_ov (ov_sneq rfl rfl) rfl (nn_ ?_))
 refine gw_cond rfl (fun hh => ?_) (fun hh => ?_)
 ·have he : (u.toList == (⟨#[]⟩ : ByteArray).toList) = false := by simpa using hh
  clear hh
  refine gw_skip (nx_then (gw_seq (gw_block (sr_ ?_))))
  replace he : (u.toList == (⟨#[]⟩ : ByteArray).toList) = false := by simpa using he
  have hu1 := size_pos he
  obtain ⟨⟨c1, c2, cf⟩, hcut⟩ : ∃ z, cutS u nlS = z := ⟨_, rfl⟩
  have hsz := cut_sz u nlS (by decide)
  rw [hcut] at hsz
  obtain ⟨hs1, hs2, hs3⟩ := hsz
  have hs1 : c1.size ≤ u.size := hs1
  have hs2 : cf = true → 1 ≤ u.size → c2.size + 1 ≤ u.size := hs2
  refine mv_ rfl ?_
  refine wl_callv (v := .tuple #[.string c1, .string c2, .bool cf]) rfl cb163 rfl rfl (fun wx hm => (by have h := cut_any u nlS wx (hm.fact 0 rfl).1 (by omega); rw [hcut] at h; exact h)) ?_
  refine mv_ rfl (wl_ov (ov_extract rfl rfl) rfl (wl_ov (ov_extract rfl rfl) rfl (wl_ov (ov_extract rfl rfl) rfl (sg_ rfl (sg_ rfl (sg_ rfl (nn_ (gw_seq (sr_ (mv_ rfl (wl_ov (ov_un_not rfl) rfl ?_)))))))))))
  refine mv_ rfl ?_
  rcases Bool.eq_false_or_eq_true (!cf) with hcf | hcf
  ·refine wl_set 22 rfl (congrArg Value.bool hcf) ?_
   replace hcf : cf = false := by simpa using hcf
   subst hcf
   refine goff rfl rfl rfl (goff rfl rfl rfl (goff rfl rfl rfl (goff rfl rfl rfl (pt_ rfl rfl (nn_ (ct_ rfl (sr_ (mv_ rfl (sg_ rfl (sg_ rfl (wl_nil ?_)))))))))))
   refine nx_then ?_
   refine gw_ret ?_
   refine nx_then_ret (nx_blk_ret (nx_then_ret (nx_then_ret (nx_blk_ret (nx_then_ret ?_)))))
   refine nx_ret2 rfl rfl rfl fun wx hm => ?_
   have hR2 := hR.trans (lns_open hf he hcut)
   rw [hR2]
   exact ⟨_, _, rfl, rowBlk1 hm.k, hm.ownI 0 rfl, hm.g⟩
  refine wl_set 22 rfl (congrArg Value.bool hcf) ?_
  replace hcf : cf = true := by simpa using hcf
  subst hcf
  have hs2 := hs2 rfl hu1
  refine wl_guard_on rfl rfl rfl (mv_ rfl (wl_guard_on rfl rfl rfl (mv_ rfl (wl_guard_on rfl rfl rfl ?_))))
  refine wl_callG (γ := Value) (val := fun _ => .bool (lgRdB c1)) (φ := fun _ => True) (K' := fun z => RowK 0 47 1 1 1 g ([z].flatMap svEnc)) (L' := fun _ => []) (O' := fun z => [⟨z, 54, 5, (lgRdA c1 acc).length, (lgRdA c1 acc).flatMap evEnc⟩]) (X' := fun _ => [TxtO w.heap.size (some g)]) rfl cb107 rfl rfl (fun wx hm => (lgRead1_any c1 w wx g acc.length v acc (by omega) (by omega) (hm.pick [] [0] [0] rfl rfl).cx).mono fun e w' ⟨v', n', he, hM⟩ => by
   obtain rfl : n' = (lgRdA c1 acc).length := lgOwn_n (hM.ownI 0 rfl)
   exact ⟨v', he, trivial, hM.cx⟩) ?_
  rintro v1 _
  have hrl := lgRdA_len c1 acc
  refine wl_guard_on rfl rfl rfl (wl_ov (ov_un_not rfl) rfl (pf_ rfl rfl (nn_ ?_)))
  refine gw_cond rfl (fun hh => ?_) (fun hh => ?_)
  ·have hr : (lgRdB c1) = false := by simpa using hh
   clear hh
   refine sr_ ?_
   replace hr : lgRdB c1 = false := by simpa using hr
   refine mv_ rfl (sg_ rfl (sg_ rfl (nn_ ?_)))
   refine gw_ret ?_
   refine nx_then_ret (nx_blk_ret (nx_then_ret (nx_then_ret (nx_blk_ret (nx_then_ret ?_)))))
   refine nx_ret2 rfl rfl rfl fun wx hm => ?_
   have hR2 := hR.trans (lns_no hf he hcut hr)
   rw [hR2]
   exact ⟨_, _, rfl, rowBlk1 hm.k, hm.ownI 0 rfl, hm.g⟩
  have hr : (lgRdB c1) = true := by simpa using hh
  clear hh
  refine gw_skip (nx_then (gw_region ?_))
  replace hr : lgRdB c1 = true := by simpa using hr
  refine mv_ rfl (sg_ rfl (wl_nil (nx_blk_nrm (nx_then (gw_region (mv_ rfl (ad_ rfl rfl (sg_ rfl (wl_nil ?_)))))))))
  exact nx_round (f - 1, c2, at_ + 1, v1, lgRdA c1 acc) ⟨by dsimp only; omega, by dsimp only; omega, hR.trans (lns_go hf he hcut hr), by dsimp only; omega, by dsimp only; omega, by dsimp only; omega⟩ (by dsimp only; omega) ⟨rfl, rfl, rfl, trivial⟩ (fun _ hm => hm.pick [] [0] [0] rfl rfl)
 have he : (u.toList == (⟨#[]⟩ : ByteArray).toList) = true := by simpa using hh
 clear hh
 refine gw_exit ?_
 refine nx_then_exit (nx_then_exit ?_)
 refine nx_blk_here ?_
 refine nx_then (sr_ (sg_ rfl (sg_ rfl (nn_ ?_))))
 refine gw_ret ?_
 refine nx_ret2 rfl rfl rfl fun wx hm => ?_
 have hR2 := hR.trans (lns_nil hf (by simpa using he))
 rw [hR2]
 exact ⟨_, _, rfl, rowBlk1 hm.k, hm.ownI 0 rfl, hm.g⟩
theorem lgRl_any (t : ByteArray) (g : Nat) (w : World) (hts : t.size ≤ 200000) (hb : Blk w g 47 [.slice none 0 0]) (htx : TxtO w.heap.size (some g) w) :
  Calls Tryz.prog 70 #[.string t, .func (.func 121) #[] #[.pointer (some ⟨g, 0, none⟩)]] w (fun e w' => ∃ v n, e = .returned (.tuple #[.int .i64 (lgR t).1, .bool (lgR t).2.1]) ∧ Blk w' g 47 [v] ∧ w'.ownsRow w.heap.size 54 5 v n ((lgR t).2.2.flatMap evEnc) ∧ w.grownBy w' (some g)) := by
 refine gw_enter ⟨30, w, (some g), [9, 3]⟩ Tryz.func70 rfl Tryz.ntmps70 rfl (memR (X := [TxtO w.heap.size (some g)]) (blkRow1 hb) (allF_cons htx allF_nil) (allL_cons TxtO.lasts allL_nil)) ?_
 refine sr_ (sg_ rfl (sg_ rfl (nn_ (gw_seq (sr_ (sg_ rfl (nn_ (gw_block ?_))))))))
 refine gw_nilOwn 54 5 ?_
 refine gw_loop (γ := Nat × ByteArray × Int × Value × List Ev) (fun (gz : Nat × ByteArray × Int × Value × List Ev) => gz.2.1.size < gz.1 ∧ gz.2.1.size ≤ t.size ∧ lgR t = linesF lgStep gz.1 gz.2.1 gz.2.2.1 gz.2.2.2.2 ∧ 0 ≤ gz.2.2.1 ∧ gz.2.2.1 + gz.2.1.size ≤ t.size ∧ gz.2.2.2.2.length + gz.2.1.size ≤ t.size) (fun (gz : Nat × ByteArray × Int × Value × List Ev) => [(0, .string gz.2.1), (1, .func (.func 121) #[] #[.pointer (some ⟨g, 0, none⟩)]), (6, .int .i64 gz.2.2.1)]) (fun (gz : Nat × ByteArray × Int × Value × List Ev) => RowK 0 47 1 1 1 g ([gz.2.2.2.1].flatMap svEnc)) (fun (gz : Nat × ByteArray × Int × Value × List Ev) => []) (fun (gz : Nat × ByteArray × Int × Value × List Ev) => [⟨gz.2.2.2.1, 54, 5, gz.2.2.2.2.length, gz.2.2.2.2.flatMap evEnc⟩]) (fun (gz : Nat × ByteArray × Int × Value × List Ev) => [TxtO w.heap.size (some g)]) (fun (gz : Nat × ByteArray × Int × Value × List Ev) => gz.1) (t.size + 1, t, 0, .slice none 0 0, []) ⟨Nat.lt_succ_self _, Nat.le_refl _, rfl, Int.le_refl _, by dsimp only; omega, by simp⟩ ⟨rfl, rfl, rfl, trivial⟩ (fun _ hm => hm.pick [] [0] [0] rfl rfl) ?_
 rintro ⟨f, u, at_, v, acc⟩ hinv
 replace hinv : u.size < f ∧ u.size ≤ t.size ∧ lgR t = linesF lgStep f u at_ acc ∧ 0 ≤ at_ ∧ at_ + u.size ≤ t.size ∧ acc.length + u.size ≤ t.size := hinv
 dsimp only
 refine gw_seq (sr_ ?_)
 obtain ⟨hf, hu, hR, ha0, ha1, hacc⟩ := hinv
 refine mv_ rfl (wl_ov (ov_sneq rfl rfl) rfl (nn_ ?_))
 refine gw_cond rfl (fun hh => ?_) (fun hh => ?_)
 ·have he : (u.toList == (⟨#[]⟩ : ByteArray).toList) = false := by simpa using hh
  clear hh
  refine gw_skip (nx_then (gw_seq (gw_block (sr_ ?_))))
  replace he : (u.toList == (⟨#[]⟩ : ByteArray).toList) = false := by simpa using he
  have hu1 := size_pos he
  obtain ⟨⟨c1, c2, cf⟩, hcut⟩ : ∃ z, cutS u nlS = z := ⟨_, rfl⟩
  have hsz := cut_sz u nlS (by decide)
  rw [hcut] at hsz
  obtain ⟨hs1, hs2, hs3⟩ := hsz
  have hs1 : c1.size ≤ u.size := hs1
  have hs2 : cf = true → 1 ≤ u.size → c2.size + 1 ≤ u.size := hs2
  refine mv_ rfl ?_
  refine wl_callv (v := .tuple #[.string c1, .string c2, .bool cf]) rfl cb163 rfl rfl (fun wx hm => (by have h := cut_any u nlS wx (hm.fact 0 rfl).1 (by omega); rw [hcut] at h; exact h)) ?_
  refine mv_ rfl (wl_ov (ov_extract rfl rfl) rfl (wl_ov (ov_extract rfl rfl) rfl (wl_ov (ov_extract rfl rfl) rfl (sg_ rfl (sg_ rfl (sg_ rfl (nn_ (gw_seq (sr_ (mv_ rfl (wl_ov (ov_un_not rfl) rfl ?_)))))))))))
  refine mv_ rfl ?_
  rcases Bool.eq_false_or_eq_true (!cf) with hcf | hcf
  ·refine wl_set 22 rfl (congrArg Value.bool hcf) ?_
   replace hcf : cf = false := by simpa using hcf
   subst hcf
   refine goff rfl rfl rfl (goff rfl rfl rfl (goff rfl rfl rfl (goff rfl rfl rfl (pt_ rfl rfl (nn_ (ct_ rfl (sr_ (mv_ rfl (sg_ rfl (sg_ rfl (wl_nil ?_)))))))))))
   refine nx_then ?_
   refine gw_ret ?_
   refine nx_then_ret (nx_blk_ret (nx_then_ret (nx_then_ret (nx_blk_ret (nx_then_ret ?_)))))
   refine nx_ret2 rfl rfl rfl fun wx hm => ?_
   have hR2 := hR.trans (lns_open hf he hcut)
   rw [hR2]
   exact ⟨_, _, rfl, rowBlk1 hm.k, hm.ownI 0 rfl, hm.g⟩
  refine wl_set 22 rfl (congrArg Value.bool hcf) ?_
  replace hcf : cf = true := by simpa using hcf
  subst hcf
  have hs2 := hs2 rfl hu1
  refine wl_guard_on rfl rfl rfl (mv_ rfl (wl_guard_on rfl rfl rfl (mv_ rfl (wl_guard_on rfl rfl rfl ?_))))
  refine wl_callG (γ := Value) (val := fun _ => .bool (lgRdB c1)) (φ := fun _ => True) (K' := fun z => RowK 0 47 1 1 1 g ([z].flatMap svEnc)) (L' := fun _ => []) (O' := fun z => [⟨z, 54, 5, (lgRdA c1 acc).length, (lgRdA c1 acc).flatMap evEnc⟩]) (X' := fun _ => [TxtO w.heap.size (some g)]) rfl cb121 rfl rfl (fun wx hm => (lgRread1_any c1 w wx g acc.length v acc (by omega) (by omega) (hm.pick [] [0] [0] rfl rfl).cx).mono fun e w' ⟨v', n', he, hM⟩ => by
   obtain rfl : n' = (lgRdA c1 acc).length := lgOwn_n (hM.ownI 0 rfl)
   exact ⟨v', he, trivial, hM.cx⟩) ?_
  rintro v1 _
  have hrl := lgRdA_len c1 acc
  refine wl_guard_on rfl rfl rfl (wl_ov (ov_un_not rfl) rfl (pf_ rfl rfl (nn_ ?_)))
  refine gw_cond rfl (fun hh => ?_) (fun hh => ?_)
  ·have hr : (lgRdB c1) = false := by simpa using hh
   clear hh
   refine sr_ ?_
   replace hr : lgRdB c1 = false := by simpa using hr
   refine mv_ rfl (sg_ rfl (sg_ rfl (nn_ ?_)))
   refine gw_ret ?_
   refine nx_then_ret (nx_blk_ret (nx_then_ret (nx_then_ret (nx_blk_ret (nx_then_ret ?_)))))
   refine nx_ret2 rfl rfl rfl fun wx hm => ?_
   have hR2 := hR.trans (lns_no hf he hcut hr)
   rw [hR2]
   exact ⟨_, _, rfl, rowBlk1 hm.k, hm.ownI 0 rfl, hm.g⟩
  have hr : (lgRdB c1) = true := by simpa using hh
  clear hh
  refine gw_skip (nx_then (gw_region ?_))
  replace hr : lgRdB c1 = true := by simpa using hr
  refine mv_ rfl (sg_ rfl (wl_nil (nx_blk_nrm (nx_then (gw_region (mv_ rfl (ad_ rfl rfl (sg_ rfl (wl_nil ?_)))))))))
  exact nx_round (f - 1, c2, at_ + 1, v1, lgRdA c1 acc) ⟨by dsimp only; omega, by dsimp only; omega, hR.trans (lns_go hf he hcut hr), by dsimp only; omega, by dsimp only; omega, by dsimp only; omega⟩ (by dsimp only; omega) ⟨rfl, rfl, rfl, trivial⟩ (fun _ hm => hm.pick [] [0] [0] rfl rfl)
 have he : (u.toList == (⟨#[]⟩ : ByteArray).toList) = true := by simpa using hh
 clear hh
 refine gw_exit ?_
 refine nx_then_exit (nx_then_exit ?_)
 refine nx_blk_here ?_
 refine nx_then (sr_ (sg_ rfl (sg_ rfl (nn_ ?_))))
 refine gw_ret ?_
 refine nx_ret2 rfl rfl rfl fun wx hm => ?_
 have hR2 := hR.trans (lns_nil hf (by simpa using he))
 rw [hR2]
 exact ⟨_, _, rfl, rowBlk1 hm.k, hm.ownI 0 rfl, hm.g⟩
theorem first_when {p : Prop} [Decidable p] (h : p) : firstE [0, whenE (decide p) 2] = 2 := by rw [decide_eq_true h]; rfl
theorem first_unless {p : Prop} [Decidable p] (h : ¬ p) : firstE [0, whenE (decide p) 2] = 0 := by rw [decide_eq_false h]; rfl
theorem lgRead_bad (sl : List St) (cl : List Cs) (vl : List Vh) (pl : List Pl) (sA cA vA pA : Option Addr) (sn sc cn cc vn vc pn pc : Nat) (t : ByteArray) (w : World) (hs : SlT stEnc 15 168 w sA sn sl) (hc : SlT csEnc 2 170 w cA cn cl) (hv : SlT vhEnc 2 158 w vA vn vl) (hp : SlT plEnc 3 161 w pA pn pl) (hsok : ∀ x ∈ sl, StOk x) (hcok : ∀ x ∈ cl, CsOk x) (hvok : ∀ x ∈ vl, VhOk x) (hpok : ∀ x ∈ pl, PlOk x) (hsn : sn ≤ 1000) (hcn : cn ≤ 1000) (hvn : vn ≤ 1000) (hpn : pn ≤ 1000) (htx : TxtW w) (h0 : fleetE sl cl vl pl ≠ 0) :
  Calls Tryz.prog 36 #[.agg #[.slice sA sn sc, .slice cA cn cc, .slice vA vn vc, .slice pA pn pc], .string t] w (fun e w' => e = .returned (.tuple #[.slice none 0 0, .int .i64 0, .int .i64 (fleetE sl cl vl pl)]) ∧ w.grownBy w' none) := by
 refine gw_enter ⟨39, w, none, []⟩ Tryz.func36 rfl Tryz.ntmps36 rfl (mem0 (X := [SlOld stEnc 15 168 w.heap.size none sA sn sl, SlOld csEnc 2 170 w.heap.size none cA cn cl, SlOld vhEnc 2 158 w.heap.size none vA vn vl, SlOld plEnc 3 161 w.heap.size none pA pn pl, TxtO w.heap.size none]) (allF_cons hs.old (allF_cons hc.old (allF_cons hv.old (allF_cons hp.old (allF_cons htx.old allF_nil))))) (allL_cons SlOld.lasts (allL_cons SlOld.lasts (allL_cons SlOld.lasts (allL_cons SlOld.lasts (allL_cons TxtO.lasts allL_nil)))))) ?_
 refine sr_ ?_
 obtain ⟨FE, hFE⟩ : ∃ z, z = fleetE sl cl vl pl := ⟨_, rfl⟩
 rw [← hFE] at h0 ⊢
 refine wl_box rfl rfl rfl fun g1 => ?_
 refine sg_ rfl (sg_ rfl (sg_ rfl (nn_ (gw_seq (sr_ ?_)))))
 refine wl_ov (ov_loads rz66 rfl (fun _ hm => hm.blkI 0 rfl) rfl rfl) rfl ?_
 refine wl_callv (v := .int .i64 FE) rfl cb105 rfl rfl (fun wx hm => (by rw [hFE]; exact checkFleet_any sl cl vl pl sA cA vA pA sn sc cn cc vn vc pn pc wx (hm.fact 0 rfl).1 (hm.fact 1 rfl).1 (hm.fact 2 rfl).1 (hm.fact 3 rfl).1 hsok hcok hvok hpok hsn hcn hvn hpn)) ?_
 refine mv_ rfl ?_
 refine wl_ov (ov_lens us9 rfl) rfl ?_
 refine wl_ov (ov_gtr rfl rfl) rfl ?_
 refine wl_callw rfl cb106 rfl rfl (fun wx hm => (when_any _ _ wx)) ?_
 refine wl_buildSlice (e := 28) (cs := [.int .i64 FE, .int .i64 (whenE (decide (200000 < ((t).size : Int))) 2)]) rfl (by kernel_rfl) rfl fun g2 => ?_
 refine wl_callw rfl cb104 rfl rfl (fun wx hm => (first_any [FE, whenE (decide (200000 < ((t).size : Int))) 2] _ _ _ wx (hm.blkI 0 rfl) (by simp))) ?_
 refine sg_ rfl (nn_ (sr_ (mv_ rfl (wl_ov (ov_neq rfl rfl) rfl (nn_ ?_)))))
 refine gw_cond rfl (fun hh => ?_) (fun hh => ?_)
 ·have h1 : ¬ (firstE [FE, whenE (decide (200000 < ((t).size : Int))) 2] = 0) := by simpa using hh
  clear hh
  refine sr_ (mv_ rfl (sg_ rfl (sg_ rfl (sg_ rfl (nn_ ?_)))))
  refine gw_ret ?_
  refine nx_then_ret ?_
  refine nx_ret3 rfl rfl rfl rfl fun wx hm => ?_
  exact ⟨by rw [fe_hd h0], hm.g⟩
 have h1 : firstE [FE, whenE (decide (200000 < ((t).size : Int))) 2] = 0 := by simpa using hh
 clear hh
 refine gw_skip (nx_then (sr_ ?_))
 exact absurd (by simpa using h1) (by rw [fe_hd h0]; exact h0)
theorem lgRead_right (sl : List St) (cl : List Cs) (vl : List Vh) (pl : List Pl) (sA cA vA pA : Option Addr) (sn sc cn cc vn vc pn pc : Nat) (t : ByteArray) (w : World) (hs : SlT stEnc 15 168 w sA sn sl) (hc : SlT csEnc 2 170 w cA cn cl) (hv : SlT vhEnc 2 158 w vA vn vl) (hp : SlT plEnc 3 161 w pA pn pl) (hsok : ∀ x ∈ sl, StOk x) (hcok : ∀ x ∈ cl, CsOk x) (hvok : ∀ x ∈ vl, VhOk x) (hpok : ∀ x ∈ pl, PlOk x) (hsn : sn ≤ 1000) (hcn : cn ≤ 1000) (hvn : vn ≤ 1000) (hpn : pn ≤ 1000) (htx : TxtW w) (hts : t.size ≤ 1000000000) (h0 : fleetE sl cl vl pl = 0) :
  Calls Tryz.prog 36 #[.agg #[.slice sA sn sc, .slice cA cn cc, .slice vA vn vc, .slice pA pn pc], .string t] w (lgReadK sl vl t w) := by
 refine gw_enter ⟨39, w, none, []⟩ Tryz.func36 rfl Tryz.ntmps36 rfl (mem0 (X := [SlOld stEnc 15 168 w.heap.size none sA sn sl, SlOld csEnc 2 170 w.heap.size none cA cn cl, SlOld vhEnc 2 158 w.heap.size none vA vn vl, SlOld plEnc 3 161 w.heap.size none pA pn pl, TxtO w.heap.size none]) (allF_cons hs.old (allF_cons hc.old (allF_cons hv.old (allF_cons hp.old (allF_cons htx.old allF_nil))))) (allL_cons SlOld.lasts (allL_cons SlOld.lasts (allL_cons SlOld.lasts (allL_cons SlOld.lasts (allL_cons TxtO.lasts allL_nil)))))) ?_
 refine sr_ ?_
 have hrise := fleet_rise h0
 obtain ⟨FE, hFE⟩ : ∃ z, z = fleetE sl cl vl pl := ⟨_, rfl⟩
 obtain rfl : FE = 0 := hFE.trans h0
 refine wl_box rfl rfl rfl fun g1 => ?_
 refine sg_ rfl (sg_ rfl (sg_ rfl (nn_ (gw_seq (sr_ ?_)))))
 refine wl_ov (ov_loads rz66 rfl (fun _ hm => hm.blkI 0 rfl) rfl rfl) rfl ?_
 refine wl_callv (v := .int .i64 0) rfl cb105 rfl rfl (fun wx hm => (by rw [hFE]; exact checkFleet_any sl cl vl pl sA cA vA pA sn sc cn cc vn vc pn pc wx (hm.fact 0 rfl).1 (hm.fact 1 rfl).1 (hm.fact 2 rfl).1 (hm.fact 3 rfl).1 hsok hcok hvok hpok hsn hcn hvn hpn)) ?_
 refine mv_ rfl ?_
 refine wl_ov (ov_lens us9 rfl) rfl ?_
 refine wl_ov (ov_gtr rfl rfl) rfl ?_
 refine wl_callw rfl cb106 rfl rfl (fun wx hm => (when_any _ _ wx)) ?_
 refine wl_buildSlice (e := 28) (cs := [.int .i64 0, .int .i64 (whenE (decide (200000 < ((t).size : Int))) 2)]) rfl (by kernel_rfl) rfl fun g2 => ?_
 refine wl_callw rfl cb104 rfl rfl (fun wx hm => (first_any [0, whenE (decide (200000 < ((t).size : Int))) 2] _ _ _ wx (hm.blkI 0 rfl) (by simp))) ?_
 refine sg_ rfl (nn_ (sr_ (mv_ rfl (wl_ov (ov_neq rfl rfl) rfl (nn_ ?_)))))
 by_cases hbig : 200000 < ((t).size : Int)
 ·have hF := first_when hbig
  refine gw_cond rfl (fun hh => ?_) (fun hh => ?_)
  ·have h1 : ¬ (firstE [0, whenE (decide (200000 < ((t).size : Int))) 2] = 0) := by simpa using hh
   clear hh
   refine sr_ (mv_ rfl (sg_ rfl (sg_ rfl (sg_ rfl (nn_ ?_)))))
   refine gw_ret ?_
   refine nx_then_ret ?_
   refine nx_ret3 rfl rfl rfl rfl fun wx hm => ?_
   have hz := lg_big (sl := sl) (vl := vl) (t := t) (by omega)
   exact lgReadK.nil ⟨hz.1.trans hF.symm, hz.2.1, hz.2.2⟩ hm.g
  have h1 : firstE [0, whenE (decide (200000 < ((t).size : Int))) 2] = 0 := by simpa using hh
  clear hh
  refine gw_skip (nx_then (sr_ ?_))
  exact absurd (by simpa using h1) (by rw [hF]; decide)
 have hF := first_unless hbig
 refine gw_cond rfl (fun hh => ?_) (fun hh => ?_)
 ·have h1 : ¬ (firstE [0, whenE (decide (200000 < ((t).size : Int))) 2] = 0) := by simpa using hh
  clear hh
  refine sr_ ?_
  exact absurd hF (by simpa using h1)
 have h1 : firstE [0, whenE (decide (200000 < ((t).size : Int))) 2] = 0 := by simpa using hh
 clear hh
 refine gw_skip (nx_then (sr_ ?_))
 have hb : ¬ 200000 < t.size := by omega
 obtain ⟨hok, hll⟩ := lgR_all (t := t) (by omega)
 refine wl_alloc zc47 rfl fun g3 => ?_
 refine nn_ (sr_ (mv_ rfl (wl_ov (ov_makeFunc rfl rfl) rfl ?_)))
 refine wl_callG (γ := Value) (val := fun _ => .tuple #[.int .i64 (lgR t).1, .bool (lgR t).2.1]) (φ := fun _ => True) (K' := fun _ => (fun _ => True)) (L' := fun z => [(g3, 47, [z]), (g2, 28, [.int .i64 0, .int .i64 (whenE (decide (200000 < ((t).size : Int))) 2)]), (g1, 66, [.slice sA sn sc, .slice cA cn cc, .slice vA vn vc, .slice pA pn pc])]) (O' := fun z => [⟨z, 54, 5, (lgR t).2.2.length, (lgR t).2.2.flatMap evEnc⟩]) (X' := fun _ => [SlOld stEnc 15 168 w.heap.size none sA sn sl, SlOld csEnc 2 170 w.heap.size none cA cn cl, SlOld vhEnc 2 158 w.heap.size none vA vn vl, SlOld plEnc 3 161 w.heap.size none pA pn pl, TxtO w.heap.size none]) rfl cb66 rfl rfl (fun wx hm => (lgWl_any t g3 wx (by omega) (hm.blkI 0 rfl) ((hm.fact 4 rfl).here (hm.b _ (List.mem_of_getElem? (i := 0) rfl)).1)).mono fun e w' ⟨v', n', he, hb, ho, hg⟩ => by
  obtain rfl : n' = (lgR t).2.2.length := lgOwn_n ho
  exact ⟨v', he, trivial, hm.handedK (i := 0) rfl hg hb ho (farX_cons (i := 0) SlOld.far' rfl (farX_cons (i := 1) SlOld.far' rfl (farX_cons (i := 2) SlOld.far' rfl (farX_cons (i := 3) SlOld.far' rfl (farX_cons (i := 4) TxtO.far rfl farX_nil)))))⟩) ?_
 rintro v1 _
 refine wl_look (R := ∃ A cc, v1 = .slice A ((lgR t).2.2.length) cc) (fun wx hm => own_slice (hm.ownI 0 rfl)) ?_
 rintro ⟨EA, ecc, rfl⟩
 refine mv_ rfl (wl_ov (ov_extract rfl rfl) rfl (wl_ov (ov_extract rfl rfl) rfl (sg_ rfl (sg_ rfl (nn_ (gw_seq (sr_ (mv_ rfl (wl_ov (ov_un_not rfl) rfl (nn_ ?_))))))))))
 refine gw_cond rfl (fun hh => ?_) (fun hh => ?_)
 ·have ho : ((lgR t).2.1) = false := by simpa using hh
  clear hh
  refine sr_ ?_
  replace ho : (lgR t).2.1 = false := by simpa using ho
  refine mv_ rfl (sg_ rfl (sg_ rfl (sg_ rfl (nn_ ?_))))
  refine gw_ret ?_
  refine nx_then_ret ?_
  refine nx_ret3 rfl rfl rfl rfl fun wx hm => ?_
  exact lgReadK.nil (lg_syn hb ho) hm.g
 have ho : ((lgR t).2.1) = true := by simpa using hh
 clear hh
 refine gw_skip (nx_then (gw_seq (sr_ ?_)))
 replace ho : (lgR t).2.1 = true := by simpa using ho
 refine wl_ov (ov_loads rz66 rfl (fun _ hm => hm.blkI 2 rfl) rfl rfl) rfl ?_
 refine lk_ sc47 0 rfl rfl rfl ?_
 obtain ⟨EL, hEL⟩ : ∃ z, z = (lgR t).2.2 := ⟨_, rfl⟩
 rw [← hEL] at hok hll ⊢
 obtain ⟨LE, hLE⟩ : ∃ z, z = logE sl vl EL := ⟨_, rfl⟩
 refine wl_callv (v := .int .i64 LE) rfl cb110 rfl rfl (fun wx hm => (by rw [hLE]; exact check_any sl vl sA cA vA pA sn sc cn cc vn vc pn pc EL EA _ ecc wx (hm.fact 0 rfl).1 (hm.fact 2 rfl).1 hsok hsn hvn (SlT.ofOwn ev_len (hm.ownI 0 rfl) rfl) hok (by omega) hrise)) ?_
 refine sg_ rfl (nn_ (sr_ (mv_ rfl (wl_ov (ov_neq rfl rfl) rfl (nn_ ?_)))))
 refine gw_cond rfl (fun hh => ?_) (fun hh => ?_)
 ·have hf : ¬ (LE = 0) := by simpa using hh
  clear hh
  refine sr_ ?_
  have hf2 : ¬ logE sl vl (lgR t).2.2 = 0 := by rw [← hEL, ← hLE]; simpa using hf
  refine mv_ rfl (sg_ rfl (sg_ rfl (sg_ rfl (nn_ ?_))))
  refine gw_ret ?_
  refine nx_then_ret ?_
  refine nx_ret3 rfl rfl rfl rfl fun wx hm => ?_
  rw [hLE, hEL]
  exact lgReadK.nil (lg_form hb ho hf2) hm.g
 have hf : LE = 0 := by simpa using hh
 clear hh
 refine gw_skip (nx_then (sr_ ?_))
 have hR := lg_right (sl := sl) (vl := vl) hb ho (by rw [← hEL, ← hLE]; simpa using hf)
 refine lk_ sc47 0 rfl rfl rfl (sg_ rfl (sg_ rfl (sg_ rfl (nn_ ?_))))
 refine gw_ret ?_
 refine nx_ret3 rfl rfl rfl rfl fun wx hm => ?_
 exact ⟨EA, _, ecc, by rw [hR.1, hR.2.1], by rw [hR.2.2, ← hEL]; exact SlT.ofOwn ev_len (hm.ownI 0 rfl) rfl, hm.g⟩
theorem lgRref_any (sl : List St) (cl : List Cs) (vl : List Vh) (pl : List Pl) (sA cA vA pA : Option Addr) (sn sc cn cc vn vc pn pc : Nat) (t : ByteArray) (w : World) (hs : SlT stEnc 15 168 w sA sn sl) (hc : SlT csEnc 2 170 w cA cn cl) (hv : SlT vhEnc 2 158 w vA vn vl) (hp : SlT plEnc 3 161 w pA pn pl) (hsok : ∀ x ∈ sl, StOk x) (_hcok : ∀ x ∈ cl, CsOk x) (_hvok : ∀ x ∈ vl, VhOk x) (_hpok : ∀ x ∈ pl, PlOk x) (hsn : sn ≤ 1000) (_hcn : cn ≤ 1000) (hvn : vn ≤ 1000) (_hpn : pn ≤ 1000) (htx : TxtW w) (hts : t.size ≤ 1000000000) :
  Calls Tryz.prog 39 #[.agg #[.slice sA sn sc, .slice cA cn cc, .slice vA vn vc, .slice pA pn pc], .string t] w (lgReadK sl vl t w) := by
 refine gw_enter ⟨30, w, none, []⟩ Tryz.func39 rfl Tryz.ntmps39 rfl (mem0 (X := [SlOld stEnc 15 168 w.heap.size none sA sn sl, SlOld csEnc 2 170 w.heap.size none cA cn cl, SlOld vhEnc 2 158 w.heap.size none vA vn vl, SlOld plEnc 3 161 w.heap.size none pA pn pl, TxtO w.heap.size none]) (allF_cons hs.old (allF_cons hc.old (allF_cons hv.old (allF_cons hp.old (allF_cons htx.old allF_nil))))) (allL_cons SlOld.lasts (allL_cons SlOld.lasts (allL_cons SlOld.lasts (allL_cons SlOld.lasts (allL_cons TxtO.lasts allL_nil)))))) ?_
 refine sr_ ?_
 refine wl_box rfl rfl rfl fun g1 => ?_
 refine sg_ rfl (sg_ rfl (sg_ rfl (nn_ (gw_seq (sr_ (mv_ rfl ?_))))))
 refine wl_ov (ov_lens us9 rfl) rfl ?_
 refine wl_ov (ov_gtr rfl rfl) rfl ?_
 refine nn_ ?_
 refine gw_cond rfl (fun hh => ?_) (fun hh => ?_)
 ·have hb : 200000 < ((t).size : Int) := by simpa using hh
  clear hh
  refine sr_ (sg_ rfl (sg_ rfl (sg_ rfl (nn_ ?_))))
  refine gw_ret ?_
  refine nx_then_ret ?_
  refine nx_ret3 rfl rfl rfl rfl fun wx hm => ?_
  exact lgReadK.nil (lg_big (by omega)) hm.g
 have hb : ¬ (200000 < ((t).size : Int)) := by simpa using hh
 clear hh
 refine gw_skip (nx_then (sr_ ?_))
 have hb : ¬ 200000 < t.size := by omega
 obtain ⟨hok, hll⟩ := lgR_all (t := t) (by omega)
 refine wl_alloc zc47 rfl fun g2 => ?_
 refine nn_ (sr_ (mv_ rfl (wl_ov (ov_makeFunc rfl rfl) rfl ?_)))
 refine wl_callG (γ := Value) (val := fun _ => .tuple #[.int .i64 (lgR t).1, .bool (lgR t).2.1]) (φ := fun _ => True) (K' := fun _ => (fun _ => True)) (L' := fun z => [(g2, 47, [z]), (g1, 66, [.slice sA sn sc, .slice cA cn cc, .slice vA vn vc, .slice pA pn pc])]) (O' := fun z => [⟨z, 54, 5, (lgR t).2.2.length, (lgR t).2.2.flatMap evEnc⟩]) (X' := fun _ => [SlOld stEnc 15 168 w.heap.size none sA sn sl, SlOld csEnc 2 170 w.heap.size none cA cn cl, SlOld vhEnc 2 158 w.heap.size none vA vn vl, SlOld plEnc 3 161 w.heap.size none pA pn pl, TxtO w.heap.size none]) rfl cb70 rfl rfl (fun wx hm => (lgRl_any t g2 wx (by omega) (hm.blkI 0 rfl) ((hm.fact 4 rfl).here (hm.b _ (List.mem_of_getElem? (i := 0) rfl)).1)).mono fun e w' ⟨v', n', he, hb, ho, hg⟩ => by
  obtain rfl : n' = (lgR t).2.2.length := lgOwn_n ho
  exact ⟨v', he, trivial, hm.handedK (i := 0) rfl hg hb ho (farX_cons (i := 0) SlOld.far' rfl (farX_cons (i := 1) SlOld.far' rfl (farX_cons (i := 2) SlOld.far' rfl (farX_cons (i := 3) SlOld.far' rfl (farX_cons (i := 4) TxtO.far rfl farX_nil)))))⟩) ?_
 rintro v1 _
 refine wl_look (R := ∃ A cc, v1 = .slice A ((lgR t).2.2.length) cc) (fun wx hm => own_slice (hm.ownI 0 rfl)) ?_
 rintro ⟨EA, ecc, rfl⟩
 refine mv_ rfl (wl_ov (ov_extract rfl rfl) rfl (wl_ov (ov_extract rfl rfl) rfl (sg_ rfl (sg_ rfl (nn_ (gw_seq (sr_ (mv_ rfl (wl_ov (ov_un_not rfl) rfl (nn_ ?_))))))))))
 refine gw_cond rfl (fun hh => ?_) (fun hh => ?_)
 ·have ho : ((lgR t).2.1) = false := by simpa using hh
  clear hh
  refine sr_ ?_
  replace ho : (lgR t).2.1 = false := by simpa using ho
  refine mv_ rfl (sg_ rfl (sg_ rfl (sg_ rfl (nn_ ?_))))
  refine gw_ret ?_
  refine nx_then_ret ?_
  refine nx_ret3 rfl rfl rfl rfl fun wx hm => ?_
  exact lgReadK.nil (lg_syn hb ho) hm.g
 have ho : ((lgR t).2.1) = true := by simpa using hh
 clear hh
 refine gw_skip (nx_then (gw_seq (sr_ ?_)))
 replace ho : (lgR t).2.1 = true := by simpa using ho
 refine wl_ov (ov_loads rz66 rfl (fun _ hm => hm.blkI 1 rfl) rfl rfl) rfl ?_
 refine lk_ sc47 0 rfl rfl rfl ?_
 obtain ⟨EL, hEL⟩ : ∃ z, z = (lgR t).2.2 := ⟨_, rfl⟩
 rw [← hEL] at hok hll ⊢
 obtain ⟨LE, hLE⟩ : ∃ z, z = logE sl vl EL := ⟨_, rfl⟩
 refine wl_callv (v := .int .i64 LE) rfl cb123 rfl rfl (fun wx hm => (by rw [hLE]; exact logFault_any sl vl sA cA vA pA sn sc cn cc vn vc pn pc EL EA _ ecc wx (hm.fact 0 rfl).1 (hm.fact 2 rfl).1 hsok hsn hvn (SlT.ofOwn ev_len (hm.ownI 0 rfl) rfl) hok (by omega))) ?_
 refine sg_ rfl (nn_ (sr_ (mv_ rfl (wl_ov (ov_neq rfl rfl) rfl (nn_ ?_)))))
 refine gw_cond rfl (fun hh => ?_) (fun hh => ?_)
 ·have hf : ¬ (LE = 0) := by simpa using hh
  clear hh
  refine sr_ ?_
  have hf2 : ¬ logE sl vl (lgR t).2.2 = 0 := by rw [← hEL, ← hLE]; simpa using hf
  refine mv_ rfl (sg_ rfl (sg_ rfl (sg_ rfl (nn_ ?_))))
  refine gw_ret ?_
  refine nx_then_ret ?_
  refine nx_ret3 rfl rfl rfl rfl fun wx hm => ?_
  rw [hLE, hEL]
  exact lgReadK.nil (lg_form hb ho hf2) hm.g
 have hf : LE = 0 := by simpa using hh
 clear hh
 refine gw_skip (nx_then (sr_ ?_))
 have hR := lg_right (sl := sl) (vl := vl) hb ho (by rw [← hEL, ← hLE]; simpa using hf)
 refine lk_ sc47 0 rfl rfl rfl (sg_ rfl (sg_ rfl (sg_ rfl (nn_ ?_))))
 refine gw_ret ?_
 refine nx_ret3 rfl rfl rfl rfl fun wx hm => ?_
 exact ⟨EA, _, ecc, by rw [hR.1, hR.2.1], by rw [hR.2.2, ← hEL]; exact SlT.ofOwn ev_len (hm.ownI 0 rfl) rfl, hm.g⟩
end Go.Proofs.YtnpcbfllnkiopaaGreatDoor
namespace Go.Proofs.YtnpcbfllnkiopaaGreatDoor
open Go.RowKit
theorem b_ne_selfL (a : ByteArray) : (!(a.toList == a.toList)) = false := by simp
theorem nanL (a : ByteArray) (w : World) : Calls Tryz.prog 176 #[.string a] w (fun e w' => e = .returned (.bool false) ∧ w.grownBy w' none) := by
 refine gw_enter ⟨6, w, none, []⟩ Tryz.func176 rfl Tryz.ntmps176 rfl (mem0 (X := []) allF_nil allL_nil) ?_
 refine sr_ (sg_ rfl (nn_ (sr_ (mv_ rfl (mv_ rfl (wl_ov (ov_sneq rfl rfl) rfl ?_))))))
 refine wl_set 5 (v' := .bool false) rfl (congrArg Value.bool (b_ne_selfL a)) ?_
 refine sg_ rfl (nn_ ?_)
 refine gw_ret ?_
 refine nx_ret1 rfl rfl fun wx hm => ?_
 exact ⟨rfl, hm.g⟩
theorem cmpL (a b : ByteArray) (w : World) : Calls Tryz.prog 85 #[.string a, .string b] w (fun e w' => e = .returned (.int .i64 (cmpS a b)) ∧ w.grownBy w' none) := by
 refine gw_enter ⟨20, w, none, []⟩ Tryz.func85 rfl Tryz.ntmps85 rfl (mem0 (X := []) allF_nil allL_nil) ?_
 refine sr_ (sg_ rfl (nn_ (sr_ (mv_ rfl ?_))))
 refine wl_callv rfl cb176 rfl rfl (fun wx hm => (nanL _ wx)) ?_
 refine sg_ rfl (nn_ (sr_ (mv_ rfl ?_)))
 refine wl_callv rfl cb176 rfl rfl (fun wx hm => (nanL _ wx)) ?_
 refine sg_ rfl (nn_ (gw_seq (sr_ (mv_ rfl (nn_ (cf_ rfl (gw_skip (nx_then (gw_seq (gw_seq ?_))))))))))
 refine gw_region (mv_ rfl (nn_ (cf_ rfl (gw_skip (nx_then (gw_seq (sr_ (mv_ rfl (mv_ rfl ?_)))))))))
 refine wl_ov (ov_slss rfl rfl) rfl ?_
 refine nn_ ?_
 refine gw_cond rfl (fun hh => ?_) (fun hh => ?_)
 ·have h1 : (Op.bytesLess a.toList b.toList) = true := by simpa using hh
  clear hh
  refine sr_ (sg_ rfl ?_)
  refine wl_set 4 (v' := .int .i64 (-1)) rfl rfl ?_
  refine nn_ ?_
  refine gw_ret ?_
  refine nx_then_ret ?_
  refine nx_ret1 rfl rfl fun wx hm => ?_
  refine ⟨?_, hm.g⟩
  unfold cmpS; rw [if_pos h1]
 have h1 : (Op.bytesLess a.toList b.toList) = false := by simpa using hh
 clear hh
 refine gw_skip (nx_then (gw_seq (sr_ (mv_ rfl (mv_ rfl ?_)))))
 refine wl_ov (ov_sgtr rfl rfl) rfl ?_
 refine nn_ ?_
 refine gw_cond rfl (fun hh => ?_) (fun hh => ?_)
 ·have h2 : (Op.bytesLess a.toList b.toList || a.toList == b.toList) = false := by simpa only [Bool.not_eq_true', Bool.not_eq_false'] using hh
  clear hh
  refine sr_ (sg_ rfl (nn_ ?_))
  refine gw_ret ?_
  refine nx_then_ret ?_
  refine nx_ret1 rfl rfl fun wx hm => ?_
  refine ⟨?_, hm.g⟩
  unfold cmpS; rw [if_neg (by rw [h1]; decide), if_pos h2]
 have h2 : (Op.bytesLess a.toList b.toList || a.toList == b.toList) = true := by simpa only [Bool.not_eq_true', Bool.not_eq_false'] using hh
 clear hh
 refine gw_skip (nx_then (sr_ (sg_ rfl (nn_ ?_))))
 refine gw_ret ?_
 refine nx_ret1 rfl rfl fun wx hm => ?_
 refine ⟨?_, hm.g⟩
 unfold cmpS; rw [if_neg (by rw [h1]; decide), if_neg (by rw [h2]; decide)]
theorem hasL1 (gk : Nat) (w : World) (hk : Blk w gk 9 [.string ⟨#[115]⟩]) : Calls Tryz.prog 262 #[.agg #[.string ⟨#[115]⟩, .int .i64 0, .int .i64 0, .int .i64 0, .int .i64 0, .int .i64 0, .int .i64 0, .int .i64 0, .int .i64 0, .int .i64 0, .int .i64 0, .int .i64 0, .int .i64 0, .int .i64 0, .int .i64 0], .pointer (some ⟨gk, 0, none⟩)] w (fun e w' => e = .returned (.bool true) ∧ w.grownBy w' none) := by
 refine gw_enter ⟨8, w, none, []⟩ Tryz.func262 rfl Tryz.ntmps262 rfl (mem0 (X := [BlkOld w.heap.size none gk 9 [.string ⟨#[115]⟩]]) (allF_cons hk.old allF_nil) (allL_cons BlkOld.lasts allL_nil)) ?_
 refine sr_ ?_
 refine wl_box rfl rfl rfl fun g1 => ?_
 refine sg_ rfl (nn_ (sr_ (fd_ fo168_0 rfl rfl (lk_ sc9 0 rfl rfl rfl ?_))))
 refine wl_ov (ov_load (v := .string ⟨#[115]⟩) sc9 rfl (fun _ hm => (hm.fact 0 rfl).2) rfl) rfl ?_
 refine wl_ov (ov_seql rfl rfl) rfl ?_
 refine wl_set 7 (v' := .bool true) rfl (congrArg Value.bool (by decide +kernel)) ?_
 refine sg_ rfl (nn_ ?_)
 refine gw_ret ?_
 refine nx_ret1 rfl rfl fun wx hm => ?_
 exact ⟨rfl, hm.g⟩
theorem ixL (gs : Nat) (gk : Nat) (w : World) (hbs : Blk w gs 168 [.string ⟨#[115]⟩, .int .i64 0, .int .i64 0, .int .i64 0, .int .i64 0, .int .i64 0, .int .i64 0, .int .i64 0, .int .i64 0, .int .i64 0, .int .i64 0, .int .i64 0, .int .i64 0, .int .i64 0, .int .i64 0]) (hk : Blk w gk 9 [.string ⟨#[115]⟩]) : Calls Tryz.prog 264 #[.slice (some ⟨gs, 0, none⟩) 1 1, .func (.func 262) #[] #[.pointer (some ⟨gk, 0, none⟩)]] w (fun e w' => e = .returned (.int .i64 0) ∧ w.grownBy w' none) := by
 refine gw_enter ⟨19, w, none, []⟩ Tryz.func264 rfl Tryz.ntmps264 rfl (mem0 (X := [BlkOld w.heap.size none gs 168 [.string ⟨#[115]⟩, .int .i64 0, .int .i64 0, .int .i64 0, .int .i64 0, .int .i64 0, .int .i64 0, .int .i64 0, .int .i64 0, .int .i64 0, .int .i64 0, .int .i64 0, .int .i64 0, .int .i64 0, .int .i64 0], BlkOld w.heap.size none gk 9 [.string ⟨#[115]⟩]]) (allF_cons hbs.old (allF_cons hk.old allF_nil)) (allL_cons BlkOld.lasts (allL_cons BlkOld.lasts allL_nil))) ?_
 refine sr_ (sg_ rfl (nn_ (gw_seq (sr_ (mv_ rfl (wl_ov (ov_len es61 rfl) rfl ?_))))))
 refine wl_set 7 (v' := .int .i64 1) rfl rfl ?_
 refine mv_ rfl (nn_ (gw_block ?_))
 refine gw_rounds 4 ?_
 refine gr_next ?_
 refine sr_ (wl_ov (ov_lss rfl rfl) rfl ?_)
 refine wl_set 9 (v' := .bool true) rfl (congrArg Value.bool (by decide)) ?_
 refine nn_ (gw_seq (ct_ rfl (gw_skip (nx_then (gw_seq (gw_block (sr_ (mv_ rfl (sg_ rfl (nn_ ?_))))))))))
 refine sr_ (mv_ rfl (mv_ rfl (mv_ rfl ?_)))
 refine wl_ov (ov_index (j := 0) es61 rfl rfl (by decide)) rfl ?_
 refine wl_ov (ov_loads (vs := [.string ⟨#[115]⟩, .int .i64 0, .int .i64 0, .int .i64 0, .int .i64 0, .int .i64 0, .int .i64 0, .int .i64 0, .int .i64 0, .int .i64 0, .int .i64 0, .int .i64 0, .int .i64 0, .int .i64 0, .int .i64 0]) rz168 rfl (fun _ hm => (hm.fact 0 rfl).2) rfl rfl) rfl ?_
 refine wl_callv rfl cb262 rfl rfl (fun wx hm => (hasL1 gk wx (hm.fact 1 rfl).2)) ?_
 refine nn_ (ct_ rfl (sr_ (mv_ rfl (sg_ rfl (nn_ ?_)))))
 refine gw_ret ?_
 refine nx_blk_ret (nx_then_ret (nx_then_ret (nx_blk_ret (nx_then_ret ?_))))
 refine nx_ret1 rfl rfl fun wx hm => ?_
 exact ⟨rfl, hm.g⟩
theorem cfL (gs : Nat) (gk : Nat) (w : World) (hbs : Blk w gs 168 [.string ⟨#[115]⟩, .int .i64 0, .int .i64 0, .int .i64 0, .int .i64 0, .int .i64 0, .int .i64 0, .int .i64 0, .int .i64 0, .int .i64 0, .int .i64 0, .int .i64 0, .int .i64 0, .int .i64 0, .int .i64 0]) (hk : Blk w gk 9 [.string ⟨#[115]⟩]) : Calls Tryz.prog 261 #[.slice (some ⟨gs, 0, none⟩) 1 1, .func (.func 262) #[] #[.pointer (some ⟨gk, 0, none⟩)]] w (fun e w' => e = .returned (.bool true) ∧ w.grownBy w' none) := by
 refine gw_enter ⟨9, w, none, []⟩ Tryz.func261 rfl Tryz.ntmps261 rfl (mem0 (X := [BlkOld w.heap.size none gs 168 [.string ⟨#[115]⟩, .int .i64 0, .int .i64 0, .int .i64 0, .int .i64 0, .int .i64 0, .int .i64 0, .int .i64 0, .int .i64 0, .int .i64 0, .int .i64 0, .int .i64 0, .int .i64 0, .int .i64 0, .int .i64 0], BlkOld w.heap.size none gk 9 [.string ⟨#[115]⟩]]) (allF_cons hbs.old (allF_cons hk.old allF_nil)) (allL_cons BlkOld.lasts (allL_cons BlkOld.lasts allL_nil))) ?_
 refine sr_ (sg_ rfl (nn_ (sr_ (mv_ rfl (mv_ rfl ?_)))))
 refine wl_callv rfl cb264 rfl rfl (fun wx hm => (ixL gs gk wx (hm.fact 0 rfl).2 (hm.fact 1 rfl).2)) ?_
 refine wl_ov (ov_geq rfl rfl) rfl ?_
 refine wl_set 8 (v' := .bool true) rfl (congrArg Value.bool (by decide)) ?_
 refine sg_ rfl (nn_ ?_)
 refine gw_ret ?_
 refine nx_ret1 rfl rfl fun wx hm => ?_
 exact ⟨rfl, hm.g⟩
theorem hasStL (gs : Nat) (gc : Nat) (gv : Nat) (w : World) (hbs : Blk w gs 168 [.string ⟨#[115]⟩, .int .i64 0, .int .i64 0, .int .i64 0, .int .i64 0, .int .i64 0, .int .i64 0, .int .i64 0, .int .i64 0, .int .i64 0, .int .i64 0, .int .i64 0, .int .i64 0, .int .i64 0, .int .i64 0]) (hbc : Blk w gc 170 [.string ⟨#[99]⟩, .string ⟨#[]⟩]) (hbv : Blk w gv 158 [.string ⟨#[118]⟩, .string ⟨#[99]⟩]) : Calls Tryz.prog 195 #[.agg #[.slice (some ⟨gs, 0, none⟩) 1 1, .slice (some ⟨gc, 0, none⟩) 1 1, .slice (some ⟨gv, 0, none⟩) 1 1, .slice none 0 0], .string ⟨#[115]⟩] w (fun e w' => e = .returned (.bool true) ∧ w.grownBy w' none) := by
 refine gw_enter ⟨9, w, none, []⟩ Tryz.func195 rfl Tryz.ntmps195 rfl (mem0 (X := [BlkOld w.heap.size none gs 168 [.string ⟨#[115]⟩, .int .i64 0, .int .i64 0, .int .i64 0, .int .i64 0, .int .i64 0, .int .i64 0, .int .i64 0, .int .i64 0, .int .i64 0, .int .i64 0, .int .i64 0, .int .i64 0, .int .i64 0, .int .i64 0], BlkOld w.heap.size none gc 170 [.string ⟨#[99]⟩, .string ⟨#[]⟩], BlkOld w.heap.size none gv 158 [.string ⟨#[118]⟩, .string ⟨#[99]⟩]]) (allF_cons hbs.old (allF_cons hbc.old (allF_cons hbv.old allF_nil))) (allL_cons BlkOld.lasts (allL_cons BlkOld.lasts (allL_cons BlkOld.lasts allL_nil)))) ?_
 refine sr_ ?_
 refine wl_box rfl rfl rfl fun g1 => ?_
 refine wl_box rfl rfl rfl fun g2 => ?_
 refine sg_ rfl (nn_ (sr_ (fd_ fo66_0 rfl rfl (lk_ sc61 1 rfl rfl rfl (wl_ov (ov_makeFunc rfl rfl) rfl ?_)))))
 refine wl_callv rfl cb261 rfl rfl (fun wx hm => (cfL gs _ wx (hm.fact 0 rfl).2 (hm.blkI 0 rfl))) ?_
 refine sg_ rfl (nn_ ?_)
 refine gw_ret ?_
 refine nx_ret1 rfl rfl fun wx hm => ?_
 exact ⟨rfl, hm.g⟩
theorem vL1 (w : World) : Calls Tryz.prog 260 #[.agg #[.string ⟨#[118]⟩, .string ⟨#[99]⟩], .string ⟨#[118]⟩] w (fun e w' => e = .returned (.int .i64 0) ∧ w.grownBy w' none) := by
 refine gw_enter ⟨9, w, none, []⟩ Tryz.func260 rfl Tryz.ntmps260 rfl (mem0 (X := []) allF_nil allL_nil) ?_
 refine sr_ ?_
 refine wl_box rfl rfl rfl fun g1 => ?_
 refine sg_ rfl (nn_ (sr_ (fd_ fo158_0 rfl rfl (lk_ sc9 0 rfl rfl rfl (mv_ rfl ?_)))))
 refine wl_callv (v := .int .i64 0) rfl cb85 rfl rfl (fun wx hm => (by have h := cmpL ⟨#[118]⟩ ⟨#[118]⟩ wx; rw [show cmpS ⟨#[118]⟩ ⟨#[118]⟩ = 0 by decide +kernel] at h; exact h)) ?_
 refine sg_ rfl (nn_ ?_)
 refine gw_ret ?_
 refine nx_ret1 rfl rfl fun wx hm => ?_
 exact ⟨rfl, hm.g⟩
theorem bsL (gv : Nat) (w : World) (hbv : Blk w gv 158 [.string ⟨#[118]⟩, .string ⟨#[99]⟩]) : Calls Tryz.prog 259 #[.slice (some ⟨gv, 0, none⟩) 1 1, .string ⟨#[118]⟩, .func (.func 260) #[] #[]] w (fun e w' => e = .returned (.tuple #[.int .i64 0, .bool true]) ∧ w.grownBy w' none) := by
 refine gw_enter ⟨49, w, none, []⟩ Tryz.func259 rfl Tryz.ntmps259 rfl (mem0 (X := [BlkOld w.heap.size none gv 158 [.string ⟨#[118]⟩, .string ⟨#[99]⟩]]) (allF_cons hbv.old allF_nil) (allL_cons BlkOld.lasts allL_nil)) ?_
 refine sr_ (sg_ rfl (sg_ rfl (nn_ (sr_ (mv_ rfl (wl_ov (ov_len es63 rfl) rfl ?_))))))
 refine wl_set 13 (v' := .int .i64 1) rfl rfl ?_
 refine sg_ rfl (nn_ (sr_ (mv_ rfl (sg_ rfl (sg_ rfl (nn_ (gw_seq (gw_block ?_))))))))
 refine gw_rounds 4 ?_
 refine gr_next ?_
 refine gw_seq (sr_ (mv_ rfl (mv_ rfl (wl_ov (ov_lss rfl rfl) rfl ?_))))
 refine wl_set 17 (v' := .bool true) rfl (congrArg Value.bool (by decide)) ?_
 refine nn_ (ct_ rfl (gw_skip (nx_then (gw_block (sr_ (mv_ rfl (mv_ rfl (ad_ rfl rfl ?_))))))))
 refine wl_set 20 (v' := .int .i64 1) rfl rfl ?_
 refine wl_ov (ov_u64 (a := 1) (by kernel_rfl) (by kernel_rfl) rfl (by omega)) rfl ?_
 refine wl_ov (ov_shru1 (a := 1) rfl rfl) rfl ?_
 refine wl_ov (ov_i64 (a := 1 / 2) (by kernel_rfl) (by kernel_rfl) rfl (by omega)) rfl ?_
 refine wl_set 23 (v' := .int .i64 0) rfl rfl ?_
 refine sg_ rfl (nn_ (sr_ (mv_ rfl (mv_ rfl (mv_ rfl ?_)))))
 refine wl_ov (ov_index (j := 0) es63 rfl rfl (by decide)) rfl ?_
 refine wl_ov (ov_loads (vs := [.string ⟨#[118]⟩, .string ⟨#[99]⟩]) rz158 rfl (fun _ hm => (hm.fact 0 rfl).2) rfl rfl) rfl ?_
 refine mv_ rfl ?_
 refine wl_callv rfl cb260 rfl rfl (fun wx hm => (vL1 wx)) ?_
 refine wl_ov (ov_lss rfl rfl) rfl ?_
 refine wl_set 31 (v' := .bool false) rfl (congrArg Value.bool (by decide)) ?_
 refine nn_ (cf_ rfl (gw_region (mv_ rfl (sg_ rfl (wl_nil (nx_blk_nrm ?_))))))
 refine nx_next ?_
 refine gr_next ?_
 refine gw_seq (sr_ (mv_ rfl (mv_ rfl (wl_ov (ov_lss rfl rfl) rfl ?_))))
 refine wl_set 17 (v' := .bool false) rfl (congrArg Value.bool (by decide)) ?_
 refine nn_ (cf_ rfl ?_)
 refine gw_exit ?_
 refine nx_then_exit (nx_then_exit ?_)
 refine nx_blk_here ?_
 refine nx_then (sr_ (mv_ rfl (mv_ rfl (mv_ rfl (wl_ov (ov_lss rfl rfl) rfl ?_)))))
 refine wl_set 38 (v' := .bool true) rfl (congrArg Value.bool (by decide)) ?_
 refine mv_ rfl (wl_guard_on rfl rfl rfl (mv_ rfl (wl_guard_on rfl rfl rfl (mv_ rfl (wl_guard_on rfl rfl rfl (mv_ rfl (wl_guard_on rfl rfl rfl ?_)))))))
 refine wl_ov (ov_index (j := 0) es63 rfl rfl (by decide)) rfl ?_
 refine wl_guard_on rfl rfl rfl ?_
 refine wl_ov (ov_loads (vs := [.string ⟨#[118]⟩, .string ⟨#[99]⟩]) rz158 rfl (fun _ hm => (hm.fact 0 rfl).2) rfl rfl) rfl ?_
 refine wl_guard_on rfl rfl rfl (mv_ rfl (wl_guard_on rfl rfl rfl ?_))
 refine wl_callv rfl cb260 rfl rfl (fun wx hm => (vL1 wx)) ?_
 refine wl_guard_on rfl rfl rfl (wl_ov (ov_eql rfl rfl) rfl ?_)
 refine wl_set 47 (v' := .bool true) rfl (congrArg Value.bool (by decide)) ?_
 refine pt_ rfl rfl (sg_ rfl (sg_ rfl (nn_ ?_)))
 refine gw_ret ?_
 refine nx_ret2 rfl rfl rfl fun wx hm => ?_
 exact ⟨rfl, hm.g⟩
theorem vehL (gs : Nat) (gc : Nat) (gv : Nat) (w : World) (hbs : Blk w gs 168 [.string ⟨#[115]⟩, .int .i64 0, .int .i64 0, .int .i64 0, .int .i64 0, .int .i64 0, .int .i64 0, .int .i64 0, .int .i64 0, .int .i64 0, .int .i64 0, .int .i64 0, .int .i64 0, .int .i64 0, .int .i64 0]) (hbc : Blk w gc 170 [.string ⟨#[99]⟩, .string ⟨#[]⟩]) (hbv : Blk w gv 158 [.string ⟨#[118]⟩, .string ⟨#[99]⟩]) : Calls Tryz.prog 194 #[.agg #[.slice (some ⟨gs, 0, none⟩) 1 1, .slice (some ⟨gc, 0, none⟩) 1 1, .slice (some ⟨gv, 0, none⟩) 1 1, .slice none 0 0], .string ⟨#[118]⟩] w (fun e w' => e = .returned (.int .i64 0) ∧ w.grownBy w' none) := by
 refine gw_enter ⟨17, w, none, []⟩ Tryz.func194 rfl Tryz.ntmps194 rfl (mem0 (X := [BlkOld w.heap.size none gs 168 [.string ⟨#[115]⟩, .int .i64 0, .int .i64 0, .int .i64 0, .int .i64 0, .int .i64 0, .int .i64 0, .int .i64 0, .int .i64 0, .int .i64 0, .int .i64 0, .int .i64 0, .int .i64 0, .int .i64 0, .int .i64 0], BlkOld w.heap.size none gc 170 [.string ⟨#[99]⟩, .string ⟨#[]⟩], BlkOld w.heap.size none gv 158 [.string ⟨#[118]⟩, .string ⟨#[99]⟩]]) (allF_cons hbs.old (allF_cons hbc.old (allF_cons hbv.old allF_nil))) (allL_cons BlkOld.lasts (allL_cons BlkOld.lasts (allL_cons BlkOld.lasts allL_nil)))) ?_
 refine sr_ ?_
 refine wl_box rfl rfl rfl fun g1 => ?_
 refine sg_ rfl (nn_ (sr_ (fd_ fo66_2 rfl rfl (lk_ sc63 0 rfl rfl rfl (mv_ rfl ?_)))))
 refine wl_callv rfl cb259 rfl rfl (fun wx hm => (bsL gv wx (hm.fact 2 rfl).2)) ?_
 refine mv_ rfl (wl_ov (ov_extract rfl rfl) rfl (wl_ov (ov_extract rfl rfl) rfl (sg_ rfl (sg_ rfl (nn_ (gw_seq (sr_ (mv_ rfl (wl_ov (ov_un_not rfl) rfl ?_)))))))))
 refine wl_set 15 (v' := .bool false) rfl (congrArg Value.bool (by decide)) ?_
 refine nn_ (cf_ rfl (gw_skip (nx_then (sr_ (mv_ rfl (sg_ rfl (nn_ ?_)))))))
 refine gw_ret ?_
 refine nx_ret1 rfl rfl fun wx hm => ?_
 exact ⟨rfl, hm.g⟩
theorem oneS_ok : ∀ x ∈ [(⟨⟨#[115]⟩, [0, 0, 0, 0, 0, 0, 0, 0, 0, 0, 0, 0, 0, 0]⟩ : St)], StOk x := fun x hx => by
  rw [List.mem_singleton.1 hx]; exact ⟨rfl, by decide, by decide⟩
theorem oneC_ok : ∀ x ∈ [(⟨⟨#[99]⟩, ⟨#[]⟩⟩ : Cs)], CsOk x := fun x hx => by
  rw [List.mem_singleton.1 hx]; exact ⟨by decide, by decide⟩
theorem oneS_zero : stationsE [(⟨⟨#[115]⟩, [0, 0, 0, 0, 0, 0, 0, 0, 0, 0, 0, 0, 0, 0]⟩ : St)] = 0 := by decide +kernel
theorem oneC_zero : classesE [(⟨⟨#[99]⟩, ⟨#[]⟩⟩ : Cs)] = 0 := by decide +kernel
theorem oneC_ix : ixP (csP ⟨#[99]⟩) [(⟨⟨#[99]⟩, ⟨#[]⟩⟩ : Cs)] 0 = 0 := by decide +kernel
theorem slS {w : World} {g : Nat} (h : Blk w g 168 [.string ⟨#[115]⟩, .int .i64 0, .int .i64 0, .int .i64 0, .int .i64 0, .int .i64 0, .int .i64 0, .int .i64 0, .int .i64 0, .int .i64 0, .int .i64 0, .int .i64 0, .int .i64 0, .int .i64 0, .int .i64 0]) : SlT stEnc 15 168 w (some ⟨g, 0, none⟩) 1 [(⟨⟨#[115]⟩, [0, 0, 0, 0, 0, 0, 0, 0, 0, 0, 0, 0, 0, 0]⟩ : St)] := ⟨rfl, fun _ => ⟨g, 0, _, _, rfl, h, fun i x hx j v hv => by
  match i, hx with
  | 0, hx =>
    simp only [List.getElem?_cons_zero, Option.some.injEq] at hx
    subst hx
    rw [show 0 + 0 * 15 + j = j by omega, List.getElem?_toArray]; exact hv
  | i + 1, hx => simp at hx⟩⟩
theorem platesL (gs : Nat) (gc : Nat) (gv : Nat) (w : World) (hbs : Blk w gs 168 [.string ⟨#[115]⟩, .int .i64 0, .int .i64 0, .int .i64 0, .int .i64 0, .int .i64 0, .int .i64 0, .int .i64 0, .int .i64 0, .int .i64 0, .int .i64 0, .int .i64 0, .int .i64 0, .int .i64 0, .int .i64 0]) (hbc : Blk w gc 170 [.string ⟨#[99]⟩, .string ⟨#[]⟩]) (hbv : Blk w gv 158 [.string ⟨#[118]⟩, .string ⟨#[99]⟩]) : Calls Tryz.prog 190 #[.agg #[.slice (some ⟨gs, 0, none⟩) 1 1, .slice (some ⟨gc, 0, none⟩) 1 1, .slice (some ⟨gv, 0, none⟩) 1 1, .slice none 0 0]] w (fun e w' => e = .returned (.int .i64 0) ∧ w.grownBy w' none) := by
 refine gw_enter ⟨97, w, none, []⟩ Tryz.func190 rfl Tryz.ntmps190 rfl (mem0 (X := [BlkOld w.heap.size none gs 168 [.string ⟨#[115]⟩, .int .i64 0, .int .i64 0, .int .i64 0, .int .i64 0, .int .i64 0, .int .i64 0, .int .i64 0, .int .i64 0, .int .i64 0, .int .i64 0, .int .i64 0, .int .i64 0, .int .i64 0, .int .i64 0], BlkOld w.heap.size none gc 170 [.string ⟨#[99]⟩, .string ⟨#[]⟩], BlkOld w.heap.size none gv 158 [.string ⟨#[118]⟩, .string ⟨#[99]⟩]]) (allF_cons hbs.old (allF_cons hbc.old (allF_cons hbv.old allF_nil))) (allL_cons BlkOld.lasts (allL_cons BlkOld.lasts (allL_cons BlkOld.lasts allL_nil)))) ?_
 refine sr_ ?_
 refine wl_box rfl rfl rfl fun g1 => ?_
 refine sg_ rfl (nn_ (gw_seq (sr_ (fd_ fo66_3 rfl rfl (lk_ sc64 0 rfl rfl rfl (wl_ov (ov_len es64 rfl) rfl ?_))))))
 refine wl_set 10 (v' := .int .i64 0) rfl rfl ?_
 refine wl_ov (ov_gtr rfl rfl) rfl ?_
 refine wl_set 11 (v' := .bool false) rfl (congrArg Value.bool (by decide)) ?_
 refine nn_ (cf_ rfl (gw_skip (nx_then (gw_seq (sr_ (fd_ fo66_3 rfl rfl (lk_ sc64 0 rfl rfl rfl (wl_ov (ov_len es64 rfl) rfl ?_))))))))
 refine wl_set 14 (v' := .int .i64 0) rfl rfl ?_
 refine mv_ rfl (nn_ (gw_block ?_))
 refine gw_rounds 4 ?_
 refine gr_next ?_
 refine sr_ (wl_ov (ov_lss rfl rfl) rfl ?_)
 refine wl_set 16 (v' := .bool false) rfl (congrArg Value.bool (by decide)) ?_
 refine nn_ (gw_seq (cf_ rfl ?_))
 refine gw_exit ?_
 refine nx_then_exit (nx_then_exit ?_)
 refine nx_blk_here ?_
 refine nx_then (sr_ (sg_ rfl (nn_ ?_)))
 refine gw_ret ?_
 refine nx_ret1 rfl rfl fun wx hm => ?_
 exact ⟨rfl, hm.g⟩
theorem fleetL (gs : Nat) (gc : Nat) (gv : Nat) (w : World) (hbs : Blk w gs 168 [.string ⟨#[115]⟩, .int .i64 0, .int .i64 0, .int .i64 0, .int .i64 0, .int .i64 0, .int .i64 0, .int .i64 0, .int .i64 0, .int .i64 0, .int .i64 0, .int .i64 0, .int .i64 0, .int .i64 0, .int .i64 0]) (hbc : Blk w gc 170 [.string ⟨#[99]⟩, .string ⟨#[]⟩]) (hbv : Blk w gv 158 [.string ⟨#[118]⟩, .string ⟨#[99]⟩]) : Calls Tryz.prog 105 #[.agg #[.slice (some ⟨gs, 0, none⟩) 1 1, .slice (some ⟨gc, 0, none⟩) 1 1, .slice (some ⟨gv, 0, none⟩) 1 1, .slice none 0 0]] w (fun e w' => e = .returned (.int .i64 0) ∧ w.grownBy w' none) := by
 refine gw_enter ⟨60, w, none, []⟩ Tryz.func105 rfl Tryz.ntmps105 rfl (mem0 (X := [BlkOld w.heap.size none gs 168 [.string ⟨#[115]⟩, .int .i64 0, .int .i64 0, .int .i64 0, .int .i64 0, .int .i64 0, .int .i64 0, .int .i64 0, .int .i64 0, .int .i64 0, .int .i64 0, .int .i64 0, .int .i64 0, .int .i64 0, .int .i64 0], BlkOld w.heap.size none gc 170 [.string ⟨#[99]⟩, .string ⟨#[]⟩], BlkOld w.heap.size none gv 158 [.string ⟨#[118]⟩, .string ⟨#[99]⟩]]) (allF_cons hbs.old (allF_cons hbc.old (allF_cons hbv.old allF_nil))) (allL_cons BlkOld.lasts (allL_cons BlkOld.lasts (allL_cons BlkOld.lasts allL_nil)))) ?_
 refine sr_ ?_
 refine wl_box rfl rfl rfl fun g1 => ?_
 refine sg_ rfl (nn_ (gw_seq (gw_seq ?_)))
 refine gd (fun wz => Blk wz g1 66 [.slice (some ⟨gs, 0, none⟩) 1 1, .slice (some ⟨gc, 0, none⟩) 1 1, .slice (some ⟨gv, 0, none⟩) 1 1, .slice none 0 0] ∧ (BlkOld w.heap.size none gs 168 [.string ⟨#[115]⟩, .int .i64 0, .int .i64 0, .int .i64 0, .int .i64 0, .int .i64 0, .int .i64 0, .int .i64 0, .int .i64 0, .int .i64 0, .int .i64 0, .int .i64 0, .int .i64 0, .int .i64 0, .int .i64 0]) wz ∧ (BlkOld w.heap.size none gc 170 [.string ⟨#[99]⟩, .string ⟨#[]⟩]) wz ∧ (BlkOld w.heap.size none gv 158 [.string ⟨#[118]⟩, .string ⟨#[99]⟩]) wz ∧ True) mixed (fun _ hm => ⟨hm.bl 0, hm.fa 0, hm.fa 1, hm.fa 2, trivial⟩) fun z => ?_
 refine wt 0 14 1 rfl z (ov_field fo66_0 rfl rfl) ?_
 refine wt 1 14 3 rfl z (ov_load sc61 rfl (fun _ hm => hm.1) rfl) ?_
 refine wt 3 14 11 rfl z (ov_field fo66_1 rfl rfl) ?_
 refine wt 4 14 27 rfl z (ov_load sc62 rfl (fun _ hm => hm.1) rfl) ?_
 refine wt 6 14 91 rfl z (ov_field fo66_2 rfl rfl) ?_
 refine wt 7 14 219 rfl z (ov_load sc63 rfl (fun _ hm => hm.1) rfl) ?_
 refine wt 8 14 475 rfl z (ov_len es63 rfl) ?_
 refine wa_set 14 (v' := .int .i64 1) rfl rfl ?_
 refine wt 9 14 987 rfl z (ov_gtr rfl rfl) ?_
 refine wa_set 15 (v' := .bool false) rfl (congrArg Value.bool (by decide)) ?_
 refine wa1 2 rfl ?_
 refine wl_callv (v := .int .i64 0) rfl cb187 rfl rfl (fun wx hm => (by have h := checkStations_any [(⟨⟨#[115]⟩, [0, 0, 0, 0, 0, 0, 0, 0, 0, 0, 0, 0, 0, 0]⟩ : St)] _ 1 1 wx (slS (hm.fact 0 rfl).2) oneS_ok (by omega); rw [oneS_zero] at h; exact h)) ?_
 refine wl_nil ?_
 refine nw 14 991 (fun _ hm => ⟨hm.bl 0, hm.fa 0, hm.fa 1, hm.fa 2, trivial⟩) fun z => ?_
 refine wa1 5 rfl ?_
 refine wl_callv (v := .int .i64 0) rfl cb188 rfl rfl (fun wx hm => (by have h := checkClasses_any [(⟨⟨#[99]⟩, ⟨#[]⟩⟩ : Cs)] _ 1 1 wx (SlT.ofBlk (l := [(⟨⟨#[99]⟩, ⟨#[]⟩⟩ : Cs)]) cs_len (hm.fact 1 rfl).2) oneC_ok (by omega); rw [oneC_zero] at h; exact h)) ?_
 refine wl_nil ?_
 refine nw 14 1023 (fun _ hm => ⟨hm.bl 0, hm.fa 0, hm.fa 1, hm.fa 2, trivial⟩) fun z => ?_
 refine wa1 10 rfl ?_
 refine wl_callw (v := .int .i64 0) rfl cb106 rfl rfl (fun wx hm => (by have h := when_any false 2 wx; rw [show whenE false 2 = 0 by decide +kernel] at h; exact h)) ?_
 refine wl_nil ?_
 refine nw 14 2047 (fun _ hm => ⟨hm.bl 0, hm.fa 0, hm.fa 1, hm.fa 2, trivial⟩) fun z => ?_
 refine wa1 11 rfl ?_
 refine wl_buildSlice (e := 28) (cs := [.int .i64 0, .int .i64 0, .int .i64 0]) rfl (by kernel_rfl) rfl fun g2 => ?_
 refine wl_nil ?_
 refine nw 14 4095 (fun _ hm => ⟨hm.bl 1, hm.fa 0, hm.fa 1, hm.fa 2, trivial⟩) fun z => ?_
 refine wa1 12 rfl ?_
 refine wl_callw (v := .int .i64 0) rfl cb104 rfl rfl (fun wx hm => (by have h := first_any [0, 0, 0] g2 3 _ wx (hm.blkI 0 rfl) (by simp); rw [show firstE [0, 0, 0] = 0 by decide] at h; exact h)) ?_
 refine wl_nil ?_
 refine nw 14 8191 (fun _ hm => ⟨hm.bl 1, hm.fa 0, hm.fa 1, hm.fa 2, trivial⟩) fun z => ?_
 refine wt 13 14 16383 rfl z (ov_assign rfl) ?_
 refine wa_done (by kernel_rfl) ?_
 refine nx_then (sr_ (mv_ rfl (wl_ov (ov_neq rfl rfl) rfl ?_)))
 refine wl_set 20 (v' := .bool false) rfl (congrArg Value.bool (by decide)) ?_
 refine nn_ (cf_ rfl (gw_skip (nx_then (gw_seq (sr_ (fd_ fo66_2 rfl rfl (lk_ sc63 1 rfl rfl rfl (wl_ov (ov_len es63 rfl) rfl ?_))))))))
 refine wl_set 24 (v' := .int .i64 1) rfl rfl ?_
 refine mv_ rfl (nn_ (gw_block ?_))
 refine gw_rounds 4 ?_
 refine gr_next ?_
 refine sr_ (wl_ov (ov_lss rfl rfl) rfl ?_)
 refine wl_set 26 (v' := .bool true) rfl (congrArg Value.bool (by decide)) ?_
 refine nn_ (gw_seq (ct_ rfl (gw_skip (nx_then (gw_seq (gw_block (sr_ (mv_ rfl ?_))))))))
 refine wl_ov (ov_index (j := 0) es63 rfl rfl (by decide)) rfl ?_
 refine wl_ov (ov_loads (vs := [.string ⟨#[118]⟩, .string ⟨#[99]⟩]) rz158 rfl (fun _ hm => (hm.fact 2 rfl).2) rfl rfl) rfl ?_
 refine wl_alloc zc158 rfl fun g3 => ?_
 refine sg_ rfl ?_
 refine wl_stores (cs' := [.string ⟨#[118]⟩, .string ⟨#[99]⟩]) 0 rz158 rfl rfl rfl rfl rfl rfl rfl rfl ?_
 refine nn_ (gw_block (sr_ (fd_ fo158_0 rfl rfl (lk_ sc9 0 rfl rfl rfl ?_))))
 refine wl_callw (v := .bool true) rfl cb160 rfl rfl (fun wx hm => (by have h := isKey_any ⟨#[118]⟩ wx (by decide); rw [show keyB ⟨#[118]⟩ = true by decide +kernel] at h; exact h)) ?_
 refine wl_ov (ov_un_not rfl) rfl ?_
 refine wl_set 34 (v' := .bool false) rfl (congrArg Value.bool (by decide)) ?_
 refine sg_ rfl (nn_ (cf_ rfl (gw_seq ?_)))
 refine gd (fun wz => Blk wz g3 158 [.string ⟨#[118]⟩, .string ⟨#[99]⟩] ∧ Blk wz g2 28 [.int .i64 0, .int .i64 0, .int .i64 0] ∧ Blk wz g1 66 [.slice (some ⟨gs, 0, none⟩) 1 1, .slice (some ⟨gc, 0, none⟩) 1 1, .slice (some ⟨gv, 0, none⟩) 1 1, .slice none 0 0] ∧ (BlkOld w.heap.size none gs 168 [.string ⟨#[115]⟩, .int .i64 0, .int .i64 0, .int .i64 0, .int .i64 0, .int .i64 0, .int .i64 0, .int .i64 0, .int .i64 0, .int .i64 0, .int .i64 0, .int .i64 0, .int .i64 0, .int .i64 0, .int .i64 0]) wz ∧ (BlkOld w.heap.size none gc 170 [.string ⟨#[99]⟩, .string ⟨#[]⟩]) wz ∧ (BlkOld w.heap.size none gv 158 [.string ⟨#[118]⟩, .string ⟨#[99]⟩]) wz ∧ True) mixed (fun _ hm => ⟨hm.bl 0, hm.bl 1, hm.bl 2, hm.fa 0, hm.fa 1, hm.fa 2, trivial⟩) fun z => ?_
 refine wt 0 15 1 rfl z (ov_move rfl) ?_
 refine wt 1 15 3 rfl z (ov_gtr rfl rfl) ?_
 refine wa_set 37 (v' := .bool false) rfl (congrArg Value.bool (by decide)) ?_
 refine wt 2 15 7 rfl z (ov_move rfl) ?_
 refine wtf 3 15 15 rfl rfl rfl z ?_
 refine wtf 4 15 31 rfl rfl rfl z ?_
 refine wtf 5 15 63 rfl rfl rfl z ?_
 refine wtf 6 15 127 rfl rfl rfl z ?_
 refine wtf 7 15 255 rfl rfl rfl z ?_
 refine wtf 8 15 511 rfl rfl rfl z ?_
 refine wtf 9 15 1023 rfl rfl rfl z ?_
 refine wtf 10 15 2047 rfl rfl rfl z ?_
 refine wtf 11 15 4095 rfl rfl rfl z ?_
 refine wtf 12 15 8191 rfl rfl rfl z ?_
 refine wt 13 15 16383 rfl z (ov_pick_f rfl rfl) ?_
 refine wt 14 15 32767 rfl z (ov_assign rfl) ?_
 refine wa_done (by kernel_rfl) ?_
 refine nx_then (cf_ rfl (sr_ (fd_ fo66_1 rfl rfl (lk_ sc62 2 rfl rfl rfl (fd_ fo158_1 rfl rfl (lk_ sc9 0 rfl rfl rfl ?_))))))
 refine wl_callv (v := .int .i64 0) rfl cb189 rfl rfl (fun wx hm => (by have h := classAt_any [(⟨⟨#[99]⟩, ⟨#[]⟩⟩ : Cs)] _ 1 1 ⟨#[99]⟩ wx (SlT.ofBlk (l := [(⟨⟨#[99]⟩, ⟨#[]⟩⟩ : Cs)]) cs_len (hm.fact 1 rfl).2) (by omega); rw [oneC_ix] at h; exact h)) ?_
 refine wl_ov (ov_lss rfl rfl) rfl ?_
 refine wl_set 56 (v' := .bool false) rfl (congrArg Value.bool (by decide)) ?_
 refine sg_ rfl (nn_ (cf_ rfl (gw_skip (nx_blk_nrm (nx_blk_nrm (nx_then (gw_region (ad_ rfl rfl ?_))))))))
 refine wl_set 57 (v' := .int .i64 1) rfl rfl ?_
 refine mv_ rfl (wl_nil ?_)
 refine nx_next ?_
 refine gr_next ?_
 refine sr_ (wl_ov (ov_lss rfl rfl) rfl ?_)
 refine wl_set 26 (v' := .bool false) rfl (congrArg Value.bool (by decide)) ?_
 refine nn_ (gw_seq (cf_ rfl ?_))
 refine gw_exit ?_
 refine nx_then_exit (nx_then_exit ?_)
 refine nx_blk_here ?_
 refine nx_then (sr_ ?_)
 refine wl_ov (ov_loads rz66 rfl (fun _ hm => hm.blkI 2 rfl) rfl rfl) rfl ?_
 refine wl_callv rfl cb190 rfl rfl (fun wx hm => (platesL gs gc gv wx (hm.fact 0 rfl).2 (hm.fact 1 rfl).2 (hm.fact 2 rfl).2)) ?_
 refine sg_ rfl (nn_ ?_)
 refine gw_ret ?_
 refine nx_ret1 rfl rfl fun wx hm => ?_
 exact ⟨rfl, hm.g⟩
theorem momL (w : World) : Calls Tryz.prog 193 #[.int .i64 5] w (fun e w' => e = .returned (.bool true) ∧ w.grownBy w' none) := by
 refine gw_enter ⟨5, w, none, []⟩ Tryz.func193 rfl Tryz.ntmps193 rfl (mem0 (X := []) allF_nil allL_nil) ?_
 refine sr_ (sg_ rfl (nn_ (sr_ (mv_ rfl ?_))))
 refine wl_callw (v := .bool true) rfl cb154 rfl rfl (fun wx hm => (by have h := in_any 5 0 5761439 wx; rw [show inB 5 0 5761439 = true by decide +kernel] at h; exact h)) ?_
 refine sg_ rfl (nn_ ?_)
 refine gw_ret ?_
 refine nx_ret1 rfl rfl fun wx hm => ?_
 exact ⟨rfl, hm.g⟩
theorem logL (gs : Nat) (gc : Nat) (gv : Nat) (ge : Nat) (w : World) (hbs : Blk w gs 168 [.string ⟨#[115]⟩, .int .i64 0, .int .i64 0, .int .i64 0, .int .i64 0, .int .i64 0, .int .i64 0, .int .i64 0, .int .i64 0, .int .i64 0, .int .i64 0, .int .i64 0, .int .i64 0, .int .i64 0, .int .i64 0]) (hbc : Blk w gc 170 [.string ⟨#[99]⟩, .string ⟨#[]⟩]) (hbv : Blk w gv 158 [.string ⟨#[118]⟩, .string ⟨#[99]⟩]) (hbe : Blk w ge 54 [.int .i64 5, .string ⟨#[118]⟩, .string ⟨#[115]⟩, .int .i64 1, .string ⟨#[]⟩]) : Calls Tryz.prog 110 #[.agg #[.slice (some ⟨gs, 0, none⟩) 1 1, .slice (some ⟨gc, 0, none⟩) 1 1, .slice (some ⟨gv, 0, none⟩) 1 1, .slice none 0 0], .slice (some ⟨ge, 0, none⟩) 1 1] w (fun e w' => e = .returned (.int .i64 0) ∧ w.grownBy w' none) := by
 refine gw_enter ⟨81, w, none, []⟩ Tryz.func110 rfl Tryz.ntmps110 rfl (mem0 (X := [BlkOld w.heap.size none gs 168 [.string ⟨#[115]⟩, .int .i64 0, .int .i64 0, .int .i64 0, .int .i64 0, .int .i64 0, .int .i64 0, .int .i64 0, .int .i64 0, .int .i64 0, .int .i64 0, .int .i64 0, .int .i64 0, .int .i64 0, .int .i64 0], BlkOld w.heap.size none gc 170 [.string ⟨#[99]⟩, .string ⟨#[]⟩], BlkOld w.heap.size none gv 158 [.string ⟨#[118]⟩, .string ⟨#[99]⟩], BlkOld w.heap.size none ge 54 [.int .i64 5, .string ⟨#[118]⟩, .string ⟨#[115]⟩, .int .i64 1, .string ⟨#[]⟩]]) (allF_cons hbs.old (allF_cons hbc.old (allF_cons hbv.old (allF_cons hbe.old allF_nil)))) (allL_cons BlkOld.lasts (allL_cons BlkOld.lasts (allL_cons BlkOld.lasts (allL_cons BlkOld.lasts allL_nil))))) ?_
 refine sr_ ?_
 refine wl_box rfl rfl rfl fun g1 => ?_
 refine sg_ rfl (nn_ (gw_seq (sr_ (mv_ rfl (wl_ov (ov_len es47 rfl) rfl ?_)))))
 refine wl_set 9 (v' := .int .i64 1) rfl rfl ?_
 refine wl_ov (ov_gtr rfl rfl) rfl ?_
 refine wl_set 10 (v' := .bool false) rfl (congrArg Value.bool (by decide)) ?_
 refine nn_ (cf_ rfl (gw_skip (nx_then (gw_seq (sr_ (mv_ rfl (wl_ov (ov_len es47 rfl) rfl ?_)))))))
 refine wl_set 12 (v' := .int .i64 1) rfl rfl ?_
 refine mv_ rfl (nn_ (gw_block ?_))
 refine gw_rounds 4 ?_
 refine gr_next ?_
 refine sr_ (wl_ov (ov_lss rfl rfl) rfl ?_)
 refine wl_set 14 (v' := .bool true) rfl (congrArg Value.bool (by decide)) ?_
 refine nn_ (gw_seq (ct_ rfl (gw_skip (nx_then (gw_seq (gw_block (sr_ (mv_ rfl ?_))))))))
 refine wl_ov (ov_index (j := 0) es47 rfl rfl (by decide)) rfl ?_
 refine wl_ov (ov_loads (vs := [.int .i64 5, .string ⟨#[118]⟩, .string ⟨#[115]⟩, .int .i64 1, .string ⟨#[]⟩]) rz54 rfl (fun _ hm => (hm.fact 3 rfl).2) rfl rfl) rfl ?_
 refine wl_alloc zc54 rfl fun g2 => ?_
 refine sg_ rfl ?_
 refine wl_stores (cs' := [.int .i64 5, .string ⟨#[118]⟩, .string ⟨#[115]⟩, .int .i64 1, .string ⟨#[]⟩]) 0 rz54 rfl rfl rfl rfl rfl rfl rfl rfl ?_
 refine nn_ (sr_ (fd_ fo54_3 rfl rfl (lk_ sc3 0 rfl rfl rfl (wl_ov (ov_eql rfl rfl) rfl ?_))))
 refine wl_set 20 (v' := .bool false) rfl (congrArg Value.bool (by decide)) ?_
 refine sg_ rfl (nn_ (gw_block (sr_ (fd_ fo54_0 rfl rfl (lk_ sc3 0 rfl rfl rfl ?_)))))
 refine wl_callv rfl cb193 rfl rfl (fun wx hm => (momL wx)) ?_
 refine wl_ov (ov_un_not rfl) rfl ?_
 refine wl_set 25 (v' := .bool false) rfl (congrArg Value.bool (by decide)) ?_
 refine sg_ rfl (nn_ (cf_ rfl (sr_ ?_)))
 refine wl_ov (ov_loads rz66 rfl (fun _ hm => hm.blkI 1 rfl) rfl rfl) rfl ?_
 refine fd_ fo54_1 rfl rfl (lk_ sc9 0 rfl rfl rfl ?_)
 refine wl_callv rfl cb194 rfl rfl (fun wx hm => (vehL gs gc gv wx (hm.fact 0 rfl).2 (hm.fact 1 rfl).2 (hm.fact 2 rfl).2)) ?_
 refine wl_ov (ov_lss rfl rfl) rfl ?_
 refine wl_set 31 (v' := .bool false) rfl (congrArg Value.bool (by decide)) ?_
 refine mv_ rfl (wl_guard_on rfl rfl rfl ?_)
 refine wl_ov (ov_loads rz66 rfl (fun _ hm => hm.blkI 1 rfl) rfl rfl) rfl ?_
 refine wl_guard_on rfl rfl rfl (fd_ fo54_2 rfl rfl (wl_guard_on rfl rfl rfl (lk_ sc9 0 rfl rfl rfl (wl_guard_on rfl rfl rfl ?_))))
 refine wl_callv rfl cb195 rfl rfl (fun wx hm => (hasStL gs gc gv wx (hm.fact 0 rfl).2 (hm.fact 1 rfl).2 (hm.fact 2 rfl).2)) ?_
 refine wl_guard_on rfl rfl rfl (wl_ov (ov_un_not rfl) rfl ?_)
 refine wl_set 37 (v' := .bool false) rfl (congrArg Value.bool (by decide)) ?_
 refine pf_ rfl rfl (sg_ rfl (nn_ (cf_ rfl (sr_ (fd_ fo54_3 rfl rfl (lk_ sc3 0 rfl rfl rfl ?_))))))
 refine wl_callw (v := .bool true) rfl cb154 rfl rfl (fun wx hm => (by have h := in_any 1 1 8 wx; rw [show inB 1 1 8 = true by decide +kernel] at h; exact h)) ?_
 refine wl_ov (ov_un_not rfl) rfl ?_
 refine wl_set 43 (v' := .bool false) rfl (congrArg Value.bool (by decide)) ?_
 refine sg_ rfl (nn_ (cf_ rfl (sr_ (fd_ fo54_4 rfl rfl (lk_ sc9 0 rfl rfl rfl (wl_ov (ov_sneq rfl rfl) rfl ?_))))))
 refine wl_set 47 (v' := .bool false) rfl (congrArg Value.bool (by decide +kernel)) ?_
 refine mv_ rfl (goff rfl rfl rfl (goff rfl rfl rfl (pf_ rfl rfl (sg_ rfl (nn_ (cf_ rfl (sr_ (mv_ rfl (mv_ rfl (goff rfl rfl rfl (goff rfl rfl rfl ?_)))))))))))
 refine goff rfl rfl rfl (goff rfl rfl rfl (goff rfl rfl rfl (pf_ rfl rfl (sg_ rfl (nn_ (cf_ rfl (sr_ (fd_ fo54_4 rfl rfl (lk_ sc9 0 rfl rfl rfl (fd_ fo54_2 rfl rfl (lk_ sc9 0 rfl rfl rfl ?_)))))))))))
 refine wl_ov (ov_seql rfl rfl) rfl ?_
 refine wl_set 66 (v' := .bool false) rfl (congrArg Value.bool (by decide +kernel)) ?_
 refine sg_ rfl (nn_ (cf_ rfl (gw_seq ?_)))
 refine gd (fun wz => Blk wz g2 54 [.int .i64 5, .string ⟨#[118]⟩, .string ⟨#[115]⟩, .int .i64 1, .string ⟨#[]⟩] ∧ Blk wz g1 66 [.slice (some ⟨gs, 0, none⟩) 1 1, .slice (some ⟨gc, 0, none⟩) 1 1, .slice (some ⟨gv, 0, none⟩) 1 1, .slice none 0 0] ∧ (BlkOld w.heap.size none gs 168 [.string ⟨#[115]⟩, .int .i64 0, .int .i64 0, .int .i64 0, .int .i64 0, .int .i64 0, .int .i64 0, .int .i64 0, .int .i64 0, .int .i64 0, .int .i64 0, .int .i64 0, .int .i64 0, .int .i64 0, .int .i64 0]) wz ∧ (BlkOld w.heap.size none gc 170 [.string ⟨#[99]⟩, .string ⟨#[]⟩]) wz ∧ (BlkOld w.heap.size none gv 158 [.string ⟨#[118]⟩, .string ⟨#[99]⟩]) wz ∧ (BlkOld w.heap.size none ge 54 [.int .i64 5, .string ⟨#[118]⟩, .string ⟨#[115]⟩, .int .i64 1, .string ⟨#[]⟩]) wz ∧ True) mixed (fun _ hm => ⟨hm.bl 0, hm.bl 1, hm.fa 0, hm.fa 1, hm.fa 2, hm.fa 3, trivial⟩) fun z => ?_
 refine wt 0 13 1 rfl z (ov_move rfl) ?_
 refine wt 1 13 3 rfl z (ov_gtr rfl rfl) ?_
 refine wa_set 69 (v' := .bool false) rfl (congrArg Value.bool (by decide)) ?_
 refine wt 2 13 7 rfl z (ov_move rfl) ?_
 refine wtf 3 13 15 rfl rfl rfl z ?_
 refine wtf 4 13 31 rfl rfl rfl z ?_
 refine wtf 5 13 63 rfl rfl rfl z ?_
 refine wtf 6 13 127 rfl rfl rfl z ?_
 refine wtf 7 13 255 rfl rfl rfl z ?_
 refine wtf 8 13 511 rfl rfl rfl z ?_
 refine wtf 9 13 1023 rfl rfl rfl z ?_
 refine wtf 10 13 2047 rfl rfl rfl z ?_
 refine wt 11 13 4095 rfl z (ov_pick_f rfl rfl) ?_
 refine wt 12 13 8191 rfl z (ov_assign rfl) ?_
 refine wa_done (by kernel_rfl) ?_
 refine nx_then (cf_ rfl (gw_skip (nx_blk_nrm (nx_blk_nrm (nx_then (gw_region (ad_ rfl rfl ?_)))))))
 refine wl_set 80 (v' := .int .i64 1) rfl rfl ?_
 refine mv_ rfl (wl_nil ?_)
 refine nx_next ?_
 refine gr_next ?_
 refine sr_ (wl_ov (ov_lss rfl rfl) rfl ?_)
 refine wl_set 14 (v' := .bool false) rfl (congrArg Value.bool (by decide)) ?_
 refine nn_ (gw_seq (cf_ rfl ?_))
 refine gw_exit ?_
 refine nx_then_exit (nx_then_exit ?_)
 refine nx_blk_here ?_
 refine nx_then (sr_ (sg_ rfl (nn_ ?_)))
 refine gw_ret ?_
 refine nx_ret1 rfl rfl fun wx hm => ?_
 exact ⟨rfl, hm.g⟩
theorem checkL (gs : Nat) (gc : Nat) (gv : Nat) (ge : Nat) (w : World) (hbs : Blk w gs 168 [.string ⟨#[115]⟩, .int .i64 0, .int .i64 0, .int .i64 0, .int .i64 0, .int .i64 0, .int .i64 0, .int .i64 0, .int .i64 0, .int .i64 0, .int .i64 0, .int .i64 0, .int .i64 0, .int .i64 0, .int .i64 0]) (hbc : Blk w gc 170 [.string ⟨#[99]⟩, .string ⟨#[]⟩]) (hbv : Blk w gv 158 [.string ⟨#[118]⟩, .string ⟨#[99]⟩]) (hbe : Blk w ge 54 [.int .i64 5, .string ⟨#[118]⟩, .string ⟨#[115]⟩, .int .i64 1, .string ⟨#[]⟩]) : Calls Tryz.prog 100 #[.agg #[.slice (some ⟨gs, 0, none⟩) 1 1, .slice (some ⟨gc, 0, none⟩) 1 1, .slice (some ⟨gv, 0, none⟩) 1 1, .slice none 0 0], .slice (some ⟨ge, 0, none⟩) 1 1] w (fun e w' => e = .returned (.int .i64 0) ∧ w.grownBy w' none) := by
 refine gw_enter ⟨14, w, none, []⟩ Tryz.func100 rfl Tryz.ntmps100 rfl (mem0 (X := [BlkOld w.heap.size none gs 168 [.string ⟨#[115]⟩, .int .i64 0, .int .i64 0, .int .i64 0, .int .i64 0, .int .i64 0, .int .i64 0, .int .i64 0, .int .i64 0, .int .i64 0, .int .i64 0, .int .i64 0, .int .i64 0, .int .i64 0, .int .i64 0], BlkOld w.heap.size none gc 170 [.string ⟨#[99]⟩, .string ⟨#[]⟩], BlkOld w.heap.size none gv 158 [.string ⟨#[118]⟩, .string ⟨#[99]⟩], BlkOld w.heap.size none ge 54 [.int .i64 5, .string ⟨#[118]⟩, .string ⟨#[115]⟩, .int .i64 1, .string ⟨#[]⟩]]) (allF_cons hbs.old (allF_cons hbc.old (allF_cons hbv.old (allF_cons hbe.old allF_nil)))) (allL_cons BlkOld.lasts (allL_cons BlkOld.lasts (allL_cons BlkOld.lasts (allL_cons BlkOld.lasts allL_nil))))) ?_
 refine sr_ ?_
 refine wl_box rfl rfl rfl fun g1 => ?_
 refine sg_ rfl (nn_ (gw_seq (sr_ ?_)))
 refine wl_ov (ov_loads rz66 rfl (fun _ hm => hm.blkI 0 rfl) rfl rfl) rfl ?_
 refine wl_callv rfl cb105 rfl rfl (fun wx hm => (fleetL gs gc gv wx (hm.fact 0 rfl).2 (hm.fact 1 rfl).2 (hm.fact 2 rfl).2)) ?_
 refine sg_ rfl (nn_ (sr_ (mv_ rfl (wl_ov (ov_neq rfl rfl) rfl ?_))))
 refine wl_set 9 (v' := .bool false) rfl (congrArg Value.bool (by decide)) ?_
 refine nn_ (cf_ rfl (gw_skip (nx_then (sr_ ?_))))
 refine wl_ov (ov_loads rz66 rfl (fun _ hm => hm.blkI 0 rfl) rfl rfl) rfl ?_
 refine mv_ rfl ?_
 refine wl_callv rfl cb110 rfl rfl (fun wx hm => (logL gs gc gv ge wx (hm.fact 0 rfl).2 (hm.fact 1 rfl).2 (hm.fact 2 rfl).2 (hm.fact 3 rfl).2)) ?_
 refine sg_ rfl (nn_ ?_)
 refine gw_ret ?_
 refine nx_ret1 rfl rfl fun wx hm => ?_
 exact ⟨rfl, hm.g⟩
theorem followL (w : World) : Calls Tryz.prog 263 #[.agg #[.int .i64 0, .string ⟨#[]⟩, .int .i64 0], .agg #[.int .i64 5, .string ⟨#[118]⟩, .string ⟨#[115]⟩, .int .i64 1, .string ⟨#[]⟩]] w (fun e w' => e = .returned (.tuple #[.agg #[.int .i64 1, .string ⟨#[115]⟩, .int .i64 5], .bool true]) ∧ w.grownBy w' none) := by
 refine gw_enter ⟨74, w, none, []⟩ Tryz.func263 rfl Tryz.ntmps263 rfl (mem0 (X := []) allF_nil allL_nil) ?_
 refine sr_ ?_
 refine wl_box rfl rfl rfl fun g1 => ?_
 refine wl_box rfl rfl rfl fun g2 => ?_
 refine wl_alloc zc172 rfl fun g3 => ?_
 refine sg_ rfl (nn_ (sr_ (fd_ fo172_1 rfl rfl (lk_ sc9 2 rfl rfl rfl (fd_ fo54_2 rfl rfl (lk_ sc9 1 rfl rfl rfl (wl_ov (ov_seql rfl rfl) rfl ?_)))))))
 refine wl_set 15 (v' := .bool false) rfl (congrArg Value.bool (by decide +kernel)) ?_
 refine sg_ rfl (nn_ (sr_ (fd_ fo172_0 rfl rfl (lk_ sc3 2 rfl rfl rfl (wl_ov (ov_eql rfl rfl) rfl ?_)))))
 refine wl_set 18 (v' := .bool false) rfl (congrArg Value.bool (by decide)) ?_
 refine mv_ rfl (goff rfl rfl rfl (pf_ rfl rfl (sg_ rfl (nn_ (gw_seq ?_)))))
 refine gd (fun wz => Blk wz g3 172 [.int .i64 0, .string ⟨#[]⟩, .int .i64 0] ∧ Blk wz g2 54 [.int .i64 5, .string ⟨#[118]⟩, .string ⟨#[115]⟩, .int .i64 1, .string ⟨#[]⟩] ∧ Blk wz g1 172 [.int .i64 0, .string ⟨#[]⟩, .int .i64 0] ∧ True) mixed (fun _ hm => ⟨hm.bl 0, hm.bl 1, hm.bl 2, trivial⟩) fun z => ?_
 refine wt 0 5 1 rfl z (ov_field fo54_2 rfl rfl) ?_
 refine wt 1 5 3 rfl z (ov_load sc9 rfl (fun _ hm => hm.2.1) rfl) ?_
 refine wt 2 5 7 rfl z (ov_assign rfl) ?_
 refine wt 3 5 15 rfl z (ov_assign rfl) ?_
 refine wt 4 5 31 rfl z (ov_assign rfl) ?_
 refine wa_done (by kernel_rfl) ?_
 refine nx_then (gw_seq (sr_ (fd_ fo54_3 rfl rfl (lk_ sc3 1 rfl rfl rfl (nn_ (gw_block (sr_ (wl_ov (ov_eql rfl rfl) rfl ?_))))))))
 refine wl_set 27 (v' := .bool true) rfl (congrArg Value.bool (by decide)) ?_
 refine sg_ rfl (nn_ (ct_ rfl ?_))
 refine gd (fun wz => Blk wz g3 172 [.int .i64 0, .string ⟨#[]⟩, .int .i64 0] ∧ Blk wz g2 54 [.int .i64 5, .string ⟨#[118]⟩, .string ⟨#[115]⟩, .int .i64 1, .string ⟨#[]⟩] ∧ Blk wz g1 172 [.int .i64 0, .string ⟨#[]⟩, .int .i64 0] ∧ True) mixed (fun _ hm => ⟨hm.bl 0, hm.bl 1, hm.bl 2, trivial⟩) fun z => ?_
 refine wt 0 5 1 rfl z (ov_field fo172_0 rfl rfl) ?_
 refine wt 1 5 3 rfl z (ov_load sc3 rfl (fun _ hm => hm.2.2.1) rfl) ?_
 refine wt 2 5 7 rfl z (ov_eql rfl rfl) ?_
 refine wa_set 30 (v' := .bool true) rfl (congrArg Value.bool (by decide)) ?_
 refine wt 3 5 15 rfl z (ov_assign rfl) ?_
 refine wt 4 5 31 rfl z (ov_assign rfl) ?_
 refine wa_done (by kernel_rfl) ?_
 refine nx_blk_nrm (nx_then (gw_seq (sr_ (mv_ rfl (wl_ov (ov_un_not rfl) rfl ?_)))))
 refine wl_set 67 (v' := .bool false) rfl (congrArg Value.bool (by decide)) ?_
 refine nn_ (cf_ rfl (gw_skip (nx_then (sr_ (mv_ rfl (mv_ rfl (fd_ fo54_0 rfl rfl (lk_ sc3 1 rfl rfl rfl ?_))))))))
 refine wl_ov (ov_build (cs := [.int .i64 1, .string ⟨#[115]⟩, .int .i64 5]) rfl (by kernel_rfl)) rfl ?_
 refine wl_stores (cs' := [.int .i64 1, .string ⟨#[115]⟩, .int .i64 5]) 0 rz172 rfl rfl rfl rfl rfl rfl rfl rfl ?_
 refine sg_ rfl (nn_ ?_)
 refine gw_ret ?_
 refine nx_retct 0 rfl rz172 rfl rfl rfl rfl fun wx hm => ?_
 exact ⟨rfl, hm.g⟩
theorem statesL (ge : Nat) (w : World) (hbe : Blk w ge 54 [.int .i64 5, .string ⟨#[118]⟩, .string ⟨#[115]⟩, .int .i64 1, .string ⟨#[]⟩]) : Calls Tryz.prog 205 #[.slice (some ⟨ge, 0, none⟩) 1 1, .int .i64 7] w (fun e w' => ∃ g, e = .returned (.map (some g)) ∧ MapAt g #[⟨.string ⟨#[118]⟩, .agg #[.int .i64 1, .string ⟨#[115]⟩, .int .i64 5], 0⟩] 1 w' ∧ w.grownBy w' none) := by
 refine gw_enter ⟨33, w, none, []⟩ Tryz.func205 rfl Tryz.ntmps205 rfl (mem0 (X := [BlkOld w.heap.size none ge 54 [.int .i64 5, .string ⟨#[118]⟩, .string ⟨#[115]⟩, .int .i64 1, .string ⟨#[]⟩]]) (allF_cons hbe.old allF_nil) (allL_cons BlkOld.lasts allL_nil)) ?_
 refine sr_ (sg_ rfl (nn_ (sr_ ?_)))
 refine wl_makeMap rfl fun g1 => ?_
 refine sg_ rfl (nn_ (gw_seq (sr_ (mv_ rfl (wl_ov (ov_len es47 rfl) rfl ?_)))))
 refine wl_set 10 (v' := .int .i64 1) rfl rfl ?_
 refine mv_ rfl (nn_ (gw_block ?_))
 refine gw_rounds 4 ?_
 refine gr_next ?_
 refine sr_ (wl_ov (ov_lss rfl rfl) rfl ?_)
 refine wl_set 12 (v' := .bool true) rfl (congrArg Value.bool (by decide)) ?_
 refine nn_ (gw_seq (ct_ rfl (gw_skip (nx_then (gw_seq (gw_block (sr_ ?_)))))))
 refine wl_ov (ov_index (j := 0) es47 rfl rfl (by decide)) rfl ?_
 refine wl_ov (ov_loads (vs := [.int .i64 5, .string ⟨#[118]⟩, .string ⟨#[115]⟩, .int .i64 1, .string ⟨#[]⟩]) rz54 rfl (fun _ hm => (hm.fact 1 rfl).2) rfl rfl) rfl ?_
 refine wl_alloc zc54 rfl fun g2 => ?_
 refine wl_stores (cs' := [.int .i64 5, .string ⟨#[118]⟩, .string ⟨#[115]⟩, .int .i64 1, .string ⟨#[]⟩]) 0 rz54 rfl rfl rfl rfl rfl rfl rfl rfl ?_
 refine nn_ (gw_seq (sr_ (fd_ fo54_0 rfl rfl (lk_ sc3 0 rfl rfl rfl (mv_ rfl ?_)))))
 refine wl_ov (ov_gtr rfl rfl) rfl ?_
 refine wl_set 18 (v' := .bool false) rfl (congrArg Value.bool (by decide)) ?_
 refine nn_ (cf_ rfl (gw_skip (nx_then ?_)))
 refine gd (fun wz => Blk wz g2 54 [.int .i64 5, .string ⟨#[118]⟩, .string ⟨#[115]⟩, .int .i64 1, .string ⟨#[]⟩] ∧ (BlkOld w.heap.size none ge 54 [.int .i64 5, .string ⟨#[118]⟩, .string ⟨#[115]⟩, .int .i64 1, .string ⟨#[]⟩]) wz ∧ True) mixed (fun _ hm => ⟨hm.bl 0, hm.fa 1, trivial⟩) fun z => ?_
 refine wt 0 13 1 rfl z (ov_move rfl) ?_
 refine wt 1 13 3 rfl z (ov_field fo54_1 rfl rfl) ?_
 refine wt 2 13 7 rfl z (ov_load sc9 rfl (fun _ hm => hm.1) rfl) ?_
 refine wt 3 13 15 rfl z (ov_move rfl) ?_
 refine wt 4 13 31 rfl z (ov_field fo54_1 rfl rfl) ?_
 refine wt 5 13 63 rfl z (ov_load sc9 rfl (fun _ hm => hm.1) rfl) ?_
 refine wt 7 13 191 rfl z (ov_loads rz54 rfl (fun _ hm => hm.1) rfl rfl) ?_
 refine wa1 6 rfl ?_
 refine wl_ov (ov_lookup0 (k := 9) (e := 172) (z := .agg #[.int .i64 0, .string ⟨#[]⟩, .int .i64 0]) (by kernel_rfl) (by kernel_rfl) (by kernel_rfl) rfl rfl (fun _ hm => (hm.fact 0 rfl).2) (by kernel_rfl)) rfl ?_
 refine wl_nil ?_
 refine nw 13 255 (fun _ hm => ⟨hm.bl 0, hm.fa 1, trivial⟩) fun z => ?_
 refine wa1 8 rfl ?_
 refine wl_callv rfl cb263 rfl rfl (fun wx hm => (followL wx)) ?_
 refine wl_nil ?_
 refine nw 13 511 (fun _ hm => ⟨hm.bl 0, hm.fa 1, trivial⟩) fun z => ?_
 refine wt 9 13 1023 rfl z (ov_move rfl) ?_
 refine wt 10 13 2047 rfl z (ov_extract rfl rfl) ?_
 refine wt 11 13 4095 rfl z (ov_extract rfl rfl) ?_
 refine wa1 12 rfl ?_
 refine wl_mapPush (k := 9) (e := 172) (X' := [BlkOld w.heap.size none ge 54 [.int .i64 5, .string ⟨#[118]⟩, .string ⟨#[115]⟩, .int .i64 1, .string ⟨#[]⟩]]) 0 (by kernel_rfl) (by kernel_rfl) rfl rfl rfl rfl (by kernel_rfl) (far_cons (i := 1) BlkOld.far rfl far_nil) ?_
 refine wl_nil ?_
 refine nw 13 8191 (fun _ hm => ⟨hm.bl 0, hm.fa 1, trivial⟩) fun z => ?_
 refine wa_done (by kernel_rfl) ?_
 refine nx_blk_nrm (nx_then (gw_region (ad_ rfl rfl ?_)))
 refine wl_set 31 (v' := .int .i64 1) rfl rfl ?_
 refine mv_ rfl (wl_nil ?_)
 refine nx_next ?_
 refine gr_next ?_
 refine sr_ (wl_ov (ov_lss rfl rfl) rfl ?_)
 refine wl_set 12 (v' := .bool false) rfl (congrArg Value.bool (by decide)) ?_
 refine nn_ (gw_seq (cf_ rfl ?_))
 refine gw_exit ?_
 refine nx_then_exit (nx_then_exit ?_)
 refine nx_blk_here ?_
 refine nx_then (sr_ (mv_ rfl (sg_ rfl (nn_ ?_))))
 refine gw_ret ?_
 refine nx_ret1 rfl rfl fun wx hm => ?_
 exact ⟨g1, rfl, ((hm.fact 0 rfl)).2, hm.g⟩
theorem stateL (gs : Nat) (gc : Nat) (gv : Nat) (ge : Nat) (w : World) (hbs : Blk w gs 168 [.string ⟨#[115]⟩, .int .i64 0, .int .i64 0, .int .i64 0, .int .i64 0, .int .i64 0, .int .i64 0, .int .i64 0, .int .i64 0, .int .i64 0, .int .i64 0, .int .i64 0, .int .i64 0, .int .i64 0, .int .i64 0]) (hbc : Blk w gc 170 [.string ⟨#[99]⟩, .string ⟨#[]⟩]) (hbv : Blk w gv 158 [.string ⟨#[118]⟩, .string ⟨#[99]⟩]) (hbe : Blk w ge 54 [.int .i64 5, .string ⟨#[118]⟩, .string ⟨#[115]⟩, .int .i64 1, .string ⟨#[]⟩]) : Calls Tryz.prog 120 #[.agg #[.slice (some ⟨gs, 0, none⟩) 1 1, .slice (some ⟨gc, 0, none⟩) 1 1, .slice (some ⟨gv, 0, none⟩) 1 1, .slice none 0 0], .slice (some ⟨ge, 0, none⟩) 1 1, .string ⟨#[118]⟩, .int .i64 7] w (fun e w' => e = .returned (.tuple #[.agg #[.int .i64 1, .string ⟨#[115]⟩, .int .i64 5], .int .i64 0]) ∧ w.grownBy w' none) := by
 refine gw_enter ⟨37, w, none, []⟩ Tryz.func120 rfl Tryz.ntmps120 rfl (mem0 (X := [BlkOld w.heap.size none gs 168 [.string ⟨#[115]⟩, .int .i64 0, .int .i64 0, .int .i64 0, .int .i64 0, .int .i64 0, .int .i64 0, .int .i64 0, .int .i64 0, .int .i64 0, .int .i64 0, .int .i64 0, .int .i64 0, .int .i64 0, .int .i64 0], BlkOld w.heap.size none gc 170 [.string ⟨#[99]⟩, .string ⟨#[]⟩], BlkOld w.heap.size none gv 158 [.string ⟨#[118]⟩, .string ⟨#[99]⟩], BlkOld w.heap.size none ge 54 [.int .i64 5, .string ⟨#[118]⟩, .string ⟨#[115]⟩, .int .i64 1, .string ⟨#[]⟩]]) (allF_cons hbs.old (allF_cons hbc.old (allF_cons hbv.old (allF_cons hbe.old allF_nil)))) (allL_cons BlkOld.lasts (allL_cons BlkOld.lasts (allL_cons BlkOld.lasts (allL_cons BlkOld.lasts allL_nil))))) ?_
 refine sr_ ?_
 refine wl_box rfl rfl rfl fun g1 => ?_
 refine wl_alloc zc172 rfl fun g2 => ?_
 refine sg_ rfl (nn_ (gw_seq (sr_ ?_)))
 refine wl_ov (ov_loads rz66 rfl (fun _ hm => hm.blkI 1 rfl) rfl rfl) rfl ?_
 refine mv_ rfl ?_
 refine wl_callv rfl cb100 rfl rfl (fun wx hm => (checkL gs gc gv ge wx (hm.fact 0 rfl).2 (hm.fact 1 rfl).2 (hm.fact 2 rfl).2 (hm.fact 3 rfl).2)) ?_
 refine sg_ rfl (nn_ (sr_ (mv_ rfl (wl_ov (ov_neq rfl rfl) rfl ?_))))
 refine wl_set 16 (v' := .bool false) rfl (congrArg Value.bool (by decide)) ?_
 refine nn_ (cf_ rfl (gw_skip (nx_then (gw_seq (sr_ ?_)))))
 refine wl_ov (ov_loads rz66 rfl (fun _ hm => hm.blkI 1 rfl) rfl rfl) rfl ?_
 refine mv_ rfl ?_
 refine wl_callv rfl cb194 rfl rfl (fun wx hm => (vehL gs gc gv wx (hm.fact 0 rfl).2 (hm.fact 1 rfl).2 (hm.fact 2 rfl).2)) ?_
 refine wl_ov (ov_lss rfl rfl) rfl ?_
 refine wl_set 22 (v' := .bool false) rfl (congrArg Value.bool (by decide)) ?_
 refine wl_callw (v := .int .i64 0) rfl cb106 rfl rfl (fun wx hm => (by have h := when_any false 8 wx; rw [show whenE false 8 = 0 by decide +kernel] at h; exact h)) ?_
 refine mv_ rfl ?_
 refine wl_callw (v := .int .i64 0) rfl cb204 rfl rfl (fun wx hm => (by have h := moment_any 7 wx; rw [show momentE 7 = 0 by decide +kernel] at h; exact h)) ?_
 refine wl_buildSlice (e := 28) (cs := [.int .i64 0, .int .i64 0]) rfl (by kernel_rfl) rfl fun g3 => ?_
 refine wl_callw (v := .int .i64 0) rfl cb104 rfl rfl (fun wx hm => (by have h := first_any [0, 0] g3 2 _ wx (hm.blkI 0 rfl) (by simp); rw [show firstE [0, 0] = 0 by decide] at h; exact h)) ?_
 refine sg_ rfl (nn_ (sr_ (mv_ rfl (wl_ov (ov_neq rfl rfl) rfl ?_))))
 refine wl_set 29 (v' := .bool false) rfl (congrArg Value.bool (by decide)) ?_
 refine nn_ (cf_ rfl (gw_skip (nx_then (sr_ (mv_ rfl (mv_ rfl ?_))))))
 refine wl_callx (γ := Nat) (val := (fun g => .map (some g))) (φ := (fun g => True)) (Y := (fun g => fun wy => OwnMap 0 g #[⟨.string ⟨#[118]⟩, .agg #[.int .i64 1, .string ⟨#[115]⟩, .int .i64 5], 0⟩] 1 wy)) rfl cb205 rfl rfl (fun wx hm => (statesL ge wx (hm.fact 3 rfl).2).mono fun _ _ ⟨g, he, hm2, hg⟩ => ⟨g, he, trivial, hg, ⟨Nat.zero_le _, hm2⟩⟩) (fun _ => OwnMap.lasts2) ?_
 rintro gm hphi
 clear hphi
 refine mv_ rfl ?_
 refine wl_ov (ov_lookup (k := 9) (e := 172) (i := 0) (v := .agg #[.int .i64 1, .string ⟨#[115]⟩, .int .i64 5]) (by kernel_rfl) (by kernel_rfl) rfl rfl (fun _ hm => (hm.fact 0 rfl).2) (by kernel_rfl)) rfl ?_
 refine wl_stores (cs' := [.int .i64 1, .string ⟨#[115]⟩, .int .i64 5]) 1 rz172 rfl rfl rfl rfl rfl rfl rfl rfl ?_
 refine sg_ rfl (nn_ ?_)
 refine gw_ret ?_
 refine nx_retct 1 rfl rz172 rfl rfl rfl rfl fun wx hm => ?_
 exact ⟨rfl, hm.g⟩
set_option maxRecDepth 100000 in
theorem same_state_eql (x0 : Int) (x1 : ByteArray) (x2 : Int) (w : World) : (binOp .eql 172 (.agg #[.int .i64 x0, .string x1, .int .i64 x2]) (.agg #[.int .i64 x0, .string x1, .int .i64 x2])).run Tryz.prog w = .ok (.bool true) w := by
  have hS : Tryz.prog.underlying 172 = some (.struct (Tryz.prog.fieldsOf 172)) := by kernel_rfl
  have hp : Tryz.prog.stoodInHeld 172 = false := by kernel_rfl
  rw [run_eql_struct, show (10000 : Nat) = 9999 + 1 from rfl, run_equalIn_agg w 9999 172 _ _ hS hp]
  simp only [Program.fieldsOf, Tryz.underlying172]
  have u3 := Tryz.underlying3
  have u9 := Tryz.underlying9
  clear hS hp
  go_simp
theorem guard_state : Tryz.prog.eqGuardType Tryz.prog.depth 172 = false := by kernel_rfl
theorem lots_any (w : World) : Calls Tryz.prog 38 #[] w (fun e w' => e = .returned (.bool true) ∧ w.grownBy w' none) := by
 refine gw_enter ⟨25, w, none, []⟩ Tryz.func38 rfl Tryz.ntmps38 rfl (mem0 (X := []) allF_nil allL_nil) ?_
 refine sr_ (sg_ rfl (nn_ (sr_ ?_)))
 refine wl_ov (ov_build (cs := [.string ⟨#[115]⟩, .int .i64 0, .int .i64 0, .int .i64 0, .int .i64 0, .int .i64 0, .int .i64 0, .int .i64 0, .int .i64 0, .int .i64 0, .int .i64 0, .int .i64 0, .int .i64 0, .int .i64 0, .int .i64 0]) rfl (by kernel_rfl)) rfl ?_
 refine wl_buildSlice (e := 168) (cs := [.string ⟨#[115]⟩, .int .i64 0, .int .i64 0, .int .i64 0, .int .i64 0, .int .i64 0, .int .i64 0, .int .i64 0, .int .i64 0, .int .i64 0, .int .i64 0, .int .i64 0, .int .i64 0, .int .i64 0, .int .i64 0]) rfl (by kernel_rfl) rfl fun g1 => ?_
 refine wl_ov (ov_build (cs := [.string ⟨#[99]⟩, .string ⟨#[]⟩]) rfl (by kernel_rfl)) rfl ?_
 refine wl_buildSlice (e := 170) (cs := [.string ⟨#[99]⟩, .string ⟨#[]⟩]) rfl (by kernel_rfl) rfl fun g2 => ?_
 refine wl_ov (ov_build (cs := [.string ⟨#[118]⟩, .string ⟨#[99]⟩]) rfl (by kernel_rfl)) rfl ?_
 refine wl_buildSlice (e := 158) (cs := [.string ⟨#[118]⟩, .string ⟨#[99]⟩]) rfl (by kernel_rfl) rfl fun g3 => ?_
 refine wl_ov (ov_build (cs := [.slice (some ⟨g1, 0, none⟩) 1 1, .slice (some ⟨g2, 0, none⟩) 1 1, .slice (some ⟨g3, 0, none⟩) 1 1, .slice none 0 0]) rfl (by kernel_rfl)) rfl ?_
 refine wl_alloc zc66 rfl fun g4 => ?_
 refine wl_stores (cs' := [.slice (some ⟨g1, 0, none⟩) 1 1, .slice (some ⟨g2, 0, none⟩) 1 1, .slice (some ⟨g3, 0, none⟩) 1 1, .slice none 0 0]) 0 rz66 rfl rfl rfl rfl rfl rfl rfl rfl ?_
 refine nn_ (sr_ ?_)
 refine wl_ov (ov_loads rz66 rfl (fun _ hm => hm.blkI 0 rfl) rfl rfl) rfl ?_
 refine wl_ov (ov_build (cs := [.int .i64 5, .string ⟨#[118]⟩, .string ⟨#[115]⟩, .int .i64 1, .string ⟨#[]⟩]) rfl (by kernel_rfl)) rfl ?_
 refine wl_buildSlice (e := 54) (cs := [.int .i64 5, .string ⟨#[118]⟩, .string ⟨#[115]⟩, .int .i64 1, .string ⟨#[]⟩]) rfl (by kernel_rfl) rfl fun g5 => ?_
 refine wl_callv rfl cb120 rfl rfl (fun wx hm => (stateL g1 g2 g3 g5 wx (hm.blkI 4 rfl) (hm.blkI 3 rfl) (hm.blkI 2 rfl) (hm.blkI 0 rfl))) ?_
 refine mv_ rfl (wl_ov (ov_extract rfl rfl) rfl (wl_ov (ov_extract rfl rfl) rfl ?_))
 refine wl_alloc zc172 rfl fun g6 => ?_
 refine wl_stores (cs' := [.int .i64 1, .string ⟨#[115]⟩, .int .i64 5]) 0 rz172 rfl rfl rfl rfl rfl rfl rfl rfl ?_
 refine sg_ rfl (nn_ (sr_ (mv_ rfl (wl_ov (ov_eql rfl rfl) rfl ?_))))
 refine wl_set 19 (v' := .bool true) rfl (congrArg Value.bool (by decide)) ?_
 refine mv_ rfl (wl_guard_on rfl rfl rfl ?_)
 refine wl_ov (ov_loads rz172 rfl (fun _ hm => hm.blkI 0 rfl) rfl rfl) rfl ?_
 refine wl_guard_on rfl rfl rfl ?_
 refine wl_ov (ov_build (cs := [.int .i64 1, .string ⟨#[115]⟩, .int .i64 5]) rfl (by kernel_rfl)) rfl ?_
 refine wl_guard_on rfl rfl rfl ?_
 refine wl_ov (ov_bin rfl rfl (cmp_agg guard_state (fun wx => same_state_eql 1 ⟨#[115]⟩ 5 wx))) rfl ?_
 refine pt_ rfl rfl (sg_ rfl (nn_ ?_))
 refine gw_ret ?_
 refine nx_ret1 rfl rfl fun wx hm => ?_
 exact ⟨rfl, hm.g⟩
end Go.Proofs.YtnpcbfllnkiopaaGreatDoor
namespace Go.Proofs.YtnpcbfllnkiopaaGreatDoor
open Go.RowKit
theorem str_pos {t : ByteArray} (h : (t.toList == (⟨#[]⟩ : ByteArray).toList) = false) : 1 ≤ t.size := by
  by_cases h0 : t.size = 0
  · have e : t = ⟨#[]⟩ := by
      cases t with
      | mk a => exact congrArg ByteArray.mk (Array.eq_empty_of_size_eq_zero h0)
    rw [e] at h; simp at h
  · omega
theorem extract_hi2 (s : ByteArray) (i : Nat) : (s.extract 0 i).size ≤ i := by
  rw [ByteArray.size_extract]; omega
theorem extract_lo2 (s : ByteArray) (i : Nat) : (s.extract i s.size).size ≤ s.size - i := by
  rw [ByteArray.size_extract]; omega
theorem gchanged_any (tx wi : ByteArray) (w : World) (B sb m : Nat) (hS : Strm 25 w B sb m) (hm : m ≤ 100000000000) (htx : tx.size ≤ 1000000) (hwi : wi.size ≤ 1000) :
  Calls Tryz.prog 35 #[.pointer (some ⟨sb, 0, none⟩), .string tx, .string wi] w (fun e w' => ∃ v : ByteArray, e = .returned (.string v) ∧ v.size ≤ tx.size + wi.size + 4 ∧ Strm 25 w' B sb (m + 3) ∧ w.grownBy w' (some sb)) := by
 refine gw_enter ⟨63, w, (some sb), []⟩ Tryz.func35 rfl Tryz.ntmps35 rfl (memS (X := []) hS allF_nil allL_nil) ?_
 refine sr_ (sg_ rfl (nn_ (gw_seq (sr_ (mv_ rfl (wl_ov (ov_seql rfl rfl) rfl (mv_ rfl ?_)))))))
 rcases Bool.eq_false_or_eq_true (tx.toList == (⟨#[]⟩ : ByteArray).toList) with h1 | h1
 ·refine wl_set 11 rfl (congrArg Value.bool h1) ?_
  refine goff rfl rfl rfl (goff rfl rfl rfl (pt_ rfl rfl (nn_ (ct_ rfl (sr_ (mv_ rfl (sg_ rfl (nn_ ?_))))))))
  refine gw_ret ?_
  refine nx_then_ret ?_
  refine nx_ret1 rfl rfl fun wx hm => ?_
  exact ⟨wi, rfl, (by (try simp only [ByteArray.size_append]); omega), hm.k.more (by omega), hm.g⟩
 refine wl_set 11 rfl (congrArg Value.bool h1) ?_
 refine wl_guard_on rfl rfl rfl (mv_ rfl (wl_guard_on rfl rfl rfl (wl_ov (ov_seql rfl rfl) rfl (pf_ rfl rfl (nn_ ?_)))))
 refine gw_cond rfl (fun hh => ?_) (fun hh => ?_)
 ·have h2 : (wi.toList == (⟨#[]⟩ : ByteArray).toList) = true := by simpa using hh
  clear hh
  refine sr_ (mv_ rfl (sg_ rfl (nn_ ?_)))
  refine gw_ret ?_
  refine nx_then_ret ?_
  refine nx_ret1 rfl rfl fun wx hm => ?_
  exact ⟨wi, rfl, (by (try simp only [ByteArray.size_append]); omega), hm.k.more (by omega), hm.g⟩
 have h2 : (wi.toList == (⟨#[]⟩ : ByteArray).toList) = false := by simpa using hh
 clear hh
 refine gw_skip (nx_then (sr_ ?_))
 have htx1 := str_pos h1
 have hwi1 := str_pos h2
 refine mv_ rfl (mv_ rfl ?_)
 refine wl_ov (ov_lens us9 rfl) rfl ?_
 refine wl_got (γ := Int) (val := fun v => .int .i64 v) (φ := fun v => IsBelow ((tx).size : Int) v) rfl cb56 rfl rfl rfl rfl (fun wx hm => (next_any _ wx B sb _ hm.k (by omega) (by omega) (by omega))) fun va hva => ?_
 have ha := isBelow_lt hva (by omega)
 refine sg_ rfl (nn_ (sr_ (mv_ rfl (mv_ rfl (mv_ rfl ?_)))))
 refine wl_ov (ov_lens us9 rfl) rfl ?_
 refine wl_got (γ := Int) (val := fun v => .int .i64 v) (φ := fun v => IsBelow ((wi).size : Int) v) rfl cb56 rfl rfl rfl rfl (fun wx hm => (next_any _ wx B sb _ hm.k (by omega) (by omega) (by omega))) fun vb hvb => ?_
 have hb := isBelow_lt hvb (by omega)
 have hbd := byteAt_bd wi vb
 refine wl_ov (ov_strIx us9 rfl rfl (by omega) (by omega)) rfl ?_
 refine sg_ rfl (nn_ (gw_seq (sr_ (mv_ rfl ?_))))
 refine wl_got (γ := Int) (val := fun v => .int .i64 v) (φ := fun v => IsBelow 3 v) rfl cb56 rfl rfl rfl rfl (fun wx hm => (next_any _ wx B sb _ hm.k (by omega) (by omega) (by omega))) fun vc hvc => ?_
 have e1 := extract_hi2 tx va.toNat
 have e2 := extract_lo2 tx (va + 1).toNat
 have e3 := encode_size (byteAt wi vb)
 have e4 := extract_lo2 tx va.toNat
 refine nn_ (gw_block (sr_ (wl_ov (ov_eql rfl rfl) rfl (sg_ rfl (nn_ ?_)))))
 refine gw_cond rfl (fun hh => ?_) (fun hh => ?_)
 ·have hc1 : vc = 0 := by simpa using hh
  clear hh
  refine gw_seq ?_
  refine gd (fun wz => True) mixed (fun _ _ => trivial) fun z => ?_
  refine wt 0 13 1 rfl z (ov_move rfl) ?_
  refine wt 1 13 3 rfl z (ov_move rfl) ?_
  refine wt 2 13 7 rfl z (ov_strHi us9 rfl rfl (by omega) (by omega)) ?_
  refine wt 3 13 15 rfl z (ov_move rfl) ?_
  refine wt 4 13 31 rfl z (ov_toI32 (by kernel_rfl) (by kernel_rfl) rfl (by omega) (by omega)) ?_
  refine wt 5 13 63 rfl z (ov_runeStr (by kernel_rfl) us9 rfl) ?_
  refine wt 6 13 127 rfl z (ov_sadd rfl rfl (by (try simp only [ByteArray.size_append]); omega)) ?_
  refine wt 7 13 255 rfl z (ov_move rfl) ?_
  refine wt 8 13 511 rfl z (ov_move rfl) ?_
  refine wt 9 13 1023 rfl z (ov_add rfl rfl (by omega) (by omega)) ?_
  refine wt 10 13 2047 rfl z (ov_strLo us9 rfl rfl (by omega) (by omega)) ?_
  refine wt 11 13 4095 rfl z (ov_sadd rfl rfl (by (try simp only [ByteArray.size_append]); omega)) ?_
  refine wt 12 13 8191 rfl z (ov_assign rfl) ?_
  refine wa_done (by kernel_rfl) ?_
  refine nx_then ?_
  refine gw_ret ?_
  refine nx_blk_ret (nx_then_ret ?_)
  refine nx_ret1 rfl rfl fun wx hm => ?_
  exact ⟨((tx.extract 0 va.toNat) ++ (Utf8.encode (byteAt wi vb))) ++ (tx.extract (va + 1).toNat tx.size), rfl, (by (try simp only [ByteArray.size_append]); omega), hm.k.more (by omega), hm.g⟩
 have hc1 : ¬ (vc = 0) := by simpa using hh
 clear hh
 refine sr_ (wl_ov (ov_eql rfl rfl) rfl (sg_ rfl (nn_ ?_)))
 refine gw_cond rfl (fun hh => ?_) (fun hh => ?_)
 ·have hc2 : vc = 1 := by simpa using hh
  clear hh
  refine gw_seq ?_
  refine gd (fun wz => True) mixed (fun _ _ => trivial) fun z => ?_
  refine wt 0 12 1 rfl z (ov_move rfl) ?_
  refine wt 1 12 3 rfl z (ov_move rfl) ?_
  refine wt 2 12 7 rfl z (ov_strHi us9 rfl rfl (by omega) (by omega)) ?_
  refine wt 3 12 15 rfl z (ov_move rfl) ?_
  refine wt 4 12 31 rfl z (ov_toI32 (by kernel_rfl) (by kernel_rfl) rfl (by omega) (by omega)) ?_
  refine wt 5 12 63 rfl z (ov_runeStr (by kernel_rfl) us9 rfl) ?_
  refine wt 6 12 127 rfl z (ov_sadd rfl rfl (by (try simp only [ByteArray.size_append]); omega)) ?_
  refine wt 7 12 255 rfl z (ov_move rfl) ?_
  refine wt 8 12 511 rfl z (ov_move rfl) ?_
  refine wt 9 12 1023 rfl z (ov_strLo us9 rfl rfl (by omega) (by omega)) ?_
  refine wt 10 12 2047 rfl z (ov_sadd rfl rfl (by (try simp only [ByteArray.size_append]); omega)) ?_
  refine wt 11 12 4095 rfl z (ov_assign rfl) ?_
  refine wa_done (by kernel_rfl) ?_
  refine nx_then ?_
  refine gw_ret ?_
  refine nx_blk_ret (nx_then_ret ?_)
  refine nx_ret1 rfl rfl fun wx hm => ?_
  exact ⟨((tx.extract 0 va.toNat) ++ (Utf8.encode (byteAt wi vb))) ++ (tx.extract va.toNat tx.size), rfl, (by (try simp only [ByteArray.size_append]); omega), hm.k.more (by omega), hm.g⟩
 have hc2 : ¬ (vc = 1) := by simpa using hh
 clear hh
 refine gw_skip (nx_blk_nrm (nx_then (gw_seq ?_)))
 refine gd (fun wz => True) mixed (fun _ _ => trivial) fun z => ?_
 refine wt 0 9 1 rfl z (ov_move rfl) ?_
 refine wt 1 9 3 rfl z (ov_move rfl) ?_
 refine wt 2 9 7 rfl z (ov_strHi us9 rfl rfl (by omega) (by omega)) ?_
 refine wt 3 9 15 rfl z (ov_move rfl) ?_
 refine wt 4 9 31 rfl z (ov_move rfl) ?_
 refine wt 5 9 63 rfl z (ov_add rfl rfl (by omega) (by omega)) ?_
 refine wt 6 9 127 rfl z (ov_strLo us9 rfl rfl (by omega) (by omega)) ?_
 refine wt 7 9 255 rfl z (ov_sadd rfl rfl (by (try simp only [ByteArray.size_append]); omega)) ?_
 refine wt 8 9 511 rfl z (ov_assign rfl) ?_
 refine wa_done (by kernel_rfl) ?_
 refine nx_then ?_
 refine gw_ret ?_
 refine nx_ret1 rfl rfl fun wx hm => ?_
 exact ⟨(tx.extract 0 va.toNat) ++ (tx.extract (va + 1).toNat tx.size), rfl, (by (try simp only [ByteArray.size_append]); omega), hm.k.more (by omega), hm.g⟩
end Go.Proofs.YtnpcbfllnkiopaaGreatDoor
namespace Go.Proofs.YtnpcbfllnkiopaaGreatDoor
open Go.RowKit Go.ChangeShapes
theorem var_at {P : Program} {w : World} {n : String} {g : Nat} {cs : Array Value} (hg : P.globalNamed n = some g) (h : w.var? P n = some cs) : ∃ T f, w.heap[g]? = some (.cells cs T f) := by
  unfold World.var? at h
  rw [hg] at h
  simp only [Option.bind_some] at h
  split at h
  · rename_i c T f he
    cases h
    exact ⟨T, f, he⟩
  · cases h
theorem star_err : "*" ++ "errors.errorString" = "*errors.errorString" := by decide
theorem row_err (u : TypeId) (h : Tryz.prog.typeName? 3 u = some "*errors.errorString") : u = 382 :=
  typeName_ptr_named (nm := "errors.errorString") (by rw [star_err]; kernel_rfl) (by kernel_rfl) (by decide) u (by rw [star_err]; exact h)
theorem txtW_of {l : List (String × DataW Unit)} {W : World} (x1 x2 : List UInt8) (hL : laidMet Tryz.prog l W) (hS : W.ShapedOpen Tryz.prog)
    (h1 : l.filter (fun x => x.1 == "internal/strconv.uint64pow10") = [("internal/strconv.uint64pow10", Lib.tabData .u64 Lib.pow10Tab)])
    (h2 : l.filter (fun x => x.1 == "strconv.ErrSyntax") = [("strconv.ErrSyntax", .iface "*errors.errorString" (.ptr (.agg [.lit (.string x1)])))])
    (h3 : l.filter (fun x => x.1 == "strconv.ErrRange") = [("strconv.ErrRange", .iface "*errors.errorString" (.ptr (.agg [.lit (.string x2)])))]) : TxtW W := by
  have c1 := hL.filter (fun x => x.1 == "internal/strconv.uint64pow10")
  have c2 := hL.filter (fun x => x.1 == "strconv.ErrSyntax")
  have c3 := hL.filter (fun x => x.1 == "strconv.ErrRange")
  rw [h1] at c1
  rw [h2] at c2
  rw [h3] at c3
  refine ⟨?_, ?_, ?_, ?_⟩
  · have hg : Tryz.prog.globalNamed "internal/strconv.uint64pow10" = some 1 := by kernel_rfl
    have h := Lib.tabIs_of_head (t := 364) (e := 311) hg (by kernel_rfl) Tryz.underlying364 Tryz.underlying311 (by kernel_rfl) (by kernel_rfl) c1
    exact var_at hg h
  · obtain ⟨m, hm⟩ := cell_of_shapedOpen_int (P := Tryz.prog) (g := 0) (t := 3) (zero := #[.int .i64 0]) hS (of_decide_eq_true (by kernel_rfl)) (by kernel_rfl) rfl (by kernel_rfl) (by kernel_rfl) Tryz.underlying3
    unfold World.cell? at hm
    split at hm
    · rename_i c T f he
      exact ⟨c, T, f, m, he, by simpa using hm⟩
    · cases hm
  · have hg : Tryz.prog.globalNamed "strconv.ErrSyntax" = some 2 := by kernel_rfl
    obtain ⟨a, s, hv, _⟩ := laid_sentinel c2 hg (by kernel_rfl) Tryz.underlying103 row_err Tryz.underlying382 Tryz.underlying384 rfl rfl Tryz.underlying9 (by kernel_rfl) (by kernel_rfl)
    obtain ⟨T, f, h⟩ := var_at hg hv
    exact ⟨T, f, _, _, h⟩
  · have hg : Tryz.prog.globalNamed "strconv.ErrRange" = some 3 := by kernel_rfl
    obtain ⟨a, s, hv, _⟩ := laid_sentinel c3 hg (by kernel_rfl) Tryz.underlying103 row_err Tryz.underlying382 Tryz.underlying384 rfl rfl Tryz.underlying9 (by kernel_rfl) (by kernel_rfl)
    obtain ⟨T, f, h⟩ := var_at hg hv
    exact ⟨T, f, _, _, h⟩
end Go.Proofs.YtnpcbfllnkiopaaGreatDoor
namespace Go.Proofs.YtnpcbfllnkiopaaGreatDoor
open Go.RowKit
set_option maxRecDepth 100000 in
theorem same_event_neq (x0 : Int) (x1 : ByteArray) (x2 : ByteArray) (x3 : Int) (x4 : ByteArray) (w : World) : (binOp .neq 54 (.agg #[.int .i64 x0, .string x1, .string x2, .int .i64 x3, .string x4]) (.agg #[.int .i64 x0, .string x1, .string x2, .int .i64 x3, .string x4])).run Tryz.prog w = .ok (.bool false) w := by
  have hS : Tryz.prog.underlying 54 = some (.struct (Tryz.prog.fieldsOf 54)) := by kernel_rfl
  have hp : Tryz.prog.stoodInHeld 54 = false := by kernel_rfl
  rw [run_neq_struct, show (10000 : Nat) = 9999 + 1 from rfl, run_equalIn_agg w 9999 54 _ _ hS hp]
  simp only [Program.fieldsOf, Tryz.underlying54]
  have u3 := Tryz.underlying3
  have u9 := Tryz.underlying9
  clear hS hp
  go_simp
theorem guard_event : Tryz.prog.eqGuardType Tryz.prog.depth 54 = false := by kernel_rfl
theorem equal_event_any (l : List Ev) (A1 A2 : Option Addr) (n c1 c2 : Nat) (w : World) (h1 : SlT evEnc 5 54 w A1 n l) (h2 : SlT evEnc 5 54 w A2 n l) (hn : n ≤ 1000000) :
  Calls Tryz.prog 21 #[.slice A1 n c1, .slice A2 n c2] w (fun e w' => e = .returned (.bool true) ∧ w.grownBy w' none) := by
 refine gw_enter ⟨26, w, none, []⟩ Tryz.func21 rfl Tryz.ntmps21 rfl (mem0 (X := [SlOld evEnc 5 54 w.heap.size none A1 n l, SlOld evEnc 5 54 w.heap.size none A2 n l]) (allF_cons h1.old (allF_cons h2.old allF_nil)) (allL_cons SlOld.lasts (allL_cons SlOld.lasts allL_nil))) ?_
 refine sr_ ?_
 have hlen := h1.len
 refine sg_ rfl (nn_ (gw_seq (sr_ (mv_ rfl (wl_ov (ov_len es47 rfl) rfl (mv_ rfl (wl_ov (ov_len es47 rfl) rfl (wl_ov (ov_neq rfl rfl) rfl ?_))))))))
 refine wl_set 10 (v' := .bool false) rfl (congrArg Value.bool (by simp)) ?_
 refine nn_ (cf_ rfl (gw_skip (nx_then (gw_seq (sr_ (mv_ rfl (wl_ov (ov_len es47 rfl) rfl (mv_ rfl (nn_ (gw_block ?_))))))))))
 refine gw_loop (γ := Nat) (fun (k : Nat) => k ≤ n) (fun (k : Nat) => [(0, .slice A1 n c1), (1, .slice A2 n c2), (12, .int .i64 ((n : Nat) : Int)), (13, .int .i64 ((k : Nat) : Int))]) (fun (k : Nat) => fun _ => True) (fun (k : Nat) => []) (fun (k : Nat) => []) (fun (k : Nat) => [SlOld evEnc 5 54 w.heap.size none A1 n l, SlOld evEnc 5 54 w.heap.size none A2 n l]) (fun (k : Nat) => n - k) 0 (Nat.zero_le _) ⟨rfl, rfl, rfl, rfl, trivial⟩ (fun _ hm => hm.pick [] [] [0, 1] rfl rfl) ?_
 intro k hinv
 replace hinv : k ≤ n := hinv
 refine sr_ (wl_ov (ov_lss rfl rfl) rfl (nn_ (gw_seq ?_)))
 refine gw_cond rfl (fun hh => ?_) (fun hh => ?_)
 ·have hk : ((k : Nat) : Int) < ((n : Nat) : Int) := by simpa using hh
  clear hh
  refine gw_skip (nx_then (gw_seq (gw_block (sr_ ?_))))
  obtain ⟨b1, o1, hA, _, _⟩ := h1.get (by omega)
  subst hA
  obtain ⟨b2, o2, hA, _, _⟩ := h2.get (by omega)
  subst hA
  obtain ⟨x, hx⟩ : ∃ x, l[k]? = some x := ⟨_, List.getElem?_eq_getElem (by omega)⟩
  obtain ⟨x0, x1, x2, x3, x4⟩ := x
  refine mv_ rfl (sg_ rfl (nn_ (gw_seq ?_)))
  refine gd (fun wz => (SlOld evEnc 5 54 w.heap.size none (some ⟨b1, o1, none⟩) n l) wz ∧ (SlOld evEnc 5 54 w.heap.size none (some ⟨b2, o2, none⟩) n l) wz ∧ True) mixed (fun _ hm => ⟨hm.fa 0, hm.fa 1, trivial⟩) fun z => ?_
  refine wt 0 9 1 rfl z (ov_move rfl) ?_
  refine wt 1 9 3 rfl z (ov_move rfl) ?_
  refine wt 2 9 7 rfl z (ov_index (j := k) es47 rfl rfl (by omega)) ?_
  refine wt 3 9 15 rfl z (ov_elem (vs := [.int .i64 x0, .string x1, .string x2, .int .i64 x3, .string x4]) rz54 rfl (fun _ hm => (hm.1).1) hx rfl rfl) ?_
  refine wt 4 9 31 rfl z (ov_move rfl) ?_
  refine wt 5 9 63 rfl z (ov_move rfl) ?_
  refine wt 6 9 127 rfl z (ov_index (j := k) es47 rfl rfl (by omega)) ?_
  refine wt 7 9 255 rfl z (ov_elem (vs := [.int .i64 x0, .string x1, .string x2, .int .i64 x3, .string x4]) rz54 rfl (fun _ hm => (hm.2.1).1) hx rfl rfl) ?_
  refine wt 8 9 511 rfl z (ov_bin rfl rfl (cmp_agg guard_event (fun wx => same_event_neq x0 x1 x2 x3 x4 wx))) ?_
  refine wa_done (by kernel_rfl) ?_
  refine nx_then (cf_ rfl (gw_skip (nx_blk_nrm (nx_then (gw_region (ad_ rfl rfl (mv_ rfl (wl_nil ?_))))))))
  exact nx_round (k + 1) (by omega) (by omega) ⟨rfl, rfl, rfl, (some_int (by omega)), trivial⟩ (fun _ hm => hm.pick [] [] [0, 1] rfl rfl)
 have hk : ¬ (((k : Nat) : Int) < ((n : Nat) : Int)) := by simpa using hh
 clear hh
 refine gw_exit ?_
 refine nx_then_exit (nx_then_exit ?_)
 refine nx_blk_here ?_
 refine nx_then (sr_ (sg_ rfl (nn_ ?_)))
 refine gw_ret ?_
 refine nx_ret1 rfl rfl fun wx hm => ?_
 exact ⟨rfl, hm.g⟩
theorem logTexts_walk (a0 : Option Addr) (len0 cap0 : Nat) (z0 : List Int) (w : World) (hR : RowIn w a0 len0 cap0 z0) (htx : TxtW w) :
  Calls Tryz.prog 5 #[.slice a0 len0 cap0] w fun e w' => e = .returned (.bool true) ∧ Below w.heap.size w w' := by
 refine gw_enter ⟨115, w, none, []⟩ Tryz.func5 rfl Tryz.ntmps5 rfl (mem0 (X := []) allF_nil allL_nil) ?_
 refine sr_ (sg_ rfl (nn_ (sr_ (mv_ rfl ?_))))
 refine wl_ov (ov_build (cs := [.slice a0 len0 cap0, .int .i64 0]) rfl (by kernel_rfl)) rfl ?_
 refine wl_box rfl rfl rfl fun sb => ?_
 refine sg_ rfl (nn_ (sr_ (mv_ rfl (mv_ rfl ?_))))
 refine wl_law [168, 170, 158, 161, 54] hR 0 rfl fun w1 B hg1 hsb => ?_
 refine wl_also (Y := TxtO w1.heap.size (some sb)) (TxtO.lasts) (fun wx hm => txt_law htx hg1 hsb hm.g) ?_
 refine wl_got (γ := Int) (val := fun v => .int .i64 v) (φ := fun v => 0 ≤ v ∧ (v ≤ 6 ∨ v = 0)) rfl cb31 rfl rfl rfl rfl (fun wx hm => (range_any _ _ wx B sb _ hm.k (by omega) (by omega) (by omega) (by omega) (by omega))) fun v1 hv1 => ?_
 obtain ⟨q, hq⟩ := Int.eq_ofNat_of_zero_le (show 0 ≤ v1 by omega)
 have hq6 : q ≤ 6 := by omega
 subst hq
 refine wl_calls (γ := Option Addr × Option Addr × Option Addr × Option Addr × Nat × Nat × Nat × Nat × Nat × Nat × Nat × List St × List Cs × List Vh × List Pl × Option Addr × Nat × Nat × List Ev) (val := (fun g => .tuple #[.agg #[.slice g.1 g.2.2.2.2.1 g.2.2.2.2.2.1, .slice g.2.1 4 g.2.2.2.2.2.2.1, .slice g.2.2.1 g.2.2.2.2.2.2.2.1 g.2.2.2.2.2.2.2.2.1, .slice g.2.2.2.1 g.2.2.2.2.2.2.2.2.2.1 g.2.2.2.2.2.2.2.2.2.2.1], .slice g.2.2.2.2.2.2.2.2.2.2.2.2.2.2.2.1 g.2.2.2.2.2.2.2.2.2.2.2.2.2.2.2.2.1 g.2.2.2.2.2.2.2.2.2.2.2.2.2.2.2.2.2.1, .int .i64 (evsE g.2.2.2.2.2.2.2.2.2.2.2.1 g.2.2.2.2.2.2.2.2.2.2.2.2.1 g.2.2.2.2.2.2.2.2.2.2.2.2.2.1 g.2.2.2.2.2.2.2.2.2.2.2.2.2.2.1 g.2.2.2.2.2.2.2.2.2.2.2.2.2.2.2.2.2.2)])) (φ := (fun g => (FlOk g.2.2.2.2.2.2.2.2.2.2.2.1 g.2.2.2.2.2.2.2.2.2.2.2.2.1 g.2.2.2.2.2.2.2.2.2.2.2.2.2.1 g.2.2.2.2.2.2.2.2.2.2.2.2.2.2.1 g.2.2.2.2.1 g.2.2.2.2.2.2.2.1 g.2.2.2.2.2.2.2.2.2.1 ∧ ShapeA g.2.2.2.1 g.2.2.2.2.2.2.2.2.2.1 g.2.2.2.2.2.2.2.2.2.2.1 ∧ g.2.2.2.2.2.2.2.2.2.1 ≤ g.2.2.2.2.2.2.2.2.2.2.1) ∧ (g.2.2.2.2.2.2.2.2.2.2.2.2.2.2.2.2.2.2.length = g.2.2.2.2.2.2.2.2.2.2.2.2.2.2.2.2.1 ∧ (∀ x ∈ g.2.2.2.2.2.2.2.2.2.2.2.2.2.2.2.2.2.2, EvOk x) ∧ g.2.2.2.2.2.2.2.2.2.2.2.2.2.2.2.2.1 ≤ q) ∧ ShapeA g.2.2.2.2.2.2.2.2.2.2.2.2.2.2.2.1 g.2.2.2.2.2.2.2.2.2.2.2.2.2.2.2.2.1 g.2.2.2.2.2.2.2.2.2.2.2.2.2.2.2.2.2.1 ∧ g.2.2.2.2.2.2.2.2.2.2.2.2.2.2.2.2.1 ≤ g.2.2.2.2.2.2.2.2.2.2.2.2.2.2.2.2.2.1)) (Y := (fun g => fun wy => SlT stEnc 15 168 wy g.1 g.2.2.2.2.1 g.2.2.2.2.2.2.2.2.2.2.2.1 ∧ SlT csEnc 2 170 wy g.2.1 4 g.2.2.2.2.2.2.2.2.2.2.2.2.1 ∧ SlT vhEnc 2 158 wy g.2.2.1 g.2.2.2.2.2.2.2.1 g.2.2.2.2.2.2.2.2.2.2.2.2.2.1 ∧ SlT plEnc 3 161 wy g.2.2.2.1 g.2.2.2.2.2.2.2.2.2.1 g.2.2.2.2.2.2.2.2.2.2.2.2.2.2.1 ∧ SlT evEnc 5 54 wy g.2.2.2.2.2.2.2.2.2.2.2.2.2.2.2.1 g.2.2.2.2.2.2.2.2.2.2.2.2.2.2.2.2.1 g.2.2.2.2.2.2.2.2.2.2.2.2.2.2.2.2.2.2)) (m' := 0 + 2000) rfl cb30 rfl rfl rfl rfl (fun wx hm => (scene_any q wx B sb _ hm.k (by omega) (by omega)).mono fun _ _ ⟨sA, cA, vA, pA, sn, sc, cc, vn, vc, pn, pc, sl, cl, vl, pl, eA, en, ec, el, he, hok, hel, hS, hg, ho, h1, h2, h3, h4⟩ => ⟨(sA, cA, vA, pA, sn, sc, cc, vn, vc, pn, pc, sl, cl, vl, pl, eA, en, ec, el), he, ⟨hok, hel, own_shape ho, own_cap ho⟩, hS.more (by omega), hg, h1, h2, h3, h4, SlT.ofOwn ev_len ho hel.1⟩) (fun _ => (SlT.lasts2 rfl).and_ ((SlT.lasts2 rfl).and_ ((SlT.lasts2 rfl).and_ ((SlT.lasts2 rfl).and_ (SlT.lasts2 rfl))))) ?_
 rintro ⟨sA, cA, vA, pA, sn, sc, cc, vn, vc, pn, pc, sl, cl, vl, pl, eA, en, ec, el⟩ hsc
 dsimp only at hsc ⊢
 obtain ⟨⟨⟨⟨hsok, hsn10⟩, hcok, ⟨hvB, hvn10⟩, hpB, hpn10⟩, hsh, hpnc⟩, ⟨hell, heok, henq⟩, hesh, henc⟩ := hsc
 have hvok : ∀ x ∈ vl, VhOk x := fun x hx => vhB_ok (hvB x hx)
 have hpok : ∀ x ∈ pl, PlOk x := fun x hx => plB_ok (hpB x hx)
 obtain ⟨FE, hFE⟩ : ∃ z, z = evsE sl cl vl pl el := ⟨_, rfl⟩
 rw [← hFE]
 by_cases hFE0 : FE = 0
 ·subst hFE0
  obtain ⟨hf0, hl0⟩ := evs_ok hFE.symm
  have hB := evB_of hFE.symm
  have hts := lgTx_sz hB
  refine mv_ rfl (wl_ov (ov_extract rfl rfl) rfl (wl_ov (ov_extract rfl rfl) rfl (wl_ov (ov_extract rfl rfl) rfl ?_)))
  refine wl_alloc zc66 rfl fun g2 => ?_
  refine wl_stores (cs' := [.slice sA sn sc, .slice cA 4 cc, .slice vA vn vc, .slice pA pn pc]) 0 rz66 rfl rfl rfl rfl rfl rfl rfl rfl ?_
  refine sg_ rfl (sg_ rfl (nn_ (sr_ ?_)))
  refine wl_ov (ov_loads rz66 rfl (fun _ hm => hm.blkI 0 rfl) rfl rfl) rfl ?_
  refine mv_ rfl ?_
  refine wl_callv rfl cb32 rfl rfl (fun wx hm => (lgText_right sl cl vl pl sA cA vA pA sn sc 4 cc vn vc pn pc el eA en ec wx (hm.fact 0 rfl).1 (hm.fact 0 rfl).2.1 (hm.fact 0 rfl).2.2.1 (hm.fact 0 rfl).2.2.2.1 hsok hcok hvok hpok (by omega) (by omega) (by omega) (by omega) (hm.fact 0 rfl).2.2.2.2 heok (by omega) (hm.fact 1 rfl).1 hFE.symm)) ?_
  refine mv_ rfl (wl_ov (ov_extract rfl rfl) rfl (wl_ov (ov_extract rfl rfl) rfl (sg_ rfl (sg_ rfl (nn_ (gw_seq (sr_ (mv_ rfl (mv_ rfl (wl_ov (ov_neq rfl rfl) rfl ?_))))))))))
  refine wl_set 34 (v' := .bool false) rfl (congrArg Value.bool (by decide)) ?_
  refine mv_ rfl (wl_guard_on rfl rfl rfl (mv_ rfl (wl_guard_on rfl rfl rfl (wl_ov (ov_eql rfl rfl) rfl ?_))))
  refine wl_set 37 (v' := .bool true) rfl (congrArg Value.bool (by decide)) ?_
  refine wl_guard_on rfl rfl rfl (mv_ rfl (wl_guard_on rfl rfl rfl (mv_ rfl (wl_guard_on rfl rfl rfl (mv_ rfl (wl_guard_on rfl rfl rfl ?_))))))
  refine wl_callv rfl cb33 rfl rfl (fun wx hm => (lgLines_any el eA en ec wx (hm.fact 1 rfl).1 (hm.fact 0 rfl).2.2.2.2 hB (by omega))) ?_
  refine wl_guard_on rfl rfl rfl (wl_ov (ov_sneq rfl rfl) rfl (wl_guard_on rfl rfl rfl (pt_ rfl rfl (pf_ rfl rfl (mv_ rfl ?_)))))
  refine wl_set 45 (v' := .bool false) rfl (congrArg Value.bool (by rw [beq_self_eq_true]; rfl)) ?_
  refine wl_guard_on rfl rfl rfl (mv_ rfl (wl_guard_on rfl rfl rfl (wl_ov (ov_neq rfl rfl) rfl ?_)))
  refine wl_set 47 (v' := .bool false) rfl (congrArg Value.bool (by decide)) ?_
  refine wl_guard_on rfl rfl rfl (mv_ rfl (goff rfl rfl rfl (goff rfl rfl rfl (wl_guard_on rfl rfl rfl (pf_ rfl rfl (pf_ rfl rfl (nn_ (cf_ rfl (gw_skip (nx_then (gw_seq (gw_seq ?_))))))))))))
  refine gw_region (mv_ rfl (wl_ov (ov_eql rfl rfl) rfl ?_))
  refine wl_set 54 (v' := .bool true) rfl (congrArg Value.bool (by decide)) ?_
  refine nn_ (ct_ rfl (gw_region (mv_ rfl ?_)))
  refine wl_callv rfl cb33 rfl rfl (fun wx hm => (lgLines_any el eA en ec wx (hm.fact 1 rfl).1 (hm.fact 0 rfl).2.2.2.2 hB (by omega))) ?_
  refine sg_ rfl (nn_ (gw_seq (sr_ (mv_ rfl ?_))))
  refine wl_buildSlice (e := 3) (cs := [.int .i64 0, .int .i64 0, .int .i64 1, .int .i64 2]) rfl (by kernel_rfl) rfl fun g3 => ?_
  refine wl_got (γ := Int) (val := fun v => .int .i64 v) (φ := fun v => v ∈ ([0, 0, 1, 2] : List Int)) rfl cb34 rfl rfl rfl rfl (fun wx hm => (pick_any [0, 0, 1, 2] _ _ _ wx B sb _ hm.k (by omega) (by simp) (by simp) (hm.blkI 0 rfl) (hm.neRow 0 rfl rfl))) fun pv hpv => ?_
  have bpv : 0 ≤ pv ∧ pv ≤ 2 := mem_rng hpv (by decide)
  have bpv0 := bpv.1
  have bpv1 := bpv.2
  clear bpv
  clear hpv
  obtain hv4 | hv4 | hv4 : pv = 0 ∨ pv = 1 ∨ pv = 2 := (by omega)
  ·subst hv4
   refine mv_ rfl (nn_ (gw_block ?_))
   refine gw_rounds 1 ?_
   refine gr_next ?_
   refine sr_ (wl_ov (ov_lss rfl rfl) rfl ?_)
   refine wl_set 61 (v' := .bool false) rfl (congrArg Value.bool (by decide)) ?_
   refine nn_ (gw_seq (cf_ rfl ?_))
   refine gw_exit ?_
   refine nx_then_exit (nx_then_exit ?_)
   refine nx_blk_here ?_
   refine nx_then (sr_ ?_)
   refine wl_ov (ov_loads rz66 rfl (fun _ hm => hm.blkI 1 rfl) rfl rfl) rfl ?_
   refine mv_ rfl ?_
   have hrl := lgL_len (sl := sl) (vl := vl) (t := (lgTx el)) (by omega)
   refine wl_callx (γ := Option Addr × Nat × Nat) (val := (fun g => .tuple #[.slice g.1 g.2.1 g.2.2, .int .i64 (lgAt (lgTx el)), .int .i64 (lgE sl vl (lgTx el))])) (φ := (fun g => g.2.1 = (lgL sl vl (lgTx el)).length)) (Y := (fun g => fun wy => SlT evEnc 5 54 wy g.1 g.2.1 (lgL sl vl (lgTx el)))) rfl cb36 rfl rfl (fun wx hm => (lgRead_right sl cl vl pl sA cA vA pA sn sc 4 cc vn vc pn pc (lgTx el) wx (hm.fact 0 rfl).1 (hm.fact 0 rfl).2.1 (hm.fact 0 rfl).2.2.1 (hm.fact 0 rfl).2.2.2.1 hsok hcok hvok hpok (by omega) (by omega) (by omega) (by omega) (hm.fact 1 rfl).1 (by omega) hf0).mono fun _ _ ⟨A, n, c, he, hsl, hg⟩ => ⟨(A, n, c), he, hsl.len.symm, hg, hsl⟩) (fun _ => SlT.lasts2 rfl) ?_
   rintro ⟨A2, n2, c2⟩ hk2
   dsimp only at hk2 ⊢
   subst hk2
   refine mv_ rfl (wl_ov (ov_extract rfl rfl) rfl (wl_ov (ov_extract rfl rfl) rfl (wl_ov (ov_extract rfl rfl) rfl (sg_ rfl (sg_ rfl (sg_ rfl (nn_ (gw_seq (sr_ ?_)))))))))
   refine wl_ov (ov_loads rz66 rfl (fun _ hm => hm.blkI 1 rfl) rfl rfl) rfl ?_
   refine wl_callv (v := .int .i64 0) rfl cb37 rfl rfl (fun wx hm => (by have h := fleetFault_any sl cl vl pl sA cA vA pA sn sc 4 cc vn vc pn pc wx (hm.fact 1 rfl).1 (hm.fact 1 rfl).2.1 (hm.fact 1 rfl).2.2.1 (hm.fact 1 rfl).2.2.2.1 hsok hcok hvok hpok (by omega) (by omega) (by omega) (by omega) hpnc; rw [hf0] at h; exact h)) ?_
   refine sg_ rfl (nn_ (sr_ (mv_ rfl (wl_ov (ov_neq rfl rfl) rfl ?_))))
   refine wl_set 76 (v' := .bool false) rfl (congrArg Value.bool (by decide)) ?_
   refine nn_ (cf_ rfl (gw_skip (nx_then (sr_ ?_))))
   refine wl_ov (ov_loads rz66 rfl (fun _ hm => hm.blkI 1 rfl) rfl rfl) rfl ?_
   refine mv_ rfl ?_
   refine wl_callx (γ := Option Addr × Nat × Nat) (val := (fun g => .tuple #[.slice g.1 g.2.1 g.2.2, .int .i64 (lgAt (lgTx el)), .int .i64 (lgE sl vl (lgTx el))])) (φ := (fun g => g.2.1 = (lgL sl vl (lgTx el)).length)) (Y := (fun g => fun wy => SlT evEnc 5 54 wy g.1 g.2.1 (lgL sl vl (lgTx el)))) rfl cb39 rfl rfl (fun wx hm => (lgRref_any sl cl vl pl sA cA vA pA sn sc 4 cc vn vc pn pc (lgTx el) wx (hm.fact 1 rfl).1 (hm.fact 1 rfl).2.1 (hm.fact 1 rfl).2.2.1 (hm.fact 1 rfl).2.2.2.1 hsok hcok hvok hpok (by omega) (by omega) (by omega) (by omega) (hm.fact 2 rfl).1 (by omega)).mono fun _ _ ⟨A, n, c, he, hsl, hg⟩ => ⟨(A, n, c), he, hsl.len.symm, hg, hsl⟩) (fun _ => SlT.lasts2 rfl) ?_
   rintro ⟨A3, n3, c3⟩ hk3
   dsimp only at hk3 ⊢
   subst hk3
   refine mv_ rfl (wl_ov (ov_extract rfl rfl) rfl (wl_ov (ov_extract rfl rfl) rfl (wl_ov (ov_extract rfl rfl) rfl (sg_ rfl (sg_ rfl (sg_ rfl (nn_ (sr_ (mv_ rfl (mv_ rfl (wl_ov (ov_eql rfl rfl) rfl ?_)))))))))))
   refine wl_set 101 (v' := .bool true) rfl (congrArg Value.bool (by simp)) ?_
   refine mv_ rfl (wl_guard_on rfl rfl rfl (mv_ rfl (wl_guard_on rfl rfl rfl (mv_ rfl (wl_guard_on rfl rfl rfl (wl_ov (ov_eql rfl rfl) rfl ?_))))))
   refine wl_set 105 (v' := .bool true) rfl (congrArg Value.bool (by simp)) ?_
   refine pt_ rfl rfl (mv_ rfl (wl_guard_on rfl rfl rfl (mv_ rfl (wl_guard_on rfl rfl rfl (mv_ rfl (wl_guard_on rfl rfl rfl ?_))))))
   refine wl_callv rfl cb21 rfl rfl (fun wx hm => (equal_event_any (lgL sl vl (lgTx el)) A2 A3 _ c2 c3 wx (hm.fact 1 rfl) (hm.fact 0 rfl) (by omega))) ?_
   refine pt_ rfl rfl (mv_ rfl (wl_guard_on rfl rfl rfl ?_))
   refine wl_callv rfl cb38 rfl rfl (fun wx hm => (lots_any wx)) ?_
   refine pt_ rfl rfl (sg_ rfl (nn_ ?_))
   refine gw_ret ?_
   refine nx_ret1 rfl rfl fun wx hm => ?_
   exact ⟨rfl, law_end hg1 hsb hm.g⟩
  ·subst hv4
   refine mv_ rfl (nn_ (gw_block ?_))
   refine gw_rounds 2 ?_
   refine gr_next ?_
   refine sr_ (wl_ov (ov_lss rfl rfl) rfl ?_)
   refine wl_set 61 (v' := .bool true) rfl (congrArg Value.bool (by decide)) ?_
   refine nn_ (gw_seq (ct_ rfl (gw_skip (nx_then (gw_seq (gw_block (gw_region (mv_ rfl (mv_ rfl ?_)))))))))
   refine wl_calls (γ := ByteArray) (val := (fun g => .string g)) (φ := (fun g => g.size ≤ (lgTx el).size + 16)) (Y := (fun g => fun _ => True)) (m' := 0 + 2000 + 1 + 3) rfl cb35 rfl rfl rfl rfl (fun wx hm => (by have h := gchanged_any (lgTx el) ⟨#[32, 10, 48, 45, 57, 118, 115, 108, 101, 97, 118, 111]⟩ wx B sb _ hm.k (by omega) (by omega) (by decide +kernel); exact h.mono fun _ _ ⟨v, he, hv, hS, hg⟩ => ⟨v, he, Nat.le_trans hv (by rw [show (⟨#[32, 10, 48, 45, 57, 118, 115, 108, 101, 97, 118, 111]⟩ : ByteArray).size = 12 from rfl]; omega), hS, hg, trivial⟩)) (fun _ => Lasts2.true_) ?_
   rintro u1 hs2
   refine sg_ rfl (wl_nil (nx_blk_nrm (nx_then (gw_region (ad_ rfl rfl ?_)))))
   refine wl_set 65 (v' := .int .i64 1) rfl rfl ?_
   refine mv_ rfl (wl_nil ?_)
   refine nx_next ?_
   refine gr_next ?_
   refine sr_ (wl_ov (ov_lss rfl rfl) rfl ?_)
   refine wl_set 61 (v' := .bool false) rfl (congrArg Value.bool (by decide)) ?_
   refine nn_ (gw_seq (cf_ rfl ?_))
   refine gw_exit ?_
   refine nx_then_exit (nx_then_exit ?_)
   refine nx_blk_here ?_
   refine nx_then (sr_ ?_)
   refine wl_ov (ov_loads rz66 rfl (fun _ hm => hm.blkI 1 rfl) rfl rfl) rfl ?_
   refine mv_ rfl ?_
   have hrl := lgL_len (sl := sl) (vl := vl) (t := u1) (by omega)
   refine wl_callx (γ := Option Addr × Nat × Nat) (val := (fun g => .tuple #[.slice g.1 g.2.1 g.2.2, .int .i64 (lgAt u1), .int .i64 (lgE sl vl u1)])) (φ := (fun g => g.2.1 = (lgL sl vl u1).length)) (Y := (fun g => fun wy => SlT evEnc 5 54 wy g.1 g.2.1 (lgL sl vl u1))) rfl cb36 rfl rfl (fun wx hm => (lgRead_right sl cl vl pl sA cA vA pA sn sc 4 cc vn vc pn pc u1 wx (hm.fact 1 rfl).1 (hm.fact 1 rfl).2.1 (hm.fact 1 rfl).2.2.1 (hm.fact 1 rfl).2.2.2.1 hsok hcok hvok hpok (by omega) (by omega) (by omega) (by omega) (hm.fact 2 rfl).1 (by omega) hf0).mono fun _ _ ⟨A, n, c, he, hsl, hg⟩ => ⟨(A, n, c), he, hsl.len.symm, hg, hsl⟩) (fun _ => SlT.lasts2 rfl) ?_
   rintro ⟨A2, n2, c2⟩ hk2
   dsimp only at hk2 ⊢
   subst hk2
   refine mv_ rfl (wl_ov (ov_extract rfl rfl) rfl (wl_ov (ov_extract rfl rfl) rfl (wl_ov (ov_extract rfl rfl) rfl (sg_ rfl (sg_ rfl (sg_ rfl (nn_ (gw_seq (sr_ ?_)))))))))
   refine wl_ov (ov_loads rz66 rfl (fun _ hm => hm.blkI 1 rfl) rfl rfl) rfl ?_
   refine wl_callv (v := .int .i64 0) rfl cb37 rfl rfl (fun wx hm => (by have h := fleetFault_any sl cl vl pl sA cA vA pA sn sc 4 cc vn vc pn pc wx (hm.fact 2 rfl).1 (hm.fact 2 rfl).2.1 (hm.fact 2 rfl).2.2.1 (hm.fact 2 rfl).2.2.2.1 hsok hcok hvok hpok (by omega) (by omega) (by omega) (by omega) hpnc; rw [hf0] at h; exact h)) ?_
   refine sg_ rfl (nn_ (sr_ (mv_ rfl (wl_ov (ov_neq rfl rfl) rfl ?_))))
   refine wl_set 76 (v' := .bool false) rfl (congrArg Value.bool (by decide)) ?_
   refine nn_ (cf_ rfl (gw_skip (nx_then (sr_ ?_))))
   refine wl_ov (ov_loads rz66 rfl (fun _ hm => hm.blkI 1 rfl) rfl rfl) rfl ?_
   refine mv_ rfl ?_
   refine wl_callx (γ := Option Addr × Nat × Nat) (val := (fun g => .tuple #[.slice g.1 g.2.1 g.2.2, .int .i64 (lgAt u1), .int .i64 (lgE sl vl u1)])) (φ := (fun g => g.2.1 = (lgL sl vl u1).length)) (Y := (fun g => fun wy => SlT evEnc 5 54 wy g.1 g.2.1 (lgL sl vl u1))) rfl cb39 rfl rfl (fun wx hm => (lgRref_any sl cl vl pl sA cA vA pA sn sc 4 cc vn vc pn pc u1 wx (hm.fact 2 rfl).1 (hm.fact 2 rfl).2.1 (hm.fact 2 rfl).2.2.1 (hm.fact 2 rfl).2.2.2.1 hsok hcok hvok hpok (by omega) (by omega) (by omega) (by omega) (hm.fact 3 rfl).1 (by omega)).mono fun _ _ ⟨A, n, c, he, hsl, hg⟩ => ⟨(A, n, c), he, hsl.len.symm, hg, hsl⟩) (fun _ => SlT.lasts2 rfl) ?_
   rintro ⟨A3, n3, c3⟩ hk3
   dsimp only at hk3 ⊢
   subst hk3
   refine mv_ rfl (wl_ov (ov_extract rfl rfl) rfl (wl_ov (ov_extract rfl rfl) rfl (wl_ov (ov_extract rfl rfl) rfl (sg_ rfl (sg_ rfl (sg_ rfl (nn_ (sr_ (mv_ rfl (mv_ rfl (wl_ov (ov_eql rfl rfl) rfl ?_)))))))))))
   refine wl_set 101 (v' := .bool true) rfl (congrArg Value.bool (by simp)) ?_
   refine mv_ rfl (wl_guard_on rfl rfl rfl (mv_ rfl (wl_guard_on rfl rfl rfl (mv_ rfl (wl_guard_on rfl rfl rfl (wl_ov (ov_eql rfl rfl) rfl ?_))))))
   refine wl_set 105 (v' := .bool true) rfl (congrArg Value.bool (by simp)) ?_
   refine pt_ rfl rfl (mv_ rfl (wl_guard_on rfl rfl rfl (mv_ rfl (wl_guard_on rfl rfl rfl (mv_ rfl (wl_guard_on rfl rfl rfl ?_))))))
   refine wl_callv rfl cb21 rfl rfl (fun wx hm => (equal_event_any (lgL sl vl u1) A2 A3 _ c2 c3 wx (hm.fact 1 rfl) (hm.fact 0 rfl) (by omega))) ?_
   refine pt_ rfl rfl (mv_ rfl (wl_guard_on rfl rfl rfl ?_))
   refine wl_callv rfl cb38 rfl rfl (fun wx hm => (lots_any wx)) ?_
   refine pt_ rfl rfl (sg_ rfl (nn_ ?_))
   refine gw_ret ?_
   refine nx_ret1 rfl rfl fun wx hm => ?_
   exact ⟨rfl, law_end hg1 hsb hm.g⟩
  subst hv4
  refine mv_ rfl (nn_ (gw_block ?_))
  refine gw_rounds 3 ?_
  refine gr_next ?_
  refine sr_ (wl_ov (ov_lss rfl rfl) rfl ?_)
  refine wl_set 61 (v' := .bool true) rfl (congrArg Value.bool (by decide)) ?_
  refine nn_ (gw_seq (ct_ rfl (gw_skip (nx_then (gw_seq (gw_block (gw_region (mv_ rfl (mv_ rfl ?_)))))))))
  refine wl_calls (γ := ByteArray) (val := (fun g => .string g)) (φ := (fun g => g.size ≤ (lgTx el).size + 16)) (Y := (fun g => fun _ => True)) (m' := 0 + 2000 + 1 + 3) rfl cb35 rfl rfl rfl rfl (fun wx hm => (by have h := gchanged_any (lgTx el) ⟨#[32, 10, 48, 45, 57, 118, 115, 108, 101, 97, 118, 111]⟩ wx B sb _ hm.k (by omega) (by omega) (by decide +kernel); exact h.mono fun _ _ ⟨v, he, hv, hS, hg⟩ => ⟨v, he, Nat.le_trans hv (by rw [show (⟨#[32, 10, 48, 45, 57, 118, 115, 108, 101, 97, 118, 111]⟩ : ByteArray).size = 12 from rfl]; omega), hS, hg, trivial⟩)) (fun _ => Lasts2.true_) ?_
  rintro u1 hs2
  refine sg_ rfl (wl_nil (nx_blk_nrm (nx_then (gw_region (ad_ rfl rfl ?_)))))
  refine wl_set 65 (v' := .int .i64 1) rfl rfl ?_
  refine mv_ rfl (wl_nil ?_)
  refine nx_next ?_
  refine gr_next ?_
  refine sr_ (wl_ov (ov_lss rfl rfl) rfl ?_)
  refine wl_set 61 (v' := .bool true) rfl (congrArg Value.bool (by decide)) ?_
  refine nn_ (gw_seq (ct_ rfl (gw_skip (nx_then (gw_seq (gw_block (gw_region (mv_ rfl (mv_ rfl ?_)))))))))
  refine wl_calls (γ := ByteArray) (val := (fun g => .string g)) (φ := (fun g => g.size ≤ u1.size + 16)) (Y := (fun g => fun _ => True)) (m' := 0 + 2000 + 1 + 3 + 3) rfl cb35 rfl rfl rfl rfl (fun wx hm => (by have h := gchanged_any u1 ⟨#[32, 10, 48, 45, 57, 118, 115, 108, 101, 97, 118, 111]⟩ wx B sb _ hm.k (by omega) (by omega) (by decide +kernel); exact h.mono fun _ _ ⟨v, he, hv, hS, hg⟩ => ⟨v, he, Nat.le_trans hv (by rw [show (⟨#[32, 10, 48, 45, 57, 118, 115, 108, 101, 97, 118, 111]⟩ : ByteArray).size = 12 from rfl]; omega), hS, hg, trivial⟩)) (fun _ => Lasts2.true_) ?_
  rintro u2 hs3
  refine sg_ rfl (wl_nil (nx_blk_nrm (nx_then (gw_region (ad_ rfl rfl ?_)))))
  refine wl_set 65 (v' := .int .i64 2) rfl rfl ?_
  refine mv_ rfl (wl_nil ?_)
  refine nx_next ?_
  refine gr_next ?_
  refine sr_ (wl_ov (ov_lss rfl rfl) rfl ?_)
  refine wl_set 61 (v' := .bool false) rfl (congrArg Value.bool (by decide)) ?_
  refine nn_ (gw_seq (cf_ rfl ?_))
  refine gw_exit ?_
  refine nx_then_exit (nx_then_exit ?_)
  refine nx_blk_here ?_
  refine nx_then (sr_ ?_)
  refine wl_ov (ov_loads rz66 rfl (fun _ hm => hm.blkI 1 rfl) rfl rfl) rfl ?_
  refine mv_ rfl ?_
  have hrl := lgL_len (sl := sl) (vl := vl) (t := u2) (by omega)
  refine wl_callx (γ := Option Addr × Nat × Nat) (val := (fun g => .tuple #[.slice g.1 g.2.1 g.2.2, .int .i64 (lgAt u2), .int .i64 (lgE sl vl u2)])) (φ := (fun g => g.2.1 = (lgL sl vl u2).length)) (Y := (fun g => fun wy => SlT evEnc 5 54 wy g.1 g.2.1 (lgL sl vl u2))) rfl cb36 rfl rfl (fun wx hm => (lgRead_right sl cl vl pl sA cA vA pA sn sc 4 cc vn vc pn pc u2 wx (hm.fact 2 rfl).1 (hm.fact 2 rfl).2.1 (hm.fact 2 rfl).2.2.1 (hm.fact 2 rfl).2.2.2.1 hsok hcok hvok hpok (by omega) (by omega) (by omega) (by omega) (hm.fact 3 rfl).1 (by omega) hf0).mono fun _ _ ⟨A, n, c, he, hsl, hg⟩ => ⟨(A, n, c), he, hsl.len.symm, hg, hsl⟩) (fun _ => SlT.lasts2 rfl) ?_
  rintro ⟨A2, n2, c2⟩ hk2
  dsimp only at hk2 ⊢
  subst hk2
  refine mv_ rfl (wl_ov (ov_extract rfl rfl) rfl (wl_ov (ov_extract rfl rfl) rfl (wl_ov (ov_extract rfl rfl) rfl (sg_ rfl (sg_ rfl (sg_ rfl (nn_ (gw_seq (sr_ ?_)))))))))
  refine wl_ov (ov_loads rz66 rfl (fun _ hm => hm.blkI 1 rfl) rfl rfl) rfl ?_
  refine wl_callv (v := .int .i64 0) rfl cb37 rfl rfl (fun wx hm => (by have h := fleetFault_any sl cl vl pl sA cA vA pA sn sc 4 cc vn vc pn pc wx (hm.fact 3 rfl).1 (hm.fact 3 rfl).2.1 (hm.fact 3 rfl).2.2.1 (hm.fact 3 rfl).2.2.2.1 hsok hcok hvok hpok (by omega) (by omega) (by omega) (by omega) hpnc; rw [hf0] at h; exact h)) ?_
  refine sg_ rfl (nn_ (sr_ (mv_ rfl (wl_ov (ov_neq rfl rfl) rfl ?_))))
  refine wl_set 76 (v' := .bool false) rfl (congrArg Value.bool (by decide)) ?_
  refine nn_ (cf_ rfl (gw_skip (nx_then (sr_ ?_))))
  refine wl_ov (ov_loads rz66 rfl (fun _ hm => hm.blkI 1 rfl) rfl rfl) rfl ?_
  refine mv_ rfl ?_
  refine wl_callx (γ := Option Addr × Nat × Nat) (val := (fun g => .tuple #[.slice g.1 g.2.1 g.2.2, .int .i64 (lgAt u2), .int .i64 (lgE sl vl u2)])) (φ := (fun g => g.2.1 = (lgL sl vl u2).length)) (Y := (fun g => fun wy => SlT evEnc 5 54 wy g.1 g.2.1 (lgL sl vl u2))) rfl cb39 rfl rfl (fun wx hm => (lgRref_any sl cl vl pl sA cA vA pA sn sc 4 cc vn vc pn pc u2 wx (hm.fact 3 rfl).1 (hm.fact 3 rfl).2.1 (hm.fact 3 rfl).2.2.1 (hm.fact 3 rfl).2.2.2.1 hsok hcok hvok hpok (by omega) (by omega) (by omega) (by omega) (hm.fact 4 rfl).1 (by omega)).mono fun _ _ ⟨A, n, c, he, hsl, hg⟩ => ⟨(A, n, c), he, hsl.len.symm, hg, hsl⟩) (fun _ => SlT.lasts2 rfl) ?_
  rintro ⟨A3, n3, c3⟩ hk3
  dsimp only at hk3 ⊢
  subst hk3
  refine mv_ rfl (wl_ov (ov_extract rfl rfl) rfl (wl_ov (ov_extract rfl rfl) rfl (wl_ov (ov_extract rfl rfl) rfl (sg_ rfl (sg_ rfl (sg_ rfl (nn_ (sr_ (mv_ rfl (mv_ rfl (wl_ov (ov_eql rfl rfl) rfl ?_)))))))))))
  refine wl_set 101 (v' := .bool true) rfl (congrArg Value.bool (by simp)) ?_
  refine mv_ rfl (wl_guard_on rfl rfl rfl (mv_ rfl (wl_guard_on rfl rfl rfl (mv_ rfl (wl_guard_on rfl rfl rfl (wl_ov (ov_eql rfl rfl) rfl ?_))))))
  refine wl_set 105 (v' := .bool true) rfl (congrArg Value.bool (by simp)) ?_
  refine pt_ rfl rfl (mv_ rfl (wl_guard_on rfl rfl rfl (mv_ rfl (wl_guard_on rfl rfl rfl (mv_ rfl (wl_guard_on rfl rfl rfl ?_))))))
  refine wl_callv rfl cb21 rfl rfl (fun wx hm => (equal_event_any (lgL sl vl u2) A2 A3 _ c2 c3 wx (hm.fact 1 rfl) (hm.fact 0 rfl) (by omega))) ?_
  refine pt_ rfl rfl (mv_ rfl (wl_guard_on rfl rfl rfl ?_))
  refine wl_callv rfl cb38 rfl rfl (fun wx hm => (lots_any wx)) ?_
  refine pt_ rfl rfl (sg_ rfl (nn_ ?_))
  refine gw_ret ?_
  refine nx_ret1 rfl rfl fun wx hm => ?_
  exact ⟨rfl, law_end hg1 hsb hm.g⟩
 have hts : (⟨#[]⟩ : ByteArray).size = 0 := rfl
 refine mv_ rfl (wl_ov (ov_extract rfl rfl) rfl (wl_ov (ov_extract rfl rfl) rfl (wl_ov (ov_extract rfl rfl) rfl ?_)))
 refine wl_alloc zc66 rfl fun g8 => ?_
 refine wl_stores (cs' := [.slice sA sn sc, .slice cA 4 cc, .slice vA vn vc, .slice pA pn pc]) 0 rz66 rfl rfl rfl rfl rfl rfl rfl rfl ?_
 refine sg_ rfl (sg_ rfl (nn_ (sr_ ?_)))
 refine wl_ov (ov_loads rz66 rfl (fun _ hm => hm.blkI 0 rfl) rfl rfl) rfl ?_
 refine mv_ rfl ?_
 refine wl_callv (v := .tuple #[.string ⟨#[]⟩, .int .i64 FE]) rfl cb32 rfl rfl (fun wx hm => (by have h := lgText_bad sl cl vl pl sA cA vA pA sn sc 4 cc vn vc pn pc el eA en ec wx (hm.fact 0 rfl).1 (hm.fact 0 rfl).2.1 (hm.fact 0 rfl).2.2.1 (hm.fact 0 rfl).2.2.2.1 hsok hcok hvok hpok (by omega) (by omega) (by omega) (by omega) (hm.fact 0 rfl).2.2.2.2 heok (by omega) (by rw [← hFE]; exact hFE0); rw [← hFE] at h; exact h)) ?_
 refine mv_ rfl (wl_ov (ov_extract rfl rfl) rfl (wl_ov (ov_extract rfl rfl) rfl (sg_ rfl (sg_ rfl (nn_ (gw_seq (sr_ (mv_ rfl (mv_ rfl (wl_ov (ov_neq rfl rfl) rfl ?_))))))))))
 refine wl_set 34 (v' := .bool false) rfl (congrArg Value.bool (by simp)) ?_
 refine mv_ rfl (wl_guard_on rfl rfl rfl (mv_ rfl (wl_guard_on rfl rfl rfl (wl_ov (ov_eql rfl rfl) rfl (wl_guard_on rfl rfl rfl (mv_ rfl ?_))))))
 refine wl_set 38 (v' := .bool false) rfl (congrArg Value.bool (decide_eq_false hFE0)) ?_
 refine goff rfl rfl rfl (goff rfl rfl rfl (goff rfl rfl rfl (goff rfl rfl rfl (wl_guard_on rfl rfl rfl (pf_ rfl rfl (pf_ rfl rfl (mv_ rfl (wl_guard_on rfl rfl rfl (mv_ rfl (wl_guard_on rfl rfl rfl (wl_ov (ov_neq rfl rfl) rfl (wl_guard_on rfl rfl rfl (mv_ rfl ?_)))))))))))))
 refine wl_set 48 (v' := .bool true) rfl (congrArg Value.bool (by rw [decide_eq_false hFE0]; rfl)) ?_
 refine wl_guard_on rfl rfl rfl (mv_ rfl (wl_guard_on rfl rfl rfl (wl_ov (ov_sneq rfl rfl) rfl ?_)))
 refine wl_set 50 (v' := .bool false) rfl (congrArg Value.bool (by decide +kernel)) ?_
 refine wl_guard_on rfl rfl rfl (pt_ rfl rfl (pf_ rfl rfl (nn_ (cf_ rfl (gw_skip (nx_then (gw_seq (sr_ (mv_ rfl (wl_ov (ov_eql rfl rfl) rfl (wl_nil ?_)))))))))))
 refine nx_then ?_
 refine gw_set 54 (v' := .bool false) rfl (congrArg Value.bool (decide_eq_false hFE0)) ?_
 refine cf_ rfl (gw_skip (nx_then (gw_seq (sr_ (mv_ rfl ?_)))))
 refine wl_buildSlice (e := 3) (cs := [.int .i64 0, .int .i64 0, .int .i64 1, .int .i64 2]) rfl (by kernel_rfl) rfl fun g9 => ?_
 refine wl_got (γ := Int) (val := fun v => .int .i64 v) (φ := fun v => v ∈ ([0, 0, 1, 2] : List Int)) rfl cb34 rfl rfl rfl rfl (fun wx hm => (pick_any [0, 0, 1, 2] _ _ _ wx B sb _ hm.k (by omega) (by simp) (by simp) (hm.blkI 0 rfl) (hm.neRow 0 rfl rfl))) fun pv hpv => ?_
 have bpv : 0 ≤ pv ∧ pv ≤ 2 := mem_rng hpv (by decide)
 have bpv0 := bpv.1
 have bpv1 := bpv.2
 clear bpv
 clear hpv
 obtain hv10 | hv10 | hv10 : pv = 0 ∨ pv = 1 ∨ pv = 2 := (by omega)
 ·subst hv10
  refine mv_ rfl (nn_ (gw_block ?_))
  refine gw_rounds 1 ?_
  refine gr_next ?_
  refine sr_ (wl_ov (ov_lss rfl rfl) rfl ?_)
  refine wl_set 61 (v' := .bool false) rfl (congrArg Value.bool (by decide)) ?_
  refine nn_ (gw_seq (cf_ rfl ?_))
  refine gw_exit ?_
  refine nx_then_exit (nx_then_exit ?_)
  refine nx_blk_here ?_
  refine nx_then (sr_ ?_)
  refine wl_ov (ov_loads rz66 rfl (fun _ hm => hm.blkI 1 rfl) rfl rfl) rfl ?_
  refine mv_ rfl ?_
  by_cases hf0 : fleetE sl cl vl pl = 0
  ·have hrl := lgL_len (sl := sl) (vl := vl) (t := (⟨#[]⟩ : ByteArray)) (by omega)
   refine wl_callx (γ := Option Addr × Nat × Nat) (val := (fun g => .tuple #[.slice g.1 g.2.1 g.2.2, .int .i64 (lgAt (⟨#[]⟩ : ByteArray)), .int .i64 (lgE sl vl (⟨#[]⟩ : ByteArray))])) (φ := (fun g => g.2.1 = (lgL sl vl (⟨#[]⟩ : ByteArray)).length)) (Y := (fun g => fun wy => SlT evEnc 5 54 wy g.1 g.2.1 (lgL sl vl (⟨#[]⟩ : ByteArray)))) rfl cb36 rfl rfl (fun wx hm => (lgRead_right sl cl vl pl sA cA vA pA sn sc 4 cc vn vc pn pc (⟨#[]⟩ : ByteArray) wx (hm.fact 0 rfl).1 (hm.fact 0 rfl).2.1 (hm.fact 0 rfl).2.2.1 (hm.fact 0 rfl).2.2.2.1 hsok hcok hvok hpok (by omega) (by omega) (by omega) (by omega) (hm.fact 1 rfl).1 (by omega) hf0).mono fun _ _ ⟨A, n, c, he, hsl, hg⟩ => ⟨(A, n, c), he, hsl.len.symm, hg, hsl⟩) (fun _ => SlT.lasts2 rfl) ?_
   rintro ⟨A2, n2, c2⟩ hk2
   dsimp only at hk2 ⊢
   subst hk2
   refine mv_ rfl (wl_ov (ov_extract rfl rfl) rfl (wl_ov (ov_extract rfl rfl) rfl (wl_ov (ov_extract rfl rfl) rfl (sg_ rfl (sg_ rfl (sg_ rfl (nn_ (gw_seq (sr_ ?_)))))))))
   refine wl_ov (ov_loads rz66 rfl (fun _ hm => hm.blkI 1 rfl) rfl rfl) rfl ?_
   refine wl_callv (v := .int .i64 0) rfl cb37 rfl rfl (fun wx hm => (by have h := fleetFault_any sl cl vl pl sA cA vA pA sn sc 4 cc vn vc pn pc wx (hm.fact 1 rfl).1 (hm.fact 1 rfl).2.1 (hm.fact 1 rfl).2.2.1 (hm.fact 1 rfl).2.2.2.1 hsok hcok hvok hpok (by omega) (by omega) (by omega) (by omega) hpnc; rw [hf0] at h; exact h)) ?_
   refine sg_ rfl (nn_ (sr_ (mv_ rfl (wl_ov (ov_neq rfl rfl) rfl ?_))))
   refine wl_set 76 (v' := .bool false) rfl (congrArg Value.bool (by decide)) ?_
   refine nn_ (cf_ rfl (gw_skip (nx_then (sr_ ?_))))
   refine wl_ov (ov_loads rz66 rfl (fun _ hm => hm.blkI 1 rfl) rfl rfl) rfl ?_
   refine mv_ rfl ?_
   refine wl_callx (γ := Option Addr × Nat × Nat) (val := (fun g => .tuple #[.slice g.1 g.2.1 g.2.2, .int .i64 (lgAt (⟨#[]⟩ : ByteArray)), .int .i64 (lgE sl vl (⟨#[]⟩ : ByteArray))])) (φ := (fun g => g.2.1 = (lgL sl vl (⟨#[]⟩ : ByteArray)).length)) (Y := (fun g => fun wy => SlT evEnc 5 54 wy g.1 g.2.1 (lgL sl vl (⟨#[]⟩ : ByteArray)))) rfl cb39 rfl rfl (fun wx hm => (lgRref_any sl cl vl pl sA cA vA pA sn sc 4 cc vn vc pn pc (⟨#[]⟩ : ByteArray) wx (hm.fact 1 rfl).1 (hm.fact 1 rfl).2.1 (hm.fact 1 rfl).2.2.1 (hm.fact 1 rfl).2.2.2.1 hsok hcok hvok hpok (by omega) (by omega) (by omega) (by omega) (hm.fact 2 rfl).1 (by omega)).mono fun _ _ ⟨A, n, c, he, hsl, hg⟩ => ⟨(A, n, c), he, hsl.len.symm, hg, hsl⟩) (fun _ => SlT.lasts2 rfl) ?_
   rintro ⟨A3, n3, c3⟩ hk3
   dsimp only at hk3 ⊢
   subst hk3
   refine mv_ rfl (wl_ov (ov_extract rfl rfl) rfl (wl_ov (ov_extract rfl rfl) rfl (wl_ov (ov_extract rfl rfl) rfl (sg_ rfl (sg_ rfl (sg_ rfl (nn_ (sr_ (mv_ rfl (mv_ rfl (wl_ov (ov_eql rfl rfl) rfl ?_)))))))))))
   refine wl_set 101 (v' := .bool true) rfl (congrArg Value.bool (by simp)) ?_
   refine mv_ rfl (wl_guard_on rfl rfl rfl (mv_ rfl (wl_guard_on rfl rfl rfl (mv_ rfl (wl_guard_on rfl rfl rfl (wl_ov (ov_eql rfl rfl) rfl ?_))))))
   refine wl_set 105 (v' := .bool true) rfl (congrArg Value.bool (by simp)) ?_
   refine pt_ rfl rfl (mv_ rfl (wl_guard_on rfl rfl rfl (mv_ rfl (wl_guard_on rfl rfl rfl (mv_ rfl (wl_guard_on rfl rfl rfl ?_))))))
   refine wl_callv rfl cb21 rfl rfl (fun wx hm => (equal_event_any (lgL sl vl (⟨#[]⟩ : ByteArray)) A2 A3 _ c2 c3 wx (hm.fact 1 rfl) (hm.fact 0 rfl) (by omega))) ?_
   refine pt_ rfl rfl (mv_ rfl (wl_guard_on rfl rfl rfl ?_))
   refine wl_callv rfl cb38 rfl rfl (fun wx hm => (lots_any wx)) ?_
   refine pt_ rfl rfl (sg_ rfl (nn_ ?_))
   refine gw_ret ?_
   refine nx_ret1 rfl rfl fun wx hm => ?_
   exact ⟨rfl, law_end hg1 hsb hm.g⟩
  obtain ⟨FL, hFL⟩ : ∃ z, z = fleetE sl cl vl pl := ⟨_, rfl⟩
  have hFL0 : ¬ FL = 0 := by rw [hFL]; exact hf0
  refine wl_callv (v := .tuple #[.slice none 0 0, .int .i64 0, .int .i64 FL]) rfl cb36 rfl rfl (fun wx hm => (by have h := lgRead_bad sl cl vl pl sA cA vA pA sn sc 4 cc vn vc pn pc (⟨#[]⟩ : ByteArray) wx (hm.fact 0 rfl).1 (hm.fact 0 rfl).2.1 (hm.fact 0 rfl).2.2.1 (hm.fact 0 rfl).2.2.2.1 hsok hcok hvok hpok (by omega) (by omega) (by omega) (by omega) (hm.fact 1 rfl).1 (by rw [← hFL]; exact hFL0); rw [← hFL] at h; exact h)) ?_
  refine mv_ rfl (wl_ov (ov_extract rfl rfl) rfl (wl_ov (ov_extract rfl rfl) rfl (wl_ov (ov_extract rfl rfl) rfl (sg_ rfl (sg_ rfl (sg_ rfl (nn_ (gw_seq (sr_ ?_)))))))))
  refine wl_ov (ov_loads rz66 rfl (fun _ hm => hm.blkI 1 rfl) rfl rfl) rfl ?_
  refine wl_callv (v := .int .i64 FL) rfl cb37 rfl rfl (fun wx hm => (by have h := fleetFault_any sl cl vl pl sA cA vA pA sn sc 4 cc vn vc pn pc wx (hm.fact 0 rfl).1 (hm.fact 0 rfl).2.1 (hm.fact 0 rfl).2.2.1 (hm.fact 0 rfl).2.2.2.1 hsok hcok hvok hpok (by omega) (by omega) (by omega) (by omega) hpnc; rw [← hFL] at h; exact h)) ?_
  refine sg_ rfl (nn_ (sr_ (mv_ rfl (wl_ov (ov_neq rfl rfl) rfl (nn_ ?_)))))
  refine gw_set 76 (v' := .bool true) rfl (congrArg Value.bool (by rw [decide_eq_false hFL0]; rfl)) ?_
  refine ct_ rfl (sr_ (mv_ rfl (mv_ rfl (wl_ov (ov_eql rfl rfl) rfl ?_))))
  refine wl_set 79 (v' := .bool true) rfl (congrArg Value.bool (by simp)) ?_
  refine mv_ rfl (wl_guard_on rfl rfl rfl (mv_ rfl (wl_guard_on rfl rfl rfl (wl_ov (ov_eql rfl rfl) rfl ?_))))
  refine wl_set 82 (v' := .bool true) rfl (congrArg Value.bool (by decide)) ?_
  refine pt_ rfl rfl (mv_ rfl (wl_guard_on rfl rfl rfl (mv_ rfl (wl_guard_on rfl rfl rfl (wl_ov (ov_len es47 rfl) rfl ?_)))))
  refine wl_set 86 (v' := .int .i64 0) rfl rfl ?_
  refine wl_guard_on rfl rfl rfl (wl_ov (ov_eql rfl rfl) rfl ?_)
  refine wl_set 87 (v' := .bool true) rfl (congrArg Value.bool (by decide)) ?_
  refine pt_ rfl rfl (mv_ rfl (wl_guard_on rfl rfl rfl ?_))
  refine wl_callv rfl cb38 rfl rfl (fun wx hm => (lots_any wx)) ?_
  refine pt_ rfl rfl (sg_ rfl (nn_ ?_))
  refine gw_ret ?_
  refine nx_then_ret ?_
  refine nx_ret1 rfl rfl fun wx hm => ?_
  exact ⟨rfl, law_end hg1 hsb hm.g⟩
 ·subst hv10
  refine mv_ rfl (nn_ (gw_block ?_))
  refine gw_rounds 2 ?_
  refine gr_next ?_
  refine sr_ (wl_ov (ov_lss rfl rfl) rfl ?_)
  refine wl_set 61 (v' := .bool true) rfl (congrArg Value.bool (by decide)) ?_
  refine nn_ (gw_seq (ct_ rfl (gw_skip (nx_then (gw_seq (gw_block (gw_region (mv_ rfl (mv_ rfl ?_)))))))))
  refine wl_calls (γ := ByteArray) (val := (fun g => .string g)) (φ := (fun g => g.size ≤ (⟨#[]⟩ : ByteArray).size + 16)) (Y := (fun g => fun _ => True)) (m' := 0 + 2000 + 1 + 3) rfl cb35 rfl rfl rfl rfl (fun wx hm => (by have h := gchanged_any (⟨#[]⟩ : ByteArray) ⟨#[32, 10, 48, 45, 57, 118, 115, 108, 101, 97, 118, 111]⟩ wx B sb _ hm.k (by omega) (by omega) (by decide +kernel); exact h.mono fun _ _ ⟨v, he, hv, hS, hg⟩ => ⟨v, he, Nat.le_trans hv (by rw [show (⟨#[32, 10, 48, 45, 57, 118, 115, 108, 101, 97, 118, 111]⟩ : ByteArray).size = 12 from rfl]; omega), hS, hg, trivial⟩)) (fun _ => Lasts2.true_) ?_
  rintro u1 hs2
  refine sg_ rfl (wl_nil (nx_blk_nrm (nx_then (gw_region (ad_ rfl rfl ?_)))))
  refine wl_set 65 (v' := .int .i64 1) rfl rfl ?_
  refine mv_ rfl (wl_nil ?_)
  refine nx_next ?_
  refine gr_next ?_
  refine sr_ (wl_ov (ov_lss rfl rfl) rfl ?_)
  refine wl_set 61 (v' := .bool false) rfl (congrArg Value.bool (by decide)) ?_
  refine nn_ (gw_seq (cf_ rfl ?_))
  refine gw_exit ?_
  refine nx_then_exit (nx_then_exit ?_)
  refine nx_blk_here ?_
  refine nx_then (sr_ ?_)
  refine wl_ov (ov_loads rz66 rfl (fun _ hm => hm.blkI 1 rfl) rfl rfl) rfl ?_
  refine mv_ rfl ?_
  by_cases hf0 : fleetE sl cl vl pl = 0
  ·have hrl := lgL_len (sl := sl) (vl := vl) (t := u1) (by omega)
   refine wl_callx (γ := Option Addr × Nat × Nat) (val := (fun g => .tuple #[.slice g.1 g.2.1 g.2.2, .int .i64 (lgAt u1), .int .i64 (lgE sl vl u1)])) (φ := (fun g => g.2.1 = (lgL sl vl u1).length)) (Y := (fun g => fun wy => SlT evEnc 5 54 wy g.1 g.2.1 (lgL sl vl u1))) rfl cb36 rfl rfl (fun wx hm => (lgRead_right sl cl vl pl sA cA vA pA sn sc 4 cc vn vc pn pc u1 wx (hm.fact 1 rfl).1 (hm.fact 1 rfl).2.1 (hm.fact 1 rfl).2.2.1 (hm.fact 1 rfl).2.2.2.1 hsok hcok hvok hpok (by omega) (by omega) (by omega) (by omega) (hm.fact 2 rfl).1 (by omega) hf0).mono fun _ _ ⟨A, n, c, he, hsl, hg⟩ => ⟨(A, n, c), he, hsl.len.symm, hg, hsl⟩) (fun _ => SlT.lasts2 rfl) ?_
   rintro ⟨A2, n2, c2⟩ hk2
   dsimp only at hk2 ⊢
   subst hk2
   refine mv_ rfl (wl_ov (ov_extract rfl rfl) rfl (wl_ov (ov_extract rfl rfl) rfl (wl_ov (ov_extract rfl rfl) rfl (sg_ rfl (sg_ rfl (sg_ rfl (nn_ (gw_seq (sr_ ?_)))))))))
   refine wl_ov (ov_loads rz66 rfl (fun _ hm => hm.blkI 1 rfl) rfl rfl) rfl ?_
   refine wl_callv (v := .int .i64 0) rfl cb37 rfl rfl (fun wx hm => (by have h := fleetFault_any sl cl vl pl sA cA vA pA sn sc 4 cc vn vc pn pc wx (hm.fact 2 rfl).1 (hm.fact 2 rfl).2.1 (hm.fact 2 rfl).2.2.1 (hm.fact 2 rfl).2.2.2.1 hsok hcok hvok hpok (by omega) (by omega) (by omega) (by omega) hpnc; rw [hf0] at h; exact h)) ?_
   refine sg_ rfl (nn_ (sr_ (mv_ rfl (wl_ov (ov_neq rfl rfl) rfl ?_))))
   refine wl_set 76 (v' := .bool false) rfl (congrArg Value.bool (by decide)) ?_
   refine nn_ (cf_ rfl (gw_skip (nx_then (sr_ ?_))))
   refine wl_ov (ov_loads rz66 rfl (fun _ hm => hm.blkI 1 rfl) rfl rfl) rfl ?_
   refine mv_ rfl ?_
   refine wl_callx (γ := Option Addr × Nat × Nat) (val := (fun g => .tuple #[.slice g.1 g.2.1 g.2.2, .int .i64 (lgAt u1), .int .i64 (lgE sl vl u1)])) (φ := (fun g => g.2.1 = (lgL sl vl u1).length)) (Y := (fun g => fun wy => SlT evEnc 5 54 wy g.1 g.2.1 (lgL sl vl u1))) rfl cb39 rfl rfl (fun wx hm => (lgRref_any sl cl vl pl sA cA vA pA sn sc 4 cc vn vc pn pc u1 wx (hm.fact 2 rfl).1 (hm.fact 2 rfl).2.1 (hm.fact 2 rfl).2.2.1 (hm.fact 2 rfl).2.2.2.1 hsok hcok hvok hpok (by omega) (by omega) (by omega) (by omega) (hm.fact 3 rfl).1 (by omega)).mono fun _ _ ⟨A, n, c, he, hsl, hg⟩ => ⟨(A, n, c), he, hsl.len.symm, hg, hsl⟩) (fun _ => SlT.lasts2 rfl) ?_
   rintro ⟨A3, n3, c3⟩ hk3
   dsimp only at hk3 ⊢
   subst hk3
   refine mv_ rfl (wl_ov (ov_extract rfl rfl) rfl (wl_ov (ov_extract rfl rfl) rfl (wl_ov (ov_extract rfl rfl) rfl (sg_ rfl (sg_ rfl (sg_ rfl (nn_ (sr_ (mv_ rfl (mv_ rfl (wl_ov (ov_eql rfl rfl) rfl ?_)))))))))))
   refine wl_set 101 (v' := .bool true) rfl (congrArg Value.bool (by simp)) ?_
   refine mv_ rfl (wl_guard_on rfl rfl rfl (mv_ rfl (wl_guard_on rfl rfl rfl (mv_ rfl (wl_guard_on rfl rfl rfl (wl_ov (ov_eql rfl rfl) rfl ?_))))))
   refine wl_set 105 (v' := .bool true) rfl (congrArg Value.bool (by simp)) ?_
   refine pt_ rfl rfl (mv_ rfl (wl_guard_on rfl rfl rfl (mv_ rfl (wl_guard_on rfl rfl rfl (mv_ rfl (wl_guard_on rfl rfl rfl ?_))))))
   refine wl_callv rfl cb21 rfl rfl (fun wx hm => (equal_event_any (lgL sl vl u1) A2 A3 _ c2 c3 wx (hm.fact 1 rfl) (hm.fact 0 rfl) (by omega))) ?_
   refine pt_ rfl rfl (mv_ rfl (wl_guard_on rfl rfl rfl ?_))
   refine wl_callv rfl cb38 rfl rfl (fun wx hm => (lots_any wx)) ?_
   refine pt_ rfl rfl (sg_ rfl (nn_ ?_))
   refine gw_ret ?_
   refine nx_ret1 rfl rfl fun wx hm => ?_
   exact ⟨rfl, law_end hg1 hsb hm.g⟩
  obtain ⟨FL, hFL⟩ : ∃ z, z = fleetE sl cl vl pl := ⟨_, rfl⟩
  have hFL0 : ¬ FL = 0 := by rw [hFL]; exact hf0
  refine wl_callv (v := .tuple #[.slice none 0 0, .int .i64 0, .int .i64 FL]) rfl cb36 rfl rfl (fun wx hm => (by have h := lgRead_bad sl cl vl pl sA cA vA pA sn sc 4 cc vn vc pn pc u1 wx (hm.fact 1 rfl).1 (hm.fact 1 rfl).2.1 (hm.fact 1 rfl).2.2.1 (hm.fact 1 rfl).2.2.2.1 hsok hcok hvok hpok (by omega) (by omega) (by omega) (by omega) (hm.fact 2 rfl).1 (by rw [← hFL]; exact hFL0); rw [← hFL] at h; exact h)) ?_
  refine mv_ rfl (wl_ov (ov_extract rfl rfl) rfl (wl_ov (ov_extract rfl rfl) rfl (wl_ov (ov_extract rfl rfl) rfl (sg_ rfl (sg_ rfl (sg_ rfl (nn_ (gw_seq (sr_ ?_)))))))))
  refine wl_ov (ov_loads rz66 rfl (fun _ hm => hm.blkI 1 rfl) rfl rfl) rfl ?_
  refine wl_callv (v := .int .i64 FL) rfl cb37 rfl rfl (fun wx hm => (by have h := fleetFault_any sl cl vl pl sA cA vA pA sn sc 4 cc vn vc pn pc wx (hm.fact 1 rfl).1 (hm.fact 1 rfl).2.1 (hm.fact 1 rfl).2.2.1 (hm.fact 1 rfl).2.2.2.1 hsok hcok hvok hpok (by omega) (by omega) (by omega) (by omega) hpnc; rw [← hFL] at h; exact h)) ?_
  refine sg_ rfl (nn_ (sr_ (mv_ rfl (wl_ov (ov_neq rfl rfl) rfl (nn_ ?_)))))
  refine gw_set 76 (v' := .bool true) rfl (congrArg Value.bool (by rw [decide_eq_false hFL0]; rfl)) ?_
  refine ct_ rfl (sr_ (mv_ rfl (mv_ rfl (wl_ov (ov_eql rfl rfl) rfl ?_))))
  refine wl_set 79 (v' := .bool true) rfl (congrArg Value.bool (by simp)) ?_
  refine mv_ rfl (wl_guard_on rfl rfl rfl (mv_ rfl (wl_guard_on rfl rfl rfl (wl_ov (ov_eql rfl rfl) rfl ?_))))
  refine wl_set 82 (v' := .bool true) rfl (congrArg Value.bool (by decide)) ?_
  refine pt_ rfl rfl (mv_ rfl (wl_guard_on rfl rfl rfl (mv_ rfl (wl_guard_on rfl rfl rfl (wl_ov (ov_len es47 rfl) rfl ?_)))))
  refine wl_set 86 (v' := .int .i64 0) rfl rfl ?_
  refine wl_guard_on rfl rfl rfl (wl_ov (ov_eql rfl rfl) rfl ?_)
  refine wl_set 87 (v' := .bool true) rfl (congrArg Value.bool (by decide)) ?_
  refine pt_ rfl rfl (mv_ rfl (wl_guard_on rfl rfl rfl ?_))
  refine wl_callv rfl cb38 rfl rfl (fun wx hm => (lots_any wx)) ?_
  refine pt_ rfl rfl (sg_ rfl (nn_ ?_))
  refine gw_ret ?_
  refine nx_then_ret ?_
  refine nx_ret1 rfl rfl fun wx hm => ?_
  exact ⟨rfl, law_end hg1 hsb hm.g⟩
 subst hv10
 refine mv_ rfl (nn_ (gw_block ?_))
 refine gw_rounds 3 ?_
 refine gr_next ?_
 refine sr_ (wl_ov (ov_lss rfl rfl) rfl ?_)
 refine wl_set 61 (v' := .bool true) rfl (congrArg Value.bool (by decide)) ?_
 refine nn_ (gw_seq (ct_ rfl (gw_skip (nx_then (gw_seq (gw_block (gw_region (mv_ rfl (mv_ rfl ?_)))))))))
 refine wl_calls (γ := ByteArray) (val := (fun g => .string g)) (φ := (fun g => g.size ≤ (⟨#[]⟩ : ByteArray).size + 16)) (Y := (fun g => fun _ => True)) (m' := 0 + 2000 + 1 + 3) rfl cb35 rfl rfl rfl rfl (fun wx hm => (by have h := gchanged_any (⟨#[]⟩ : ByteArray) ⟨#[32, 10, 48, 45, 57, 118, 115, 108, 101, 97, 118, 111]⟩ wx B sb _ hm.k (by omega) (by omega) (by decide +kernel); exact h.mono fun _ _ ⟨v, he, hv, hS, hg⟩ => ⟨v, he, Nat.le_trans hv (by rw [show (⟨#[32, 10, 48, 45, 57, 118, 115, 108, 101, 97, 118, 111]⟩ : ByteArray).size = 12 from rfl]; omega), hS, hg, trivial⟩)) (fun _ => Lasts2.true_) ?_
 rintro u1 hs2
 refine sg_ rfl (wl_nil (nx_blk_nrm (nx_then (gw_region (ad_ rfl rfl ?_)))))
 refine wl_set 65 (v' := .int .i64 1) rfl rfl ?_
 refine mv_ rfl (wl_nil ?_)
 refine nx_next ?_
 refine gr_next ?_
 refine sr_ (wl_ov (ov_lss rfl rfl) rfl ?_)
 refine wl_set 61 (v' := .bool true) rfl (congrArg Value.bool (by decide)) ?_
 refine nn_ (gw_seq (ct_ rfl (gw_skip (nx_then (gw_seq (gw_block (gw_region (mv_ rfl (mv_ rfl ?_)))))))))
 refine wl_calls (γ := ByteArray) (val := (fun g => .string g)) (φ := (fun g => g.size ≤ u1.size + 16)) (Y := (fun g => fun _ => True)) (m' := 0 + 2000 + 1 + 3 + 3) rfl cb35 rfl rfl rfl rfl (fun wx hm => (by have h := gchanged_any u1 ⟨#[32, 10, 48, 45, 57, 118, 115, 108, 101, 97, 118, 111]⟩ wx B sb _ hm.k (by omega) (by omega) (by decide +kernel); exact h.mono fun _ _ ⟨v, he, hv, hS, hg⟩ => ⟨v, he, Nat.le_trans hv (by rw [show (⟨#[32, 10, 48, 45, 57, 118, 115, 108, 101, 97, 118, 111]⟩ : ByteArray).size = 12 from rfl]; omega), hS, hg, trivial⟩)) (fun _ => Lasts2.true_) ?_
 rintro u2 hs3
 refine sg_ rfl (wl_nil (nx_blk_nrm (nx_then (gw_region (ad_ rfl rfl ?_)))))
 refine wl_set 65 (v' := .int .i64 2) rfl rfl ?_
 refine mv_ rfl (wl_nil ?_)
 refine nx_next ?_
 refine gr_next ?_
 refine sr_ (wl_ov (ov_lss rfl rfl) rfl ?_)
 refine wl_set 61 (v' := .bool false) rfl (congrArg Value.bool (by decide)) ?_
 refine nn_ (gw_seq (cf_ rfl ?_))
 refine gw_exit ?_
 refine nx_then_exit (nx_then_exit ?_)
 refine nx_blk_here ?_
 refine nx_then (sr_ ?_)
 refine wl_ov (ov_loads rz66 rfl (fun _ hm => hm.blkI 1 rfl) rfl rfl) rfl ?_
 refine mv_ rfl ?_
 by_cases hf0 : fleetE sl cl vl pl = 0
 ·have hrl := lgL_len (sl := sl) (vl := vl) (t := u2) (by omega)
  refine wl_callx (γ := Option Addr × Nat × Nat) (val := (fun g => .tuple #[.slice g.1 g.2.1 g.2.2, .int .i64 (lgAt u2), .int .i64 (lgE sl vl u2)])) (φ := (fun g => g.2.1 = (lgL sl vl u2).length)) (Y := (fun g => fun wy => SlT evEnc 5 54 wy g.1 g.2.1 (lgL sl vl u2))) rfl cb36 rfl rfl (fun wx hm => (lgRead_right sl cl vl pl sA cA vA pA sn sc 4 cc vn vc pn pc u2 wx (hm.fact 2 rfl).1 (hm.fact 2 rfl).2.1 (hm.fact 2 rfl).2.2.1 (hm.fact 2 rfl).2.2.2.1 hsok hcok hvok hpok (by omega) (by omega) (by omega) (by omega) (hm.fact 3 rfl).1 (by omega) hf0).mono fun _ _ ⟨A, n, c, he, hsl, hg⟩ => ⟨(A, n, c), he, hsl.len.symm, hg, hsl⟩) (fun _ => SlT.lasts2 rfl) ?_
  rintro ⟨A2, n2, c2⟩ hk2
  dsimp only at hk2 ⊢
  subst hk2
  refine mv_ rfl (wl_ov (ov_extract rfl rfl) rfl (wl_ov (ov_extract rfl rfl) rfl (wl_ov (ov_extract rfl rfl) rfl (sg_ rfl (sg_ rfl (sg_ rfl (nn_ (gw_seq (sr_ ?_)))))))))
  refine wl_ov (ov_loads rz66 rfl (fun _ hm => hm.blkI 1 rfl) rfl rfl) rfl ?_
  refine wl_callv (v := .int .i64 0) rfl cb37 rfl rfl (fun wx hm => (by have h := fleetFault_any sl cl vl pl sA cA vA pA sn sc 4 cc vn vc pn pc wx (hm.fact 3 rfl).1 (hm.fact 3 rfl).2.1 (hm.fact 3 rfl).2.2.1 (hm.fact 3 rfl).2.2.2.1 hsok hcok hvok hpok (by omega) (by omega) (by omega) (by omega) hpnc; rw [hf0] at h; exact h)) ?_
  refine sg_ rfl (nn_ (sr_ (mv_ rfl (wl_ov (ov_neq rfl rfl) rfl ?_))))
  refine wl_set 76 (v' := .bool false) rfl (congrArg Value.bool (by decide)) ?_
  refine nn_ (cf_ rfl (gw_skip (nx_then (sr_ ?_))))
  refine wl_ov (ov_loads rz66 rfl (fun _ hm => hm.blkI 1 rfl) rfl rfl) rfl ?_
  refine mv_ rfl ?_
  refine wl_callx (γ := Option Addr × Nat × Nat) (val := (fun g => .tuple #[.slice g.1 g.2.1 g.2.2, .int .i64 (lgAt u2), .int .i64 (lgE sl vl u2)])) (φ := (fun g => g.2.1 = (lgL sl vl u2).length)) (Y := (fun g => fun wy => SlT evEnc 5 54 wy g.1 g.2.1 (lgL sl vl u2))) rfl cb39 rfl rfl (fun wx hm => (lgRref_any sl cl vl pl sA cA vA pA sn sc 4 cc vn vc pn pc u2 wx (hm.fact 3 rfl).1 (hm.fact 3 rfl).2.1 (hm.fact 3 rfl).2.2.1 (hm.fact 3 rfl).2.2.2.1 hsok hcok hvok hpok (by omega) (by omega) (by omega) (by omega) (hm.fact 4 rfl).1 (by omega)).mono fun _ _ ⟨A, n, c, he, hsl, hg⟩ => ⟨(A, n, c), he, hsl.len.symm, hg, hsl⟩) (fun _ => SlT.lasts2 rfl) ?_
  rintro ⟨A3, n3, c3⟩ hk3
  dsimp only at hk3 ⊢
  subst hk3
  refine mv_ rfl (wl_ov (ov_extract rfl rfl) rfl (wl_ov (ov_extract rfl rfl) rfl (wl_ov (ov_extract rfl rfl) rfl (sg_ rfl (sg_ rfl (sg_ rfl (nn_ (sr_ (mv_ rfl (mv_ rfl (wl_ov (ov_eql rfl rfl) rfl ?_)))))))))))
  refine wl_set 101 (v' := .bool true) rfl (congrArg Value.bool (by simp)) ?_
  refine mv_ rfl (wl_guard_on rfl rfl rfl (mv_ rfl (wl_guard_on rfl rfl rfl (mv_ rfl (wl_guard_on rfl rfl rfl (wl_ov (ov_eql rfl rfl) rfl ?_))))))
  refine wl_set 105 (v' := .bool true) rfl (congrArg Value.bool (by simp)) ?_
  refine pt_ rfl rfl (mv_ rfl (wl_guard_on rfl rfl rfl (mv_ rfl (wl_guard_on rfl rfl rfl (mv_ rfl (wl_guard_on rfl rfl rfl ?_))))))
  refine wl_callv rfl cb21 rfl rfl (fun wx hm => (equal_event_any (lgL sl vl u2) A2 A3 _ c2 c3 wx (hm.fact 1 rfl) (hm.fact 0 rfl) (by omega))) ?_
  refine pt_ rfl rfl (mv_ rfl (wl_guard_on rfl rfl rfl ?_))
  refine wl_callv rfl cb38 rfl rfl (fun wx hm => (lots_any wx)) ?_
  refine pt_ rfl rfl (sg_ rfl (nn_ ?_))
  refine gw_ret ?_
  refine nx_ret1 rfl rfl fun wx hm => ?_
  exact ⟨rfl, law_end hg1 hsb hm.g⟩
 obtain ⟨FL, hFL⟩ : ∃ z, z = fleetE sl cl vl pl := ⟨_, rfl⟩
 have hFL0 : ¬ FL = 0 := by rw [hFL]; exact hf0
 refine wl_callv (v := .tuple #[.slice none 0 0, .int .i64 0, .int .i64 FL]) rfl cb36 rfl rfl (fun wx hm => (by have h := lgRead_bad sl cl vl pl sA cA vA pA sn sc 4 cc vn vc pn pc u2 wx (hm.fact 2 rfl).1 (hm.fact 2 rfl).2.1 (hm.fact 2 rfl).2.2.1 (hm.fact 2 rfl).2.2.2.1 hsok hcok hvok hpok (by omega) (by omega) (by omega) (by omega) (hm.fact 3 rfl).1 (by rw [← hFL]; exact hFL0); rw [← hFL] at h; exact h)) ?_
 refine mv_ rfl (wl_ov (ov_extract rfl rfl) rfl (wl_ov (ov_extract rfl rfl) rfl (wl_ov (ov_extract rfl rfl) rfl (sg_ rfl (sg_ rfl (sg_ rfl (nn_ (gw_seq (sr_ ?_)))))))))
 refine wl_ov (ov_loads rz66 rfl (fun _ hm => hm.blkI 1 rfl) rfl rfl) rfl ?_
 refine wl_callv (v := .int .i64 FL) rfl cb37 rfl rfl (fun wx hm => (by have h := fleetFault_any sl cl vl pl sA cA vA pA sn sc 4 cc vn vc pn pc wx (hm.fact 2 rfl).1 (hm.fact 2 rfl).2.1 (hm.fact 2 rfl).2.2.1 (hm.fact 2 rfl).2.2.2.1 hsok hcok hvok hpok (by omega) (by omega) (by omega) (by omega) hpnc; rw [← hFL] at h; exact h)) ?_
 refine sg_ rfl (nn_ (sr_ (mv_ rfl (wl_ov (ov_neq rfl rfl) rfl (nn_ ?_)))))
 refine gw_set 76 (v' := .bool true) rfl (congrArg Value.bool (by rw [decide_eq_false hFL0]; rfl)) ?_
 refine ct_ rfl (sr_ (mv_ rfl (mv_ rfl (wl_ov (ov_eql rfl rfl) rfl ?_))))
 refine wl_set 79 (v' := .bool true) rfl (congrArg Value.bool (by simp)) ?_
 refine mv_ rfl (wl_guard_on rfl rfl rfl (mv_ rfl (wl_guard_on rfl rfl rfl (wl_ov (ov_eql rfl rfl) rfl ?_))))
 refine wl_set 82 (v' := .bool true) rfl (congrArg Value.bool (by decide)) ?_
 refine pt_ rfl rfl (mv_ rfl (wl_guard_on rfl rfl rfl (mv_ rfl (wl_guard_on rfl rfl rfl (wl_ov (ov_len es47 rfl) rfl ?_)))))
 refine wl_set 86 (v' := .int .i64 0) rfl rfl ?_
 refine wl_guard_on rfl rfl rfl (wl_ov (ov_eql rfl rfl) rfl ?_)
 refine wl_set 87 (v' := .bool true) rfl (congrArg Value.bool (by decide)) ?_
 refine pt_ rfl rfl (mv_ rfl (wl_guard_on rfl rfl rfl ?_))
 refine wl_callv rfl cb38 rfl rfl (fun wx hm => (lots_any wx)) ?_
 refine pt_ rfl rfl (sg_ rfl (nn_ ?_))
 refine gw_ret ?_
 refine nx_then_ret ?_
 refine nx_ret1 rfl rfl fun wx hm => ?_
 exact ⟨rfl, law_end hg1 hsb hm.g⟩
theorem logTexts_law {l : List (String × DataW Unit)} (y1 y2 : List UInt8) (a0 : Option Addr) (len0 cap0 : Nat) (z0 : List Int) (W : World) (hR : RowIn W a0 len0 cap0 z0) (hL : laidMet Tryz.prog l W) (hS : W.ShapedOpen Tryz.prog)
    (h1 : l.filter (fun x => x.1 == "internal/strconv.uint64pow10") = [("internal/strconv.uint64pow10", Lib.tabData .u64 Lib.pow10Tab)])
    (h2 : l.filter (fun x => x.1 == "strconv.ErrSyntax") = [("strconv.ErrSyntax", .iface "*errors.errorString" (.ptr (.agg [.lit (.string y1)])))])
    (h3 : l.filter (fun x => x.1 == "strconv.ErrRange") = [("strconv.ErrRange", .iface "*errors.errorString" (.ptr (.agg [.lit (.string y2)])))]) :
    Calls Tryz.prog 5 #[.slice a0 len0 cap0] W fun e w' => e = .returned (.bool true) ∧ Below W.heap.size W w' :=
  logTexts_walk a0 len0 cap0 z0 W hR (txtW_of y1 y2 hL hS h1 h2 h3)
end Go.Proofs.YtnpcbfllnkiopaaGreatDoor
