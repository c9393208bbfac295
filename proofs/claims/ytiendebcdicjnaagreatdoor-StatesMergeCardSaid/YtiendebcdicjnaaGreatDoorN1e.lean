/- Several texts as one: Smb Mrb He Hf Bq Td Ry Stm -/
import Derived.Test.YtiendebcdicjnaaGreatDoorN1a
import Derived.Test.YtiendebcdicjnaaGreatDoorN1d
import Derived.Test.YtiendebcdicjnaaGreatDoorN1b
import Derived.Deep.RegionHeld3
import Derived.Laws.ResultCell
set_option maxRecDepth 100000
set_option maxHeartbeats 4000000
namespace Go.Proofs.YtiendebcdicjnaaGreatDoor
open Go.RowKit
theorem swap_bt (l0 : List Ev) (br n cap base a b q : Nat) (w : World) (h : w.ownsRow base 74 5 (.slice (some ⟨br, 0, none⟩) n cap) n (l0.flatMap evEnc)) (hl0 : l0.length = n) (hn : n ≤ 1000000) (hab : a < b) (hb : b + q ≤ n) :
  Calls Tryz.prog 281 #[.slice (some ⟨br, 0, none⟩) n cap, .int .i64 ((a : Nat) : Int), .int .i64 ((b : Nat) : Int), .int .i64 ((q : Nat) : Int), .func (.func 79) #[] #[]] w (fun e w' => e = .returned (.tuple #[]) ∧ w'.ownsRow base 74 5 (.slice (some ⟨br, 0, none⟩) n cap) n ((swpN l0 a b q).flatMap evEnc) ∧ w.grownBy w' (some br)) := by
 refine gw_enter ⟨38, w, (some br), []⟩ Tryz.func281 rfl Tryz.ntmps281 rfl (memR (X := []) h allF_nil allL_nil) ?_
 refine sr_ (sg_ rfl (nn_ (gw_block ?_)))
 refine gw_loop (γ := Nat × List Ev) (fun g => g.1 ≤ q ∧ g.2.length = n ∧ g.2 = swpN l0 a b g.1) (fun g => [(0, .slice (some ⟨br, 0, none⟩) n cap), (1, .int .i64 ((a : Nat) : Int)), (2, .int .i64 ((b : Nat) : Int)), (3, .int .i64 ((q : Nat) : Int)), (10, .int .i64 ((g.1 : Nat) : Int))]) (fun g => RowK base 74 5 n cap br ((g.2).flatMap evEnc)) (fun g => []) (fun g => []) (fun g => []) (fun g => q - g.1) (0, l0) ⟨Nat.zero_le _, hl0, rfl⟩ ⟨rfl, rfl, rfl, rfl, rfl, trivial⟩ (fun _ hm => hm.pick [] [] [] rfl rfl) ?_
 rintro ⟨k, m⟩ hinv
 replace hinv : k ≤ q ∧ m.length = n ∧ m = swpN l0 a b k := hinv
 dsimp only
 refine gw_seq (sr_ ?_)
 obtain ⟨hk0, hm1, hmk⟩ := hinv
 refine mv_ rfl (mv_ rfl (wl_ov (ov_lss rfl rfl) rfl (nn_ ?_)))
 refine gw_cond rfl (fun hh => ?_) (fun hh => ?_)
 ·have hk : ((k : Nat) : Int) < ((q : Nat) : Int) := by simpa using hh
  clear hh
  refine gw_skip (nx_then (gw_seq (gw_block ?_)))
  obtain ⟨xx, hx⟩ : ∃ x, m[(a + k)]? = some x := ⟨_, List.getElem?_eq_getElem (by omega)⟩
  obtain ⟨x0, x1, x2, x3, x4⟩ := xx
  obtain ⟨yy, hy⟩ : ∃ x, m[(b + k)]? = some x := ⟨_, List.getElem?_eq_getElem (by omega)⟩
  obtain ⟨y0, y1, y2, y3, y4⟩ := yy
  have hst : swpN l0 a b (k + 1) = (m.set (a + k) ⟨y0, y1, y2, y3, y4⟩).set (b + k) ⟨x0, x1, x2, x3, x4⟩ := by
   rw [hmk] at hx hy ⊢
   exact swpN_at hx hy
  refine gd (fun wz => True) mixed (fun _ _ => trivial) fun z => ?_
  refine wt 0 24 1 rfl z (ov_move rfl) ?_
  refine wt 1 24 3 rfl z (ov_move rfl) ?_
  refine wt 2 24 7 rfl z (ov_move rfl) ?_
  refine wt 3 24 15 rfl z (ov_add rfl rfl (by omega) (by omega)) ?_
  refine wa_set 19 (v' := .int .i64 (((a + k) : Nat) : Int)) rfl (congrArg (Value.int .i64) (by omega)) ?_
  refine wt 4 24 31 rfl z (ov_move rfl) ?_
  refine wt 5 24 63 rfl z (ov_move rfl) ?_
  refine wt 6 24 127 rfl z (ov_move rfl) ?_
  refine wt 7 24 255 rfl z (ov_add rfl rfl (by omega) (by omega)) ?_
  refine wa_set 23 (v' := .int .i64 (((b + k) : Nat) : Int)) rfl (congrArg (Value.int .i64) (by omega)) ?_
  refine wt 8 24 511 rfl z (ov_move rfl) ?_
  refine wt 9 24 1023 rfl z (ov_move rfl) ?_
  refine wt 10 24 2047 rfl z (ov_move rfl) ?_
  refine wt 11 24 4095 rfl z (ov_add rfl rfl (by omega) (by omega)) ?_
  refine wa_set 27 (v' := .int .i64 (((b + k) : Nat) : Int)) rfl (congrArg (Value.int .i64) (by omega)) ?_
  refine wt 12 24 8191 rfl z (ov_index (j := (b + k)) es47 rfl rfl (by omega)) ?_
  refine wt 14 24 24575 rfl z (ov_move rfl) ?_
  refine wt 15 24 57343 rfl z (ov_move rfl) ?_
  refine wt 16 24 122879 rfl z (ov_move rfl) ?_
  refine wt 17 24 253951 rfl z (ov_add rfl rfl (by omega) (by omega)) ?_
  refine wa_set 33 (v' := .int .i64 (((a + k) : Nat) : Int)) rfl (congrArg (Value.int .i64) (by omega)) ?_
  refine wt 18 24 516095 rfl z (ov_index (j := (a + k)) es47 rfl rfl (by omega)) ?_
  refine wa_all [13, 19] (by kernel_rfl) rfl ⟨⟨_, rfl, ?_⟩, ⟨_, rfl, ?_⟩, trivial⟩
  ·refine wl_ov (ov_elem (vs := [.int .i64 y0, .string y1, .string y2, .int .i64 y3, .string y4]) rz74 rfl (fun _ hm => (RowK.get hm.k ev_len hm1)) hy rfl rfl) rfl ?_
   refine wl_nil ?_
   refine nw 24 524287 (fun _ _ => trivial) fun z => ?_
   refine wa1 19 rfl ?_
   refine wl_ov (ov_elem (vs := [.int .i64 x0, .string x1, .string x2, .int .i64 x3, .string x4]) rz74 rfl (fun _ hm => (RowK.get hm.k ev_len hm1)) hx rfl rfl) rfl ?_
   refine wl_nil ?_
   refine nw 24 1048575 (fun _ _ => trivial) fun z => ?_
   refine wt 20 24 2097151 rfl z (ov_index (j := (a + k)) es47 rfl rfl (by omega)) ?_
   refine wa1 21 rfl ?_
   refine wl_storesRow (l := m) (j := (a + k)) (r := 0) (el := ⟨x0, x1, x2, x3, x4⟩) (el' := ⟨y0, y1, y2, y3, y4⟩) rfl rz74 rfl rfl rfl rfl ev_len rfl hx hm1 (by decide) rfl rfl ?_
   refine wl_nil ?_
   refine nw 24 4194303 (fun _ _ => trivial) fun z => ?_
   refine wt 22 24 8388607 rfl z (ov_index (j := (b + k)) es47 rfl rfl (by omega)) ?_
   refine wa1 23 rfl ?_
   refine wl_storesRow (l := m.set (a + k) ⟨y0, y1, y2, y3, y4⟩) (j := (b + k)) (r := 0) (el := ⟨y0, y1, y2, y3, y4⟩) (el' := ⟨x0, x1, x2, x3, x4⟩) rfl rz74 rfl rfl rfl rfl ev_len rfl (by rw [List.getElem?_set_ne (by omega)]; exact hy) (by rw [List.length_set]; exact hm1) (by decide) rfl rfl ?_
   refine wl_nil ?_
   refine nw 24 16777215 (fun _ _ => trivial) fun z => ?_
   refine wa_done (by kernel_rfl) ?_
   refine nx_blk_nrm (nx_then (gw_region (mv_ rfl (ad_ rfl rfl (sg_ rfl (wl_nil ?_))))))
   exact nx_round (k + 1, (m.set (a + k) ⟨y0, y1, y2, y3, y4⟩).set (b + k) ⟨x0, x1, x2, x3, x4⟩) ⟨by dsimp only; omega, by simp [hm1], hst.symm⟩ (by dsimp only; omega) ⟨rfl, rfl, rfl, rfl, (some_int (by omega)), trivial⟩ (fun _ hm => hm.pick [] [] [] rfl rfl)
  refine wl_ov (ov_elem (vs := [.int .i64 x0, .string x1, .string x2, .int .i64 x3, .string x4]) rz74 rfl (fun _ hm => (RowK.get hm.k ev_len hm1)) hx rfl rfl) rfl ?_
  refine wl_nil ?_
  refine nw 24 1040383 (fun _ _ => trivial) fun z => ?_
  refine wa1 13 rfl ?_
  refine wl_ov (ov_elem (vs := [.int .i64 y0, .string y1, .string y2, .int .i64 y3, .string y4]) rz74 rfl (fun _ hm => (RowK.get hm.k ev_len hm1)) hy rfl rfl) rfl ?_
  refine wl_nil ?_
  refine nw 24 1048575 (fun _ _ => trivial) fun z => ?_
  refine wt 20 24 2097151 rfl z (ov_index (j := (a + k)) es47 rfl rfl (by omega)) ?_
  refine wa1 21 rfl ?_
  refine wl_storesRow (l := m) (j := (a + k)) (r := 0) (el := ⟨x0, x1, x2, x3, x4⟩) (el' := ⟨y0, y1, y2, y3, y4⟩) rfl rz74 rfl rfl rfl rfl ev_len rfl hx hm1 (by decide) rfl rfl ?_
  refine wl_nil ?_
  refine nw 24 4194303 (fun _ _ => trivial) fun z => ?_
  refine wt 22 24 8388607 rfl z (ov_index (j := (b + k)) es47 rfl rfl (by omega)) ?_
  refine wa1 23 rfl ?_
  refine wl_storesRow (l := m.set (a + k) ⟨y0, y1, y2, y3, y4⟩) (j := (b + k)) (r := 0) (el := ⟨y0, y1, y2, y3, y4⟩) (el' := ⟨x0, x1, x2, x3, x4⟩) rfl rz74 rfl rfl rfl rfl ev_len rfl (by rw [List.getElem?_set_ne (by omega)]; exact hy) (by rw [List.length_set]; exact hm1) (by decide) rfl rfl ?_
  refine wl_nil ?_
  refine nw 24 16777215 (fun _ _ => trivial) fun z => ?_
  refine wa_done (by kernel_rfl) ?_
  refine nx_blk_nrm (nx_then (gw_region (mv_ rfl (ad_ rfl rfl (sg_ rfl (wl_nil ?_))))))
  exact nx_round (k + 1, (m.set (a + k) ⟨y0, y1, y2, y3, y4⟩).set (b + k) ⟨x0, x1, x2, x3, x4⟩) ⟨by dsimp only; omega, by simp [hm1], hst.symm⟩ (by dsimp only; omega) ⟨rfl, rfl, rfl, rfl, (some_int (by omega)), trivial⟩ (fun _ hm => hm.pick [] [] [] rfl rfl)
 have hk : ¬ (((k : Nat) : Int) < ((q : Nat) : Int)) := by simpa using hh
 clear hh
 refine gw_exit ?_
 refine nx_then_exit (nx_then_exit ?_)
 refine nx_blk_here ?_
 obtain rfl : k = q := by omega
 subst hmk
 refine nx_ret0 rfl fun wx hm => ?_
 exact ⟨rfl, fin_row hm.k hm.g⟩
theorem rotate_bt (l0 : List Ev) (br n cap base a mm b : Nat) (w : World) (h : w.ownsRow base 74 5 (.slice (some ⟨br, 0, none⟩) n cap) n (l0.flatMap evEnc)) (hl0 : l0.length = n) (hn : n ≤ 1000000) (ham : a < mm) (hmb : mm < b) (hbn : b ≤ n) :
  Calls Tryz.prog 249 #[.slice (some ⟨br, 0, none⟩) n cap, .int .i64 ((a : Nat) : Int), .int .i64 ((mm : Nat) : Int), .int .i64 ((b : Nat) : Int), .func (.func 79) #[] #[]] w (fun e w' => ∃ R : List Ev, (R.length = n ∧ ∀ x, R[x]? = rotAt l0 a mm b x) ∧ e = .returned (.tuple #[]) ∧ w'.ownsRow base 74 5 (.slice (some ⟨br, 0, none⟩) n cap) n ((R).flatMap evEnc) ∧ w.grownBy w' (some br)) := by
 refine gw_enter ⟨58, w, (some br), []⟩ Tryz.func249 rfl Tryz.ntmps249 rfl (memR (X := []) h allF_nil allL_nil) ?_
 refine sr_ (mv_ rfl (mv_ rfl ?_))
 refine wl_ov (ov_sub rfl rfl (by omega) (by omega)) rfl ?_
 refine wl_set 14 (v' := .int .i64 (((mm - a) : Nat) : Int)) rfl (congrArg (Value.int .i64) (by omega)) ?_
 refine sg_ rfl (nn_ (sr_ (mv_ rfl (mv_ rfl ?_))))
 refine wl_ov (ov_sub rfl rfl (by omega) (by omega)) rfl ?_
 refine wl_set 17 (v' := .int .i64 (((b - mm) : Nat) : Int)) rfl (congrArg (Value.int .i64) (by omega)) ?_
 refine sg_ rfl (nn_ (gw_seq (gw_block ?_)))
 refine gw_loop (γ := Nat × Nat × List Ev) (fun g => (1 ≤ g.1 ∧ 1 ≤ g.2.1 ∧ g.1 ≤ mm ∧ mm + g.2.1 ≤ n) ∧ g.2.2.length = n ∧ ∀ x, rotAt g.2.2 (mm - g.1) mm (mm + g.2.1) x = rotAt l0 a mm b x) (fun g => [(0, .slice (some ⟨br, 0, none⟩) n cap), (2, .int .i64 ((mm : Nat) : Int)), (4, .func (.func 79) #[] #[]), (10, .int .i64 ((g.1 : Nat) : Int)), (11, .int .i64 ((g.2.1 : Nat) : Int))]) (fun g => RowK base 74 5 n cap br ((g.2.2).flatMap evEnc)) (fun g => []) (fun g => []) (fun g => []) (fun g => g.1 + g.2.1) ((mm - a), (b - mm), l0) ⟨⟨by dsimp only; omega, by dsimp only; omega, by dsimp only; omega, by dsimp only; omega⟩, hl0, fun x => by dsimp only; rw [show mm - (mm - a) = a by omega, show mm + (b - mm) = b by omega]⟩ ⟨rfl, rfl, rfl, rfl, rfl, trivial⟩ (fun _ hm => hm.pick [] [] [] rfl rfl) ?_
 rintro ⟨i, j, m⟩ hinv
 replace hinv : (1 ≤ i ∧ 1 ≤ j ∧ i ≤ mm ∧ mm + j ≤ n) ∧ m.length = n ∧ ∀ x, rotAt m (mm - i) mm (mm + j) x = rotAt l0 a mm b x := hinv
 dsimp only
 refine gw_seq (sr_ ?_)
 obtain ⟨⟨hi1, hj1, him, hjn⟩, hm1, hrot⟩ := hinv
 refine mv_ rfl (mv_ rfl (wl_ov (ov_neq rfl rfl) rfl (nn_ ?_)))
 refine gw_cond rfl (fun hh => ?_) (fun hh => ?_)
 ·have hij : ¬ (((i : Nat) : Int) = ((j : Nat) : Int)) := by simpa using hh
  clear hh
  refine gw_skip (nx_then (gw_block (sr_ (mv_ rfl (mv_ rfl ?_)))))
  refine wl_ov (ov_gtr rfl rfl) rfl ?_
  refine nn_ ?_
  refine gw_cond rfl (fun hh => ?_) (fun hh => ?_)
  ·have hgt : ((j : Nat) : Int) < ((i : Nat) : Int) := by simpa using hh
   clear hh
   refine sr_ (mv_ rfl (mv_ rfl (mv_ rfl ?_)))
   refine wl_ov (ov_sub rfl rfl (by omega) (by omega)) rfl ?_
   refine wl_set 27 (v' := .int .i64 (((mm - i) : Nat) : Int)) rfl (congrArg (Value.int .i64) (by omega)) ?_
   refine mv_ rfl (mv_ rfl (mv_ rfl ?_))
   refine wl_callK rfl rfl rfl cb281 rfl rfl (fun wx hm => (swap_bt m br n cap base (mm - i) mm j wx hm.k hm1 hn (by omega) (by omega))) ?_
   refine nn_ (gw_region (mv_ rfl (mv_ rfl ?_)))
   refine wl_ov (ov_sub rfl rfl (by omega) (by omega)) rfl ?_
   refine wl_set 34 (v' := .int .i64 (((i - j) : Nat) : Int)) rfl (congrArg (Value.int .i64) (by omega)) ?_
   refine sg_ rfl (wl_nil (nx_blk_nrm ?_))
   exact nx_round ((i - j), j, (swpN m (mm - i) mm j)) ⟨⟨by dsimp only; omega, by dsimp only; omega, by dsimp only; omega, by dsimp only; omega⟩, by dsimp only; rw [swpN_len]; exact hm1, fun x => by dsimp only; rw [← hrot x]; exact (rot_front (by omega) (by omega) (by omega) x).symm⟩ (by dsimp only; omega) ⟨rfl, rfl, rfl, rfl, rfl, trivial⟩ (fun _ hm => hm.pick [] [] [] rfl rfl)
  have hgt : ¬ (((j : Nat) : Int) < ((i : Nat) : Int)) := by simpa using hh
  clear hh
  refine sr_ (mv_ rfl (mv_ rfl (mv_ rfl ?_)))
  refine wl_ov (ov_sub rfl rfl (by omega) (by omega)) rfl ?_
  refine wl_set 38 (v' := .int .i64 (((mm - i) : Nat) : Int)) rfl (congrArg (Value.int .i64) (by omega)) ?_
  refine mv_ rfl (mv_ rfl (ad_ rfl rfl (mv_ rfl ?_)))
  refine wl_ov (ov_sub rfl rfl (by omega) (by omega)) rfl ?_
  refine wl_set 43 (v' := .int .i64 (((mm + j - i) : Nat) : Int)) rfl (congrArg (Value.int .i64) (by omega)) ?_
  refine mv_ rfl (mv_ rfl ?_)
  refine wl_callK rfl rfl rfl cb281 rfl rfl (fun wx hm => (swap_bt m br n cap base (mm - i) (mm + j - i) i wx hm.k hm1 hn (by omega) (by omega))) ?_
  refine nn_ (gw_region (mv_ rfl (mv_ rfl ?_)))
  refine wl_ov (ov_sub rfl rfl (by omega) (by omega)) rfl ?_
  refine wl_set 49 (v' := .int .i64 (((j - i) : Nat) : Int)) rfl (congrArg (Value.int .i64) (by omega)) ?_
  refine sg_ rfl (wl_nil (nx_blk_nrm ?_))
  exact nx_round (i, (j - i), (swpN m (mm - i) (mm + j - i) i)) ⟨⟨by dsimp only; omega, by dsimp only; omega, by dsimp only; omega, by dsimp only; omega⟩, by dsimp only; rw [swpN_len]; exact hm1, fun x => by dsimp only; rw [← hrot x]; exact (rot_back (by omega) (by omega) (by omega) x).symm⟩ (by dsimp only; omega) ⟨rfl, rfl, rfl, rfl, rfl, trivial⟩ (fun _ hm => hm.pick [] [] [] rfl rfl)
 have hij : ((i : Nat) : Int) = ((j : Nat) : Int) := by simpa using hh
 clear hh
 refine gw_exit ?_
 refine nx_then_exit (nx_then_exit ?_)
 refine nx_blk_here ?_
 refine nx_then (gw_region ?_)
 obtain rfl : i = j := by omega
 refine mv_ rfl (mv_ rfl (mv_ rfl ?_))
 refine wl_ov (ov_sub rfl rfl (by omega) (by omega)) rfl ?_
 refine wl_set 53 (v' := .int .i64 (((mm - i) : Nat) : Int)) rfl (congrArg (Value.int .i64) (by omega)) ?_
 refine mv_ rfl (mv_ rfl (mv_ rfl ?_))
 refine wl_callK rfl rfl rfl cb281 rfl rfl (fun wx hm => (swap_bt m br n cap base (mm - i) mm i wx hm.k hm1 hn (by omega) (by omega))) ?_
 refine wl_nil ?_
 refine nx_ret0 rfl fun wx hm => ?_
 have hf := fin_row hm.k hm.g
 exact ⟨swpN m (mm - i) mm i, ⟨by rw [swpN_len]; exact hm1, fun x => by rw [← hrot x, rot_end (by omega) (by omega)]⟩, rfl, hf.1, hf.2⟩
/-- What symMerge does to two sorted parts. -/
def SymSp_bt (br n cap base a mm b : Nat) : Prop := ∀ (l0 : List Ev) (w : World), w.ownsRow base 74 5 (.slice (some ⟨br, 0, none⟩) n cap) n (l0.flatMap evEnc) → l0.length = n → n ≤ 1000000 → a < mm → mm < b → b ≤ n → Srt evLt (partL l0 a mm) → Srt evLt (partL l0 mm b) →
    Calls Tryz.prog 186 #[.slice (some ⟨br, 0, none⟩) n cap, .int .i64 ((a : Nat) : Int), .int .i64 ((mm : Nat) : Int), .int .i64 ((b : Nat) : Int), .func (.func 79) #[] #[]] w (fun e w' => ∃ R : List Ev, SymOk evLt l0 R a b ∧ e = .returned (.tuple #[]) ∧ w'.ownsRow base 74 5 (.slice (some ⟨br, 0, none⟩) n cap) n ((R).flatMap evEnc) ∧ w.grownBy w' (some br))
theorem symStep_bt (br n cap base a mm b : Nat) (ih : ∀ a' m' b', b' - a' < b - a → SymSp_bt br n cap base a' m' b') : SymSp_bt br n cap base a mm b := by
 intro l0 w h hl0 hn ham hmb hbn hsA hsB
 refine gw_enter ⟨220, w, (some br), []⟩ Tryz.func186 rfl Tryz.ntmps186 rfl (memR (X := []) h allF_nil allL_nil) ?_
 refine gw_seq (sr_ (mv_ rfl (mv_ rfl ?_)))
 refine wl_ov (ov_sub rfl rfl (by omega) (by omega)) rfl ?_
 refine wl_set 27 (v' := .int .i64 (((mm - a) : Nat) : Int)) rfl (congrArg (Value.int .i64) (by omega)) ?_
 refine wl_ov (ov_eql rfl rfl) rfl (nn_ ?_)
 refine gw_cond rfl (fun hh => ?_) (fun hh => ?_)
 ·have h1 : (((mm - a) : Nat) : Int) = 1 := by simpa using hh
  clear hh
  refine sr_ ?_
  obtain ⟨xa, hxa⟩ : ∃ z, l0[a]? = some z := ⟨_, List.getElem?_eq_getElem (by omega)⟩
  obtain ⟨y0, y1, y2, y3, y4⟩ := xa
  refine mv_ rfl (sg_ rfl (nn_ (sr_ (mv_ rfl (sg_ rfl (nn_ (gw_seq (gw_block ?_))))))))
  refine gw_loop (γ := Nat × Nat) (fun g => mm ≤ g.1 ∧ g.1 ≤ g.2 ∧ g.2 ≤ b ∧ (g.1 = mm ∨ ∃ q, l0[g.1 - 1]? = some q ∧ evLt q ⟨y0, y1, y2, y3, y4⟩ = true) ∧ (g.2 = b ∨ ∃ q, l0[g.2]? = some q ∧ evLt q ⟨y0, y1, y2, y3, y4⟩ = false)) (fun g => [(0, .slice (some ⟨br, 0, none⟩) n cap), (1, .int .i64 ((a : Nat) : Int)), (2, .int .i64 ((mm : Nat) : Int)), (3, .int .i64 ((b : Nat) : Int)), (4, .func (.func 79) #[] #[]), (10, .int .i64 ((g.1 : Nat) : Int)), (11, .int .i64 ((g.2 : Nat) : Int))]) (fun g => RowK base 74 5 n cap br ((l0).flatMap evEnc)) (fun g => []) (fun g => []) (fun g => []) (fun g => g.2 - g.1) (mm, b) ⟨Nat.le_refl _, by dsimp only; omega, Nat.le_refl _, .inl rfl, .inl rfl⟩ ⟨rfl, rfl, rfl, rfl, rfl, rfl, rfl, trivial⟩ (fun _ hm => hm.pick [] [] [] rfl rfl) ?_
  rintro ⟨i, j⟩ hinv
  replace hinv : mm ≤ i ∧ i ≤ j ∧ j ≤ b ∧ (i = mm ∨ ∃ q, l0[i - 1]? = some q ∧ evLt q ⟨y0, y1, y2, y3, y4⟩ = true) ∧ (j = b ∨ ∃ q, l0[j]? = some q ∧ evLt q ⟨y0, y1, y2, y3, y4⟩ = false) := hinv
  dsimp only
  refine gw_seq (sr_ ?_)
  obtain ⟨hi1, hij, hjb, hL, hR⟩ := hinv
  refine mv_ rfl (mv_ rfl (wl_ov (ov_lss rfl rfl) rfl (nn_ ?_)))
  refine gw_cond rfl (fun hh => ?_) (fun hh => ?_)
  ·have hlt : ((i : Nat) : Int) < ((j : Nat) : Int) := by simpa using hh
   clear hh
   refine gw_skip (nx_then (gw_block (sr_ ?_)))
   obtain ⟨hh, hhd⟩ : ∃ z, z = (i + j) / 2 := ⟨_, rfl⟩
   have hh1 : i ≤ hh := by omega
   have hh2 : hh < j := by omega
   obtain ⟨xx, hx⟩ : ∃ x, l0[hh]? = some x := ⟨_, List.getElem?_eq_getElem (by omega)⟩
   obtain ⟨x0, x1, x2, x3, x4⟩ := xx
   refine mv_ rfl (mv_ rfl (ad_ rfl rfl ?_))
   refine wl_set 36 (v' := .int .i64 (((i + j) : Nat) : Int)) rfl (congrArg (Value.int .i64) (by omega)) ?_
   refine wl_ov (ov_u64 (a := (i + j)) (by kernel_rfl) (by kernel_rfl) rfl (by omega)) rfl ?_
   refine wl_ov (ov_shru1 (a := (i + j)) rfl rfl) rfl ?_
   refine wl_ov (ov_i64 (a := (i + j) / 2) (by kernel_rfl) (by kernel_rfl) rfl (by omega)) rfl ?_
   refine wl_set 39 (v' := .int .i64 ((hh : Nat) : Int)) rfl (congrArg (Value.int .i64) (by omega)) ?_
   refine sg_ rfl (nn_ (gw_seq ?_))
   refine gd (fun wz => True) mixed (fun _ _ => trivial) fun z => ?_
   refine wt 0 11 1 rfl z (ov_move rfl) ?_
   refine wt 1 11 3 rfl z (ov_move rfl) ?_
   refine wt 2 11 7 rfl z (ov_move rfl) ?_
   refine wt 3 11 15 rfl z (ov_index (j := hh) es47 rfl rfl (by omega)) ?_
   refine wt 5 11 47 rfl z (ov_move rfl) ?_
   refine wt 6 11 111 rfl z (ov_move rfl) ?_
   refine wt 7 11 239 rfl z (ov_index (j := a) es47 rfl rfl (by omega)) ?_
   refine wa_all [4, 8] (by kernel_rfl) rfl ⟨⟨_, rfl, ?_⟩, ⟨_, rfl, ?_⟩, trivial⟩
   ·refine wl_ov (ov_elem (vs := [.int .i64 x0, .string x1, .string x2, .int .i64 x3, .string x4]) rz74 rfl (fun _ hm => (RowK.get hm.k ev_len hl0)) hx rfl rfl) rfl ?_
    refine wl_nil ?_
    refine nw 11 255 (fun _ _ => trivial) fun z => ?_
    refine wa1 8 rfl ?_
    refine wl_ov (ov_elem (vs := [.int .i64 y0, .string y1, .string y2, .int .i64 y3, .string y4]) rz74 rfl (fun _ hm => (RowK.get hm.k ev_len hl0)) hxa rfl rfl) rfl ?_
    refine wl_nil ?_
    refine nw 11 511 (fun _ _ => trivial) fun z => ?_
    refine wa1 9 rfl ?_
    refine wl_callv (v := .int .i64 (evOrd ⟨x0, x1, x2, x3, x4⟩ ⟨y0, y1, y2, y3, y4⟩)) rfl cb79 rfl rfl (fun wx hm => (byTime_any x0 x1 x2 x3 x4 y0 y1 y2 y3 y4 wx)) ?_
    refine wl_nil ?_
    refine nw 11 1023 (fun _ _ => trivial) fun z => ?_
    refine wt 10 11 2047 rfl z (ov_lss rfl rfl) ?_
    refine wa_done (by kernel_rfl) ?_
    refine nx_then ?_
    refine gw_cond rfl (fun hh => ?_) (fun hh => ?_)
    ·have hq : evOrd ⟨x0, x1, x2, x3, x4⟩ ⟨y0, y1, y2, y3, y4⟩ < 0 := by simpa using hh
     clear hh
     refine gw_region ?_
     have hlt1 : evLt ⟨x0, x1, x2, x3, x4⟩ ⟨y0, y1, y2, y3, y4⟩ = true := decide_eq_true hq
     refine mv_ rfl (ad_ rfl rfl (sg_ rfl (wl_nil (nx_blk_nrm ?_))))
     exact nx_round ((hh + 1), j) ⟨by dsimp only; omega, by dsimp only; omega, hjb, .inr ⟨_, by dsimp only; rw [show hh + 1 - 1 = hh by omega]; exact hx, hlt1⟩, hR⟩ (by dsimp only; omega) ⟨rfl, rfl, rfl, rfl, rfl, (some_int (by dsimp only; omega)), rfl, trivial⟩ (fun _ hm => hm.pick [] [] [] rfl rfl)
    have hq : ¬ (evOrd ⟨x0, x1, x2, x3, x4⟩ ⟨y0, y1, y2, y3, y4⟩ < 0) := by simpa using hh
    clear hh
    refine gw_region ?_
    have hlt1 : evLt ⟨x0, x1, x2, x3, x4⟩ ⟨y0, y1, y2, y3, y4⟩ = false := decide_eq_false hq
    refine mv_ rfl (sg_ rfl (wl_nil (nx_blk_nrm ?_)))
    exact nx_round (i, hh) ⟨hi1, by dsimp only; omega, by dsimp only; omega, hL, .inr ⟨_, hx, hlt1⟩⟩ (by dsimp only; omega) ⟨rfl, rfl, rfl, rfl, rfl, rfl, rfl, trivial⟩ (fun _ hm => hm.pick [] [] [] rfl rfl)
   refine wl_ov (ov_elem (vs := [.int .i64 y0, .string y1, .string y2, .int .i64 y3, .string y4]) rz74 rfl (fun _ hm => (RowK.get hm.k ev_len hl0)) hxa rfl rfl) rfl ?_
   refine wl_nil ?_
   refine nw 11 495 (fun _ _ => trivial) fun z => ?_
   refine wa1 4 rfl ?_
   refine wl_ov (ov_elem (vs := [.int .i64 x0, .string x1, .string x2, .int .i64 x3, .string x4]) rz74 rfl (fun _ hm => (RowK.get hm.k ev_len hl0)) hx rfl rfl) rfl ?_
   refine wl_nil ?_
   refine nw 11 511 (fun _ _ => trivial) fun z => ?_
   refine wa1 9 rfl ?_
   refine wl_callv (v := .int .i64 (evOrd ⟨x0, x1, x2, x3, x4⟩ ⟨y0, y1, y2, y3, y4⟩)) rfl cb79 rfl rfl (fun wx hm => (byTime_any x0 x1 x2 x3 x4 y0 y1 y2 y3 y4 wx)) ?_
   refine wl_nil ?_
   refine nw 11 1023 (fun _ _ => trivial) fun z => ?_
   refine wt 10 11 2047 rfl z (ov_lss rfl rfl) ?_
   refine wa_done (by kernel_rfl) ?_
   refine nx_then ?_
   refine gw_cond rfl (fun hh => ?_) (fun hh => ?_)
   ·have hq : evOrd ⟨x0, x1, x2, x3, x4⟩ ⟨y0, y1, y2, y3, y4⟩ < 0 := by simpa using hh
    clear hh
    refine gw_region ?_
    have hlt1 : evLt ⟨x0, x1, x2, x3, x4⟩ ⟨y0, y1, y2, y3, y4⟩ = true := decide_eq_true hq
    refine mv_ rfl (ad_ rfl rfl (sg_ rfl (wl_nil (nx_blk_nrm ?_))))
    exact nx_round ((hh + 1), j) ⟨by dsimp only; omega, by dsimp only; omega, hjb, .inr ⟨_, by dsimp only; rw [show hh + 1 - 1 = hh by omega]; exact hx, hlt1⟩, hR⟩ (by dsimp only; omega) ⟨rfl, rfl, rfl, rfl, rfl, (some_int (by dsimp only; omega)), rfl, trivial⟩ (fun _ hm => hm.pick [] [] [] rfl rfl)
   have hq : ¬ (evOrd ⟨x0, x1, x2, x3, x4⟩ ⟨y0, y1, y2, y3, y4⟩ < 0) := by simpa using hh
   clear hh
   refine gw_region ?_
   have hlt1 : evLt ⟨x0, x1, x2, x3, x4⟩ ⟨y0, y1, y2, y3, y4⟩ = false := decide_eq_false hq
   refine mv_ rfl (sg_ rfl (wl_nil (nx_blk_nrm ?_)))
   exact nx_round (i, hh) ⟨hi1, by dsimp only; omega, by dsimp only; omega, hL, .inr ⟨_, hx, hlt1⟩⟩ (by dsimp only; omega) ⟨rfl, rfl, rfl, rfl, rfl, rfl, rfl, trivial⟩ (fun _ hm => hm.pick [] [] [] rfl rfl)
  have hlt : ¬ (((i : Nat) : Int) < ((j : Nat) : Int)) := by simpa using hh
  clear hh
  refine gw_exit ?_
  refine nx_then_exit (nx_then_exit ?_)
  refine nx_blk_here ?_
  refine nx_then (gw_seq (sr_ ?_))
  obtain rfl : i = j := by omega
  refine mv_ rfl (sg_ rfl (nn_ (gw_block ?_)))
  refine gw_loop (γ := Nat × List Ev) (fun g => (a ≤ g.1 ∧ g.1 ≤ i - 1) ∧ g.2.length = n ∧ g.2 = bubU l0 a (g.1 - a)) (fun g => [(0, .slice (some ⟨br, 0, none⟩) n cap), (1, .int .i64 ((a : Nat) : Int)), (2, .int .i64 ((mm : Nat) : Int)), (3, .int .i64 ((b : Nat) : Int)), (4, .func (.func 79) #[] #[]), (10, .int .i64 ((i : Nat) : Int)), (13, .int .i64 ((g.1 : Nat) : Int))]) (fun g => RowK base 74 5 n cap br ((g.2).flatMap evEnc)) (fun g => []) (fun g => []) (fun g => []) (fun g => i - 1 - g.1) (a, l0) ⟨⟨Nat.le_refl _, by dsimp only; omega⟩, hl0, by dsimp only; rw [Nat.sub_self]; rfl⟩ ⟨rfl, rfl, rfl, rfl, rfl, rfl, rfl, trivial⟩ (fun _ hm => hm.pick [] [] [] rfl rfl) ?_
  rintro ⟨k, m⟩ hinv
  replace hinv : (a ≤ k ∧ k ≤ i - 1) ∧ m.length = n ∧ m = bubU l0 a (k - a) := hinv
  dsimp only
  refine gw_seq (sr_ ?_)
  obtain ⟨⟨hka, hki⟩, hm1, hmk⟩ := hinv
  refine mv_ rfl (mv_ rfl ?_)
  refine wl_ov (ov_sub rfl rfl (by omega) (by omega)) rfl ?_
  refine wl_ov (ov_lss rfl rfl) rfl (nn_ ?_)
  refine gw_cond rfl (fun hh => ?_) (fun hh => ?_)
  ·have hk : ((k : Nat) : Int) < ((i : Nat) : Int) - 1 := by simpa using hh
   clear hh
   refine gw_skip (nx_then (gw_seq (gw_block ?_)))
   have hk2 : k + 1 < n := by omega
   obtain ⟨xx, hx⟩ : ∃ x, m[k]? = some x := ⟨_, List.getElem?_eq_getElem (by omega)⟩
   obtain ⟨x0, x1, x2, x3, x4⟩ := xx
   obtain ⟨yy, hy⟩ : ∃ x, m[(k + 1)]? = some x := ⟨_, List.getElem?_eq_getElem (by omega)⟩
   obtain ⟨u0, u1, u2, u3, u4⟩ := yy
   refine gd (fun wz => True) mixed (fun _ _ => trivial) fun z => ?_
   refine wt 0 18 1 rfl z (ov_move rfl) ?_
   refine wt 1 18 3 rfl z (ov_move rfl) ?_
   refine wt 2 18 7 rfl z (ov_move rfl) ?_
   refine wt 3 18 15 rfl z (ov_move rfl) ?_
   refine wt 4 18 31 rfl z (ov_add rfl rfl (by omega) (by omega)) ?_
   refine wa_set 65 (v' := .int .i64 (((k + 1) : Nat) : Int)) rfl (congrArg (Value.int .i64) (by omega)) ?_
   refine wt 5 18 63 rfl z (ov_move rfl) ?_
   refine wt 6 18 127 rfl z (ov_move rfl) ?_
   refine wt 7 18 255 rfl z (ov_add rfl rfl (by omega) (by omega)) ?_
   refine wa_set 68 (v' := .int .i64 (((k + 1) : Nat) : Int)) rfl (congrArg (Value.int .i64) (by omega)) ?_
   refine wt 8 18 511 rfl z (ov_index (j := (k + 1)) es47 rfl rfl (by omega)) ?_
   refine wt 10 18 1535 rfl z (ov_move rfl) ?_
   refine wt 11 18 3583 rfl z (ov_move rfl) ?_
   refine wt 12 18 7679 rfl z (ov_index (j := k) es47 rfl rfl (by omega)) ?_
   refine wa_all [9, 13] (by kernel_rfl) rfl ⟨⟨_, rfl, ?_⟩, ⟨_, rfl, ?_⟩, trivial⟩
   ·refine wl_ov (ov_elem (vs := [.int .i64 u0, .string u1, .string u2, .int .i64 u3, .string u4]) rz74 rfl (fun _ hm => (RowK.get hm.k ev_len hm1)) hy rfl rfl) rfl ?_
    refine wl_nil ?_
    refine nw 18 8191 (fun _ _ => trivial) fun z => ?_
    refine wa1 13 rfl ?_
    refine wl_ov (ov_elem (vs := [.int .i64 x0, .string x1, .string x2, .int .i64 x3, .string x4]) rz74 rfl (fun _ hm => (RowK.get hm.k ev_len hm1)) hx rfl rfl) rfl ?_
    refine wl_nil ?_
    refine nw 18 16383 (fun _ _ => trivial) fun z => ?_
    refine wt 14 18 32767 rfl z (ov_index (j := k) es47 rfl rfl (by omega)) ?_
    refine wa1 15 rfl ?_
    refine wl_storesRow (l := m) (j := k) (r := 0) (el := ⟨x0, x1, x2, x3, x4⟩) (el' := ⟨u0, u1, u2, u3, u4⟩) rfl rz74 rfl rfl rfl rfl ev_len rfl hx hm1 (by decide) rfl rfl ?_
    refine wl_nil ?_
    refine nw 18 65535 (fun _ _ => trivial) fun z => ?_
    refine wt 16 18 131071 rfl z (ov_index (j := (k + 1)) es47 rfl rfl (by omega)) ?_
    refine wa1 17 rfl ?_
    refine wl_storesRow (l := m.set k ⟨u0, u1, u2, u3, u4⟩) (j := (k + 1)) (r := 0) (el := ⟨u0, u1, u2, u3, u4⟩) (el' := ⟨x0, x1, x2, x3, x4⟩) rfl rz74 rfl rfl rfl rfl ev_len rfl (by rw [List.getElem?_set_ne (by omega)]; exact hy) (by rw [List.length_set]; exact hm1) (by decide) rfl rfl ?_
    refine wl_nil ?_
    refine nw 18 262143 (fun _ _ => trivial) fun z => ?_
    refine wa_done (by kernel_rfl) ?_
    refine nx_blk_nrm (nx_then (gw_region (mv_ rfl (ad_ rfl rfl (sg_ rfl (wl_nil ?_))))))
    have hst : bubU l0 a (k + 1 - a) = (m.set k ⟨u0, u1, u2, u3, u4⟩).set (k + 1) ⟨x0, x1, x2, x3, x4⟩ := by
     rw [show k + 1 - a = (k - a) + 1 by omega]
     unfold bubU
     rw [← hmk, show a + (k - a) = k by omega]
     exact swpN_at (l := m) (a := k) (b := k + 1) (k := 0) hx hy
    exact nx_round ((k + 1), (m.set k ⟨u0, u1, u2, u3, u4⟩).set (k + 1) ⟨x0, x1, x2, x3, x4⟩) ⟨⟨by dsimp only; omega, by dsimp only; omega⟩, by simp [hm1], hst.symm⟩ (by dsimp only; omega) ⟨rfl, rfl, rfl, rfl, rfl, rfl, (some_int (by dsimp only; omega)), trivial⟩ (fun _ hm => hm.pick [] [] [] rfl rfl)
   refine wl_ov (ov_elem (vs := [.int .i64 x0, .string x1, .string x2, .int .i64 x3, .string x4]) rz74 rfl (fun _ hm => (RowK.get hm.k ev_len hm1)) hx rfl rfl) rfl ?_
   refine wl_nil ?_
   refine nw 18 15871 (fun _ _ => trivial) fun z => ?_
   refine wa1 9 rfl ?_
   refine wl_ov (ov_elem (vs := [.int .i64 u0, .string u1, .string u2, .int .i64 u3, .string u4]) rz74 rfl (fun _ hm => (RowK.get hm.k ev_len hm1)) hy rfl rfl) rfl ?_
   refine wl_nil ?_
   refine nw 18 16383 (fun _ _ => trivial) fun z => ?_
   refine wt 14 18 32767 rfl z (ov_index (j := k) es47 rfl rfl (by omega)) ?_
   refine wa1 15 rfl ?_
   refine wl_storesRow (l := m) (j := k) (r := 0) (el := ⟨x0, x1, x2, x3, x4⟩) (el' := ⟨u0, u1, u2, u3, u4⟩) rfl rz74 rfl rfl rfl rfl ev_len rfl hx hm1 (by decide) rfl rfl ?_
   refine wl_nil ?_
   refine nw 18 65535 (fun _ _ => trivial) fun z => ?_
   refine wt 16 18 131071 rfl z (ov_index (j := (k + 1)) es47 rfl rfl (by omega)) ?_
   refine wa1 17 rfl ?_
   refine wl_storesRow (l := m.set k ⟨u0, u1, u2, u3, u4⟩) (j := (k + 1)) (r := 0) (el := ⟨u0, u1, u2, u3, u4⟩) (el' := ⟨x0, x1, x2, x3, x4⟩) rfl rz74 rfl rfl rfl rfl ev_len rfl (by rw [List.getElem?_set_ne (by omega)]; exact hy) (by rw [List.length_set]; exact hm1) (by decide) rfl rfl ?_
   refine wl_nil ?_
   refine nw 18 262143 (fun _ _ => trivial) fun z => ?_
   refine wa_done (by kernel_rfl) ?_
   refine nx_blk_nrm (nx_then (gw_region (mv_ rfl (ad_ rfl rfl (sg_ rfl (wl_nil ?_))))))
   have hst : bubU l0 a (k + 1 - a) = (m.set k ⟨u0, u1, u2, u3, u4⟩).set (k + 1) ⟨x0, x1, x2, x3, x4⟩ := by
    rw [show k + 1 - a = (k - a) + 1 by omega]
    unfold bubU
    rw [← hmk, show a + (k - a) = k by omega]
    exact swpN_at (l := m) (a := k) (b := k + 1) (k := 0) hx hy
   exact nx_round ((k + 1), (m.set k ⟨u0, u1, u2, u3, u4⟩).set (k + 1) ⟨x0, x1, x2, x3, x4⟩) ⟨⟨by dsimp only; omega, by dsimp only; omega⟩, by simp [hm1], hst.symm⟩ (by dsimp only; omega) ⟨rfl, rfl, rfl, rfl, rfl, rfl, (some_int (by dsimp only; omega)), trivial⟩ (fun _ hm => hm.pick [] [] [] rfl rfl)
  have hk : ¬ (((k : Nat) : Int) < ((i : Nat) : Int) - 1) := by simpa using hh
  clear hh
  refine gw_exit ?_
  refine nx_then_exit (nx_then_exit ?_)
  refine nx_blk_here ?_
  refine nx_then ?_
  refine gw_ret ?_
  refine nx_then_ret ?_
  obtain rfl : k = i - 1 := by omega
  obtain rfl : mm = a + 1 := by omega
  refine nx_ret0' rfl fun wx hm => ?_
  have hf := fin_row hm.k hm.g
  exact ⟨m, sym_one1 evLt_ord (by omega) hxa hsB hi1 (by omega) hL hR (by rw [hm1, hl0]) (fun x => by rw [hmk, bubU_get (by omega), show a + (i - 1 - a) + 1 = i by omega]), rfl, hf.1, hf.2⟩
 have h1 : ¬ ((((mm - a) : Nat) : Int) = 1) := by simpa using hh
 clear hh
 refine gw_skip (nx_then (gw_seq (sr_ (mv_ rfl (mv_ rfl ?_)))))
 refine wl_ov (ov_sub rfl rfl (by omega) (by omega)) rfl ?_
 refine wl_set 79 (v' := .int .i64 (((b - mm) : Nat) : Int)) rfl (congrArg (Value.int .i64) (by omega)) ?_
 refine wl_ov (ov_eql rfl rfl) rfl (nn_ ?_)
 refine gw_cond rfl (fun hh => ?_) (fun hh => ?_)
 ·have h2 : (((b - mm) : Nat) : Int) = 1 := by simpa using hh
  clear hh
  refine sr_ ?_
  obtain ⟨xa, hxa⟩ : ∃ z, l0[mm]? = some z := ⟨_, List.getElem?_eq_getElem (by omega)⟩
  obtain ⟨y0, y1, y2, y3, y4⟩ := xa
  refine mv_ rfl (sg_ rfl (nn_ (sr_ (mv_ rfl (sg_ rfl (nn_ (gw_seq (gw_block ?_))))))))
  refine gw_loop (γ := Nat × Nat) (fun g => a ≤ g.1 ∧ g.1 ≤ g.2 ∧ g.2 ≤ mm ∧ (g.1 = a ∨ ∃ q, l0[g.1 - 1]? = some q ∧ evLt ⟨y0, y1, y2, y3, y4⟩ q = false) ∧ (g.2 = mm ∨ ∃ q, l0[g.2]? = some q ∧ evLt ⟨y0, y1, y2, y3, y4⟩ q = true)) (fun g => [(0, .slice (some ⟨br, 0, none⟩) n cap), (1, .int .i64 ((a : Nat) : Int)), (2, .int .i64 ((mm : Nat) : Int)), (3, .int .i64 ((b : Nat) : Int)), (4, .func (.func 79) #[] #[]), (14, .int .i64 ((g.1 : Nat) : Int)), (15, .int .i64 ((g.2 : Nat) : Int))]) (fun g => RowK base 74 5 n cap br ((l0).flatMap evEnc)) (fun g => []) (fun g => []) (fun g => []) (fun g => g.2 - g.1) (a, mm) ⟨Nat.le_refl _, by dsimp only; omega, Nat.le_refl _, .inl rfl, .inl rfl⟩ ⟨rfl, rfl, rfl, rfl, rfl, rfl, rfl, trivial⟩ (fun _ hm => hm.pick [] [] [] rfl rfl) ?_
  rintro ⟨i, j⟩ hinv
  replace hinv : a ≤ i ∧ i ≤ j ∧ j ≤ mm ∧ (i = a ∨ ∃ q, l0[i - 1]? = some q ∧ evLt ⟨y0, y1, y2, y3, y4⟩ q = false) ∧ (j = mm ∨ ∃ q, l0[j]? = some q ∧ evLt ⟨y0, y1, y2, y3, y4⟩ q = true) := hinv
  dsimp only
  refine gw_seq (sr_ ?_)
  obtain ⟨hi1, hij, hjb, hL, hR⟩ := hinv
  refine mv_ rfl (mv_ rfl (wl_ov (ov_lss rfl rfl) rfl (nn_ ?_)))
  refine gw_cond rfl (fun hh => ?_) (fun hh => ?_)
  ·have hlt : ((i : Nat) : Int) < ((j : Nat) : Int) := by simpa using hh
   clear hh
   refine gw_skip (nx_then (gw_block (sr_ ?_)))
   obtain ⟨hh, hhd⟩ : ∃ z, z = (i + j) / 2 := ⟨_, rfl⟩
   have hh1 : i ≤ hh := by omega
   have hh2 : hh < j := by omega
   obtain ⟨xx, hx⟩ : ∃ x, l0[hh]? = some x := ⟨_, List.getElem?_eq_getElem (by omega)⟩
   obtain ⟨x0, x1, x2, x3, x4⟩ := xx
   refine mv_ rfl (mv_ rfl (ad_ rfl rfl ?_))
   refine wl_set 88 (v' := .int .i64 (((i + j) : Nat) : Int)) rfl (congrArg (Value.int .i64) (by omega)) ?_
   refine wl_ov (ov_u64 (a := (i + j)) (by kernel_rfl) (by kernel_rfl) rfl (by omega)) rfl ?_
   refine wl_ov (ov_shru1 (a := (i + j)) rfl rfl) rfl ?_
   refine wl_ov (ov_i64 (a := (i + j) / 2) (by kernel_rfl) (by kernel_rfl) rfl (by omega)) rfl ?_
   refine wl_set 91 (v' := .int .i64 ((hh : Nat) : Int)) rfl (congrArg (Value.int .i64) (by omega)) ?_
   refine sg_ rfl (nn_ (gw_seq ?_))
   refine gd (fun wz => True) mixed (fun _ _ => trivial) fun z => ?_
   refine wt 0 12 1 rfl z (ov_move rfl) ?_
   refine wt 1 12 3 rfl z (ov_move rfl) ?_
   refine wt 2 12 7 rfl z (ov_move rfl) ?_
   refine wt 3 12 15 rfl z (ov_index (j := mm) es47 rfl rfl (by omega)) ?_
   refine wt 5 12 47 rfl z (ov_move rfl) ?_
   refine wt 6 12 111 rfl z (ov_move rfl) ?_
   refine wt 7 12 239 rfl z (ov_index (j := hh) es47 rfl rfl (by omega)) ?_
   refine wa_all [4, 8] (by kernel_rfl) rfl ⟨⟨_, rfl, ?_⟩, ⟨_, rfl, ?_⟩, trivial⟩
   ·refine wl_ov (ov_elem (vs := [.int .i64 y0, .string y1, .string y2, .int .i64 y3, .string y4]) rz74 rfl (fun _ hm => (RowK.get hm.k ev_len hl0)) hxa rfl rfl) rfl ?_
    refine wl_nil ?_
    refine nw 12 255 (fun _ _ => trivial) fun z => ?_
    refine wa1 8 rfl ?_
    refine wl_ov (ov_elem (vs := [.int .i64 x0, .string x1, .string x2, .int .i64 x3, .string x4]) rz74 rfl (fun _ hm => (RowK.get hm.k ev_len hl0)) hx rfl rfl) rfl ?_
    refine wl_nil ?_
    refine nw 12 511 (fun _ _ => trivial) fun z => ?_
    refine wa1 9 rfl ?_
    refine wl_callv (v := .int .i64 (evOrd ⟨y0, y1, y2, y3, y4⟩ ⟨x0, x1, x2, x3, x4⟩)) rfl cb79 rfl rfl (fun wx hm => (byTime_any y0 y1 y2 y3 y4 x0 x1 x2 x3 x4 wx)) ?_
    refine wl_nil ?_
    refine nw 12 1023 (fun _ _ => trivial) fun z => ?_
    refine wt 10 12 2047 rfl z (ov_lss rfl rfl) ?_
    refine wt 11 12 4095 rfl z (ov_un_not rfl) ?_
    refine wa_done (by kernel_rfl) ?_
    refine nx_then ?_
    refine gw_cond rfl (fun hh => ?_) (fun hh => ?_)
    ·have hq : (decide (evOrd ⟨y0, y1, y2, y3, y4⟩ ⟨x0, x1, x2, x3, x4⟩ < 0)) = false := by simpa using hh
     clear hh
     refine gw_region ?_
     have hlt1 : evLt ⟨y0, y1, y2, y3, y4⟩ ⟨x0, x1, x2, x3, x4⟩ = false := decide_eq_false (by first | exact hq | simpa using hq)
     refine mv_ rfl (ad_ rfl rfl (sg_ rfl (wl_nil (nx_blk_nrm ?_))))
     exact nx_round ((hh + 1), j) ⟨by dsimp only; omega, by dsimp only; omega, hjb, .inr ⟨_, by dsimp only; rw [show hh + 1 - 1 = hh by omega]; exact hx, hlt1⟩, hR⟩ (by dsimp only; omega) ⟨rfl, rfl, rfl, rfl, rfl, (some_int (by dsimp only; omega)), rfl, trivial⟩ (fun _ hm => hm.pick [] [] [] rfl rfl)
    have hq : (decide (evOrd ⟨y0, y1, y2, y3, y4⟩ ⟨x0, x1, x2, x3, x4⟩ < 0)) = true := by simpa using hh
    clear hh
    refine gw_region ?_
    have hlt1 : evLt ⟨y0, y1, y2, y3, y4⟩ ⟨x0, x1, x2, x3, x4⟩ = true := decide_eq_true (by first | exact hq | simpa using hq)
    refine mv_ rfl (sg_ rfl (wl_nil (nx_blk_nrm ?_)))
    exact nx_round (i, hh) ⟨hi1, by dsimp only; omega, by dsimp only; omega, hL, .inr ⟨_, hx, hlt1⟩⟩ (by dsimp only; omega) ⟨rfl, rfl, rfl, rfl, rfl, rfl, rfl, trivial⟩ (fun _ hm => hm.pick [] [] [] rfl rfl)
   refine wl_ov (ov_elem (vs := [.int .i64 x0, .string x1, .string x2, .int .i64 x3, .string x4]) rz74 rfl (fun _ hm => (RowK.get hm.k ev_len hl0)) hx rfl rfl) rfl ?_
   refine wl_nil ?_
   refine nw 12 495 (fun _ _ => trivial) fun z => ?_
   refine wa1 4 rfl ?_
   refine wl_ov (ov_elem (vs := [.int .i64 y0, .string y1, .string y2, .int .i64 y3, .string y4]) rz74 rfl (fun _ hm => (RowK.get hm.k ev_len hl0)) hxa rfl rfl) rfl ?_
   refine wl_nil ?_
   refine nw 12 511 (fun _ _ => trivial) fun z => ?_
   refine wa1 9 rfl ?_
   refine wl_callv (v := .int .i64 (evOrd ⟨y0, y1, y2, y3, y4⟩ ⟨x0, x1, x2, x3, x4⟩)) rfl cb79 rfl rfl (fun wx hm => (byTime_any y0 y1 y2 y3 y4 x0 x1 x2 x3 x4 wx)) ?_
   refine wl_nil ?_
   refine nw 12 1023 (fun _ _ => trivial) fun z => ?_
   refine wt 10 12 2047 rfl z (ov_lss rfl rfl) ?_
   refine wt 11 12 4095 rfl z (ov_un_not rfl) ?_
   refine wa_done (by kernel_rfl) ?_
   refine nx_then ?_
   refine gw_cond rfl (fun hh => ?_) (fun hh => ?_)
   ·have hq : (decide (evOrd ⟨y0, y1, y2, y3, y4⟩ ⟨x0, x1, x2, x3, x4⟩ < 0)) = false := by simpa using hh
    clear hh
    refine gw_region ?_
    have hlt1 : evLt ⟨y0, y1, y2, y3, y4⟩ ⟨x0, x1, x2, x3, x4⟩ = false := decide_eq_false (by first | exact hq | simpa using hq)
    refine mv_ rfl (ad_ rfl rfl (sg_ rfl (wl_nil (nx_blk_nrm ?_))))
    exact nx_round ((hh + 1), j) ⟨by dsimp only; omega, by dsimp only; omega, hjb, .inr ⟨_, by dsimp only; rw [show hh + 1 - 1 = hh by omega]; exact hx, hlt1⟩, hR⟩ (by dsimp only; omega) ⟨rfl, rfl, rfl, rfl, rfl, (some_int (by dsimp only; omega)), rfl, trivial⟩ (fun _ hm => hm.pick [] [] [] rfl rfl)
   have hq : (decide (evOrd ⟨y0, y1, y2, y3, y4⟩ ⟨x0, x1, x2, x3, x4⟩ < 0)) = true := by simpa using hh
   clear hh
   refine gw_region ?_
   have hlt1 : evLt ⟨y0, y1, y2, y3, y4⟩ ⟨x0, x1, x2, x3, x4⟩ = true := decide_eq_true (by first | exact hq | simpa using hq)
   refine mv_ rfl (sg_ rfl (wl_nil (nx_blk_nrm ?_)))
   exact nx_round (i, hh) ⟨hi1, by dsimp only; omega, by dsimp only; omega, hL, .inr ⟨_, hx, hlt1⟩⟩ (by dsimp only; omega) ⟨rfl, rfl, rfl, rfl, rfl, rfl, rfl, trivial⟩ (fun _ hm => hm.pick [] [] [] rfl rfl)
  have hlt : ¬ (((i : Nat) : Int) < ((j : Nat) : Int)) := by simpa using hh
  clear hh
  refine gw_exit ?_
  refine nx_then_exit (nx_then_exit ?_)
  refine nx_blk_here ?_
  refine nx_then (gw_seq (sr_ ?_))
  obtain rfl : i = j := by omega
  refine mv_ rfl (sg_ rfl (nn_ (gw_block ?_)))
  refine gw_loop (γ := Nat × List Ev) (fun g => (i ≤ g.1 ∧ g.1 ≤ mm) ∧ g.2.length = n ∧ g.2 = bubD l0 mm (mm - g.1)) (fun g => [(0, .slice (some ⟨br, 0, none⟩) n cap), (1, .int .i64 ((a : Nat) : Int)), (2, .int .i64 ((mm : Nat) : Int)), (3, .int .i64 ((b : Nat) : Int)), (4, .func (.func 79) #[] #[]), (14, .int .i64 ((i : Nat) : Int)), (17, .int .i64 ((g.1 : Nat) : Int))]) (fun g => RowK base 74 5 n cap br ((g.2).flatMap evEnc)) (fun g => []) (fun g => []) (fun g => []) (fun g => g.1 - i) (mm, l0) ⟨⟨hjb, Nat.le_refl _⟩, hl0, by dsimp only; rw [Nat.sub_self]; rfl⟩ ⟨rfl, rfl, rfl, rfl, rfl, rfl, rfl, trivial⟩ (fun _ hm => hm.pick [] [] [] rfl rfl) ?_
  rintro ⟨k, m⟩ hinv
  replace hinv : (i ≤ k ∧ k ≤ mm) ∧ m.length = n ∧ m = bubD l0 mm (mm - k) := hinv
  dsimp only
  refine gw_seq (sr_ ?_)
  obtain ⟨⟨hka, hki⟩, hm1, hmk⟩ := hinv
  refine mv_ rfl (mv_ rfl ?_)
  refine wl_ov (ov_gtr rfl rfl) rfl ?_
  refine nn_ ?_
  refine gw_cond rfl (fun hh => ?_) (fun hh => ?_)
  ·have hk : ((i : Nat) : Int) < ((k : Nat) : Int) := by simpa using hh
   clear hh
   refine gw_skip (nx_then (gw_seq (gw_block ?_)))
   obtain ⟨k, rfl⟩ : ∃ q, k = q + 1 := ⟨k - 1, by omega⟩
   have hk2 : k + 1 < n := by omega
   obtain ⟨xx, hx⟩ : ∃ x, m[k]? = some x := ⟨_, List.getElem?_eq_getElem (by omega)⟩
   obtain ⟨x0, x1, x2, x3, x4⟩ := xx
   obtain ⟨yy, hy⟩ : ∃ x, m[(k + 1)]? = some x := ⟨_, List.getElem?_eq_getElem (by omega)⟩
   obtain ⟨u0, u1, u2, u3, u4⟩ := yy
   refine gd (fun wz => True) mixed (fun _ _ => trivial) fun z => ?_
   refine wt 0 18 1 rfl z (ov_move rfl) ?_
   refine wt 1 18 3 rfl z (ov_move rfl) ?_
   refine wt 2 18 7 rfl z (ov_move rfl) ?_
   refine wt 3 18 15 rfl z (ov_move rfl) ?_
   refine wt 4 18 31 rfl z (ov_sub rfl rfl (by omega) (by omega)) ?_
   refine wa_set 117 (v' := .int .i64 ((k : Nat) : Int)) rfl (congrArg (Value.int .i64) (by omega)) ?_
   refine wt 5 18 63 rfl z (ov_move rfl) ?_
   refine wt 6 18 127 rfl z (ov_move rfl) ?_
   refine wt 7 18 255 rfl z (ov_sub rfl rfl (by omega) (by omega)) ?_
   refine wa_set 120 (v' := .int .i64 ((k : Nat) : Int)) rfl (congrArg (Value.int .i64) (by omega)) ?_
   refine wt 8 18 511 rfl z (ov_index (j := k) es47 rfl rfl (by omega)) ?_
   refine wt 10 18 1535 rfl z (ov_move rfl) ?_
   refine wt 11 18 3583 rfl z (ov_move rfl) ?_
   refine wt 12 18 7679 rfl z (ov_index (j := (k + 1)) es47 rfl rfl (by omega)) ?_
   refine wa_all [9, 13] (by kernel_rfl) rfl ⟨⟨_, rfl, ?_⟩, ⟨_, rfl, ?_⟩, trivial⟩
   ·refine wl_ov (ov_elem (vs := [.int .i64 x0, .string x1, .string x2, .int .i64 x3, .string x4]) rz74 rfl (fun _ hm => (RowK.get hm.k ev_len hm1)) hx rfl rfl) rfl ?_
    refine wl_nil ?_
    refine nw 18 8191 (fun _ _ => trivial) fun z => ?_
    refine wa1 13 rfl ?_
    refine wl_ov (ov_elem (vs := [.int .i64 u0, .string u1, .string u2, .int .i64 u3, .string u4]) rz74 rfl (fun _ hm => (RowK.get hm.k ev_len hm1)) hy rfl rfl) rfl ?_
    refine wl_nil ?_
    refine nw 18 16383 (fun _ _ => trivial) fun z => ?_
    refine wt 14 18 32767 rfl z (ov_index (j := (k + 1)) es47 rfl rfl (by omega)) ?_
    refine wa1 15 rfl ?_
    refine wl_storesRow (l := m) (j := (k + 1)) (r := 0) (el := ⟨u0, u1, u2, u3, u4⟩) (el' := ⟨x0, x1, x2, x3, x4⟩) rfl rz74 rfl rfl rfl rfl ev_len rfl hy hm1 (by decide) rfl rfl ?_
    refine wl_nil ?_
    refine nw 18 65535 (fun _ _ => trivial) fun z => ?_
    refine wt 16 18 131071 rfl z (ov_index (j := k) es47 rfl rfl (by omega)) ?_
    refine wa1 17 rfl ?_
    refine wl_storesRow (l := m.set (k + 1) ⟨x0, x1, x2, x3, x4⟩) (j := k) (r := 0) (el := ⟨x0, x1, x2, x3, x4⟩) (el' := ⟨u0, u1, u2, u3, u4⟩) rfl rz74 rfl rfl rfl rfl ev_len rfl (by rw [List.getElem?_set_ne (by omega)]; exact hx) (by rw [List.length_set]; exact hm1) (by decide) rfl rfl ?_
    refine wl_nil ?_
    refine nw 18 262143 (fun _ _ => trivial) fun z => ?_
    refine wa_done (by kernel_rfl) ?_
    refine nx_blk_nrm (nx_then (gw_region (mv_ rfl ?_)))
    refine wl_ov (ov_sub rfl rfl (by omega) (by omega)) rfl ?_
    refine wl_set 112 (v' := .int .i64 ((k : Nat) : Int)) rfl (congrArg (Value.int .i64) (by omega)) ?_
    refine sg_ rfl (wl_nil ?_)
    have hcm : (m.set (k + 1) ⟨x0, x1, x2, x3, x4⟩).set k ⟨u0, u1, u2, u3, u4⟩ = (m.set k ⟨u0, u1, u2, u3, u4⟩).set (k + 1) ⟨x0, x1, x2, x3, x4⟩ := List.set_comm _ _ (by omega)
    rw [hcm]
    have hst : bubD l0 mm (mm - k) = (m.set k ⟨u0, u1, u2, u3, u4⟩).set (k + 1) ⟨x0, x1, x2, x3, x4⟩ := by
     rw [show mm - k = (mm - (k + 1)) + 1 by omega]
     unfold bubD
     rw [← hmk, show mm - (mm - (k + 1)) - 1 = k by omega, show mm - (mm - (k + 1)) = k + 1 by omega]
     exact swpN_at (l := m) (a := k) (b := k + 1) (k := 0) hx hy
    exact nx_round (k, (m.set k ⟨u0, u1, u2, u3, u4⟩).set (k + 1) ⟨x0, x1, x2, x3, x4⟩) ⟨⟨by dsimp only; omega, by dsimp only; omega⟩, by simp [hm1], hst.symm⟩ (by dsimp only; omega) ⟨rfl, rfl, rfl, rfl, rfl, rfl, rfl, trivial⟩ (fun _ hm => hm.pick [] [] [] rfl rfl)
   refine wl_ov (ov_elem (vs := [.int .i64 u0, .string u1, .string u2, .int .i64 u3, .string u4]) rz74 rfl (fun _ hm => (RowK.get hm.k ev_len hm1)) hy rfl rfl) rfl ?_
   refine wl_nil ?_
   refine nw 18 15871 (fun _ _ => trivial) fun z => ?_
   refine wa1 9 rfl ?_
   refine wl_ov (ov_elem (vs := [.int .i64 x0, .string x1, .string x2, .int .i64 x3, .string x4]) rz74 rfl (fun _ hm => (RowK.get hm.k ev_len hm1)) hx rfl rfl) rfl ?_
   refine wl_nil ?_
   refine nw 18 16383 (fun _ _ => trivial) fun z => ?_
   refine wt 14 18 32767 rfl z (ov_index (j := (k + 1)) es47 rfl rfl (by omega)) ?_
   refine wa1 15 rfl ?_
   refine wl_storesRow (l := m) (j := (k + 1)) (r := 0) (el := ⟨u0, u1, u2, u3, u4⟩) (el' := ⟨x0, x1, x2, x3, x4⟩) rfl rz74 rfl rfl rfl rfl ev_len rfl hy hm1 (by decide) rfl rfl ?_
   refine wl_nil ?_
   refine nw 18 65535 (fun _ _ => trivial) fun z => ?_
   refine wt 16 18 131071 rfl z (ov_index (j := k) es47 rfl rfl (by omega)) ?_
   refine wa1 17 rfl ?_
   refine wl_storesRow (l := m.set (k + 1) ⟨x0, x1, x2, x3, x4⟩) (j := k) (r := 0) (el := ⟨x0, x1, x2, x3, x4⟩) (el' := ⟨u0, u1, u2, u3, u4⟩) rfl rz74 rfl rfl rfl rfl ev_len rfl (by rw [List.getElem?_set_ne (by omega)]; exact hx) (by rw [List.length_set]; exact hm1) (by decide) rfl rfl ?_
   refine wl_nil ?_
   refine nw 18 262143 (fun _ _ => trivial) fun z => ?_
   refine wa_done (by kernel_rfl) ?_
   refine nx_blk_nrm (nx_then (gw_region (mv_ rfl ?_)))
   refine wl_ov (ov_sub rfl rfl (by omega) (by omega)) rfl ?_
   refine wl_set 112 (v' := .int .i64 ((k : Nat) : Int)) rfl (congrArg (Value.int .i64) (by omega)) ?_
   refine sg_ rfl (wl_nil ?_)
   have hcm : (m.set (k + 1) ⟨x0, x1, x2, x3, x4⟩).set k ⟨u0, u1, u2, u3, u4⟩ = (m.set k ⟨u0, u1, u2, u3, u4⟩).set (k + 1) ⟨x0, x1, x2, x3, x4⟩ := List.set_comm _ _ (by omega)
   rw [hcm]
   have hst : bubD l0 mm (mm - k) = (m.set k ⟨u0, u1, u2, u3, u4⟩).set (k + 1) ⟨x0, x1, x2, x3, x4⟩ := by
    rw [show mm - k = (mm - (k + 1)) + 1 by omega]
    unfold bubD
    rw [← hmk, show mm - (mm - (k + 1)) - 1 = k by omega, show mm - (mm - (k + 1)) = k + 1 by omega]
    exact swpN_at (l := m) (a := k) (b := k + 1) (k := 0) hx hy
   exact nx_round (k, (m.set k ⟨u0, u1, u2, u3, u4⟩).set (k + 1) ⟨x0, x1, x2, x3, x4⟩) ⟨⟨by dsimp only; omega, by dsimp only; omega⟩, by simp [hm1], hst.symm⟩ (by dsimp only; omega) ⟨rfl, rfl, rfl, rfl, rfl, rfl, rfl, trivial⟩ (fun _ hm => hm.pick [] [] [] rfl rfl)
  have hk : ¬ (((i : Nat) : Int) < ((k : Nat) : Int)) := by simpa using hh
  clear hh
  refine gw_exit ?_
  refine nx_then_exit (nx_then_exit ?_)
  refine nx_blk_here ?_
  refine nx_then ?_
  refine gw_ret ?_
  refine nx_then_ret ?_
  obtain rfl : k = i := by omega
  obtain rfl : b = mm + 1 := by omega
  refine nx_ret0' rfl fun wx hm => ?_
  have hf := fin_row hm.k hm.g
  exact ⟨m, sym_one2 evLt_ord (by omega) hxa hsA hi1 hki hL hR (by rw [hm1, hl0]) (fun x => by rw [hmk, bubD_get (by omega) (by omega), show mm - (mm - k) = k by omega]), rfl, hf.1, hf.2⟩
 have h2 : ¬ ((((b - mm) : Nat) : Int) = 1) := by simpa using hh
 clear hh
 refine gw_skip (nx_then (sr_ ?_))
 obtain ⟨mid, hmid⟩ : ∃ z, z = (a + b) / 2 := ⟨_, rfl⟩
 refine mv_ rfl (mv_ rfl (ad_ rfl rfl ?_))
 refine wl_set 131 (v' := .int .i64 (((a + b) : Nat) : Int)) rfl (congrArg (Value.int .i64) (by omega)) ?_
 refine wl_ov (ov_u64 (a := (a + b)) (by kernel_rfl) (by kernel_rfl) rfl (by omega)) rfl ?_
 refine wl_ov (ov_shru1 (a := (a + b)) rfl rfl) rfl ?_
 refine wl_ov (ov_i64 (a := (a + b) / 2) (by kernel_rfl) (by kernel_rfl) rfl (by omega)) rfl ?_
 refine wl_set 134 (v' := .int .i64 ((mid : Nat) : Int)) rfl (congrArg (Value.int .i64) (by omega)) ?_
 refine sg_ rfl (nn_ (sr_ (mv_ rfl (mv_ rfl (ad_ rfl rfl ?_)))))
 refine wl_set 137 (v' := .int .i64 (((mid + mm) : Nat) : Int)) rfl (congrArg (Value.int .i64) (by omega)) ?_
 refine sg_ rfl (nn_ (sr_ (sg_ rfl (sg_ rfl (nn_ ?_)))))
 refine gw_cut (γ := Nat × Nat) (I := (fun g => (a ≤ g.1 ∧ g.1 ≤ g.2) ∧ (g.2 ≤ mm ∧ g.2 ≤ mid) ∧ (mid + mm - b ≤ g.1) ∧ (g.1 = a ∨ (g.1 = mid + mm - b ∧ b ≤ mid + mm)) ∧ (g.2 = mm ∨ g.2 = mid))) (S' := (fun g => [(0, .slice (some ⟨br, 0, none⟩) n cap), (1, .int .i64 ((a : Nat) : Int)), (2, .int .i64 ((mm : Nat) : Int)), (3, .int .i64 ((b : Nat) : Int)), (4, .func (.func 79) #[] #[]), (18, .int .i64 ((mid : Nat) : Int)), (19, .int .i64 (((mid + mm) : Nat) : Int)), (20, .int .i64 ((g.1 : Nat) : Int)), (21, .int .i64 ((g.2 : Nat) : Int))])) (K' := (fun g => RowK base 74 5 n cap br ((l0).flatMap evEnc))) (L' := (fun g => [])) (O' := (fun g => [])) (X' := (fun g => [])) ?_ ?_
 ·refine sr_ (mv_ rfl (mv_ rfl ?_))
  refine wl_ov (ov_gtr rfl rfl) rfl ?_
  refine nn_ ?_
  refine gw_cond rfl (fun hh => ?_) (fun hh => ?_)
  ·have hgt : ((mid : Nat) : Int) < ((mm : Nat) : Int) := by simpa using hh
   clear hh
   refine sr_ (mv_ rfl (mv_ rfl ?_))
   refine wl_ov (ov_sub rfl rfl (by omega) (by omega)) rfl ?_
   refine wl_set 143 (v' := .int .i64 (((mid + mm - b) : Nat) : Int)) rfl (congrArg (Value.int .i64) (by omega)) ?_
   refine sg_ rfl (nn_ (gw_region (mv_ rfl (sg_ rfl (wl_nil ?_)))))
   exact nx_meet ((mid + mm - b), mid) ⟨⟨by dsimp only; omega, by dsimp only; omega⟩, ⟨by dsimp only; omega, Nat.le_refl _⟩, Nat.le_refl _, .inr ⟨rfl, by omega⟩, .inr rfl⟩ ⟨rfl, rfl, rfl, rfl, rfl, rfl, rfl, rfl, rfl, trivial⟩ (fun _ hm => hm.pick [] [] [] rfl rfl)
  have hgt : ¬ (((mid : Nat) : Int) < ((mm : Nat) : Int)) := by simpa using hh
  clear hh
  refine sr_ (mv_ rfl (sg_ rfl (nn_ (gw_region (mv_ rfl (sg_ rfl (wl_nil ?_)))))))
  exact nx_meet (a, mm) ⟨⟨Nat.le_refl _, by dsimp only; omega⟩, ⟨Nat.le_refl _, by dsimp only; omega⟩, by dsimp only; omega, .inl rfl, .inl rfl⟩ ⟨rfl, rfl, rfl, rfl, rfl, rfl, rfl, rfl, rfl, trivial⟩ (fun _ hm => hm.pick [] [] [] rfl rfl)
 rintro ⟨lo, hi⟩ hinv
 replace hinv : (a ≤ lo ∧ lo ≤ hi) ∧ (hi ≤ mm ∧ hi ≤ mid) ∧ (mid + mm - b ≤ lo) ∧ (lo = a ∨ (lo = mid + mm - b ∧ b ≤ mid + mm)) ∧ (hi = mm ∨ hi = mid) := hinv
 dsimp only
 refine sr_ ?_
 obtain ⟨⟨q1, q2⟩, ⟨q3, q4⟩, q5, q6, q7⟩ := hinv
 refine mv_ rfl ?_
 refine wl_ov (ov_sub rfl rfl (by omega) (by omega)) rfl ?_
 refine wl_set 148 (v' := .int .i64 (((mid + mm - 1) : Nat) : Int)) rfl (congrArg (Value.int .i64) (by omega)) ?_
 refine sg_ rfl (nn_ (gw_seq (gw_block ?_)))
 refine gw_loop (γ := Nat × Nat) (fun g => lo ≤ g.1 ∧ g.1 ≤ g.2 ∧ g.2 ≤ hi ∧ (g.1 = lo ∨ ∃ u v, l0[g.1 - 1]? = some u ∧ l0[mid + mm - g.1]? = some v ∧ evLt v u = false) ∧ (g.2 = hi ∨ ∃ u v, l0[g.2]? = some u ∧ l0[mid + mm - 1 - g.2]? = some v ∧ evLt v u = true)) (fun g => [(0, .slice (some ⟨br, 0, none⟩) n cap), (1, .int .i64 ((a : Nat) : Int)), (2, .int .i64 ((mm : Nat) : Int)), (3, .int .i64 ((b : Nat) : Int)), (4, .func (.func 79) #[] #[]), (18, .int .i64 ((mid : Nat) : Int)), (19, .int .i64 (((mid + mm) : Nat) : Int)), (20, .int .i64 ((g.1 : Nat) : Int)), (21, .int .i64 ((g.2 : Nat) : Int)), (22, .int .i64 (((mid + mm - 1) : Nat) : Int))]) (fun g => RowK base 74 5 n cap br ((l0).flatMap evEnc)) (fun g => []) (fun g => []) (fun g => []) (fun g => g.2 - g.1) (lo, hi) ⟨Nat.le_refl _, q2, Nat.le_refl _, .inl rfl, .inl rfl⟩ ⟨rfl, rfl, rfl, rfl, rfl, rfl, rfl, rfl, rfl, rfl, trivial⟩ (fun _ hm => hm.pick [] [] [] rfl rfl) ?_
 rintro ⟨i, j⟩ hinv
 replace hinv : lo ≤ i ∧ i ≤ j ∧ j ≤ hi ∧ (i = lo ∨ ∃ u v, l0[i - 1]? = some u ∧ l0[mid + mm - i]? = some v ∧ evLt v u = false) ∧ (j = hi ∨ ∃ u v, l0[j]? = some u ∧ l0[mid + mm - 1 - j]? = some v ∧ evLt v u = true) := hinv
 dsimp only
 refine gw_seq (sr_ ?_)
 obtain ⟨hi1, hij, hjb, hL, hR⟩ := hinv
 refine mv_ rfl (mv_ rfl (wl_ov (ov_lss rfl rfl) rfl (nn_ ?_)))
 refine gw_cond rfl (fun hh => ?_) (fun hh => ?_)
 ·have hlt : ((i : Nat) : Int) < ((j : Nat) : Int) := by simpa using hh
  clear hh
  refine gw_skip (nx_then (gw_block (sr_ ?_)))
  obtain ⟨hh, hhd⟩ : ∃ z, z = (i + j) / 2 := ⟨_, rfl⟩
  have hh1 : i ≤ hh := by omega
  have hh2 : hh < j := by omega
  obtain ⟨xx, hx⟩ : ∃ x, l0[(mid + mm - 1 - hh)]? = some x := ⟨_, List.getElem?_eq_getElem (by omega)⟩
  obtain ⟨x0, x1, x2, x3, x4⟩ := xx
  obtain ⟨yy, hy⟩ : ∃ x, l0[hh]? = some x := ⟨_, List.getElem?_eq_getElem (by omega)⟩
  obtain ⟨y0, y1, y2, y3, y4⟩ := yy
  refine mv_ rfl (mv_ rfl (ad_ rfl rfl ?_))
  refine wl_set 154 (v' := .int .i64 (((i + j) : Nat) : Int)) rfl (congrArg (Value.int .i64) (by omega)) ?_
  refine wl_ov (ov_u64 (a := (i + j)) (by kernel_rfl) (by kernel_rfl) rfl (by omega)) rfl ?_
  refine wl_ov (ov_shru1 (a := (i + j)) rfl rfl) rfl ?_
  refine wl_ov (ov_i64 (a := (i + j) / 2) (by kernel_rfl) (by kernel_rfl) rfl (by omega)) rfl ?_
  refine wl_set 157 (v' := .int .i64 ((hh : Nat) : Int)) rfl (congrArg (Value.int .i64) (by omega)) ?_
  refine sg_ rfl (nn_ (gw_seq ?_))
  refine gd (fun wz => True) mixed (fun _ _ => trivial) fun z => ?_
  refine wt 0 14 1 rfl z (ov_move rfl) ?_
  refine wt 1 14 3 rfl z (ov_move rfl) ?_
  refine wt 2 14 7 rfl z (ov_move rfl) ?_
  refine wt 3 14 15 rfl z (ov_move rfl) ?_
  refine wt 4 14 31 rfl z (ov_sub rfl rfl (by omega) (by omega)) ?_
  refine wa_set 162 (v' := .int .i64 (((mid + mm - 1 - hh) : Nat) : Int)) rfl (congrArg (Value.int .i64) (by omega)) ?_
  refine wt 5 14 63 rfl z (ov_index (j := (mid + mm - 1 - hh)) es47 rfl rfl (by omega)) ?_
  refine wt 7 14 191 rfl z (ov_move rfl) ?_
  refine wt 8 14 447 rfl z (ov_move rfl) ?_
  refine wt 9 14 959 rfl z (ov_index (j := hh) es47 rfl rfl (by omega)) ?_
  refine wa_all [6, 10] (by kernel_rfl) rfl ⟨⟨_, rfl, ?_⟩, ⟨_, rfl, ?_⟩, trivial⟩
  ·refine wl_ov (ov_elem (vs := [.int .i64 x0, .string x1, .string x2, .int .i64 x3, .string x4]) rz74 rfl (fun _ hm => (RowK.get hm.k ev_len hl0)) hx rfl rfl) rfl ?_
   refine wl_nil ?_
   refine nw 14 1023 (fun _ _ => trivial) fun z => ?_
   refine wa1 10 rfl ?_
   refine wl_ov (ov_elem (vs := [.int .i64 y0, .string y1, .string y2, .int .i64 y3, .string y4]) rz74 rfl (fun _ hm => (RowK.get hm.k ev_len hl0)) hy rfl rfl) rfl ?_
   refine wl_nil ?_
   refine nw 14 2047 (fun _ _ => trivial) fun z => ?_
   refine wa1 11 rfl ?_
   refine wl_callv (v := .int .i64 (evOrd ⟨x0, x1, x2, x3, x4⟩ ⟨y0, y1, y2, y3, y4⟩)) rfl cb79 rfl rfl (fun wx hm => (byTime_any x0 x1 x2 x3 x4 y0 y1 y2 y3 y4 wx)) ?_
   refine wl_nil ?_
   refine nw 14 4095 (fun _ _ => trivial) fun z => ?_
   refine wt 12 14 8191 rfl z (ov_lss rfl rfl) ?_
   refine wt 13 14 16383 rfl z (ov_un_not rfl) ?_
   refine wa_done (by kernel_rfl) ?_
   refine nx_then ?_
   refine gw_cond rfl (fun hh => ?_) (fun hh => ?_)
   ·have hq : (decide (evOrd ⟨x0, x1, x2, x3, x4⟩ ⟨y0, y1, y2, y3, y4⟩ < 0)) = false := by simpa using hh
    clear hh
    refine gw_region ?_
    have hlt1 : evLt ⟨x0, x1, x2, x3, x4⟩ ⟨y0, y1, y2, y3, y4⟩ = false := decide_eq_false (by first | exact hq | simpa using hq)
    refine mv_ rfl (ad_ rfl rfl (sg_ rfl (wl_nil (nx_blk_nrm ?_))))
    exact nx_round ((hh + 1), j) ⟨by dsimp only; omega, by dsimp only; omega, hjb, .inr ⟨_, _, by dsimp only; rw [show hh + 1 - 1 = hh by omega]; exact hy, by dsimp only; rw [show mid + mm - (hh + 1) = mid + mm - 1 - hh by omega]; exact hx, hlt1⟩, hR⟩ (by dsimp only; omega) ⟨rfl, rfl, rfl, rfl, rfl, rfl, rfl, (some_int (by dsimp only; omega)), rfl, rfl, trivial⟩ (fun _ hm => hm.pick [] [] [] rfl rfl)
   have hq : (decide (evOrd ⟨x0, x1, x2, x3, x4⟩ ⟨y0, y1, y2, y3, y4⟩ < 0)) = true := by simpa using hh
   clear hh
   refine gw_region ?_
   have hlt1 : evLt ⟨x0, x1, x2, x3, x4⟩ ⟨y0, y1, y2, y3, y4⟩ = true := decide_eq_true (by first | exact hq | simpa using hq)
   refine mv_ rfl (sg_ rfl (wl_nil (nx_blk_nrm ?_)))
   exact nx_round (i, hh) ⟨hi1, by dsimp only; omega, by dsimp only; omega, hL, .inr ⟨_, _, hy, hx, hlt1⟩⟩ (by dsimp only; omega) ⟨rfl, rfl, rfl, rfl, rfl, rfl, rfl, rfl, rfl, rfl, trivial⟩ (fun _ hm => hm.pick [] [] [] rfl rfl)
  refine wl_ov (ov_elem (vs := [.int .i64 y0, .string y1, .string y2, .int .i64 y3, .string y4]) rz74 rfl (fun _ hm => (RowK.get hm.k ev_len hl0)) hy rfl rfl) rfl ?_
  refine wl_nil ?_
  refine nw 14 1983 (fun _ _ => trivial) fun z => ?_
  refine wa1 6 rfl ?_
  refine wl_ov (ov_elem (vs := [.int .i64 x0, .string x1, .string x2, .int .i64 x3, .string x4]) rz74 rfl (fun _ hm => (RowK.get hm.k ev_len hl0)) hx rfl rfl) rfl ?_
  refine wl_nil ?_
  refine nw 14 2047 (fun _ _ => trivial) fun z => ?_
  refine wa1 11 rfl ?_
  refine wl_callv (v := .int .i64 (evOrd ⟨x0, x1, x2, x3, x4⟩ ⟨y0, y1, y2, y3, y4⟩)) rfl cb79 rfl rfl (fun wx hm => (byTime_any x0 x1 x2 x3 x4 y0 y1 y2 y3 y4 wx)) ?_
  refine wl_nil ?_
  refine nw 14 4095 (fun _ _ => trivial) fun z => ?_
  refine wt 12 14 8191 rfl z (ov_lss rfl rfl) ?_
  refine wt 13 14 16383 rfl z (ov_un_not rfl) ?_
  refine wa_done (by kernel_rfl) ?_
  refine nx_then ?_
  refine gw_cond rfl (fun hh => ?_) (fun hh => ?_)
  ·have hq : (decide (evOrd ⟨x0, x1, x2, x3, x4⟩ ⟨y0, y1, y2, y3, y4⟩ < 0)) = false := by simpa using hh
   clear hh
   refine gw_region ?_
   have hlt1 : evLt ⟨x0, x1, x2, x3, x4⟩ ⟨y0, y1, y2, y3, y4⟩ = false := decide_eq_false (by first | exact hq | simpa using hq)
   refine mv_ rfl (ad_ rfl rfl (sg_ rfl (wl_nil (nx_blk_nrm ?_))))
   exact nx_round ((hh + 1), j) ⟨by dsimp only; omega, by dsimp only; omega, hjb, .inr ⟨_, _, by dsimp only; rw [show hh + 1 - 1 = hh by omega]; exact hy, by dsimp only; rw [show mid + mm - (hh + 1) = mid + mm - 1 - hh by omega]; exact hx, hlt1⟩, hR⟩ (by dsimp only; omega) ⟨rfl, rfl, rfl, rfl, rfl, rfl, rfl, (some_int (by dsimp only; omega)), rfl, rfl, trivial⟩ (fun _ hm => hm.pick [] [] [] rfl rfl)
  have hq : (decide (evOrd ⟨x0, x1, x2, x3, x4⟩ ⟨y0, y1, y2, y3, y4⟩ < 0)) = true := by simpa using hh
  clear hh
  refine gw_region ?_
  have hlt1 : evLt ⟨x0, x1, x2, x3, x4⟩ ⟨y0, y1, y2, y3, y4⟩ = true := decide_eq_true (by first | exact hq | simpa using hq)
  refine mv_ rfl (sg_ rfl (wl_nil (nx_blk_nrm ?_)))
  exact nx_round (i, hh) ⟨hi1, by dsimp only; omega, by dsimp only; omega, hL, .inr ⟨_, _, hy, hx, hlt1⟩⟩ (by dsimp only; omega) ⟨rfl, rfl, rfl, rfl, rfl, rfl, rfl, rfl, rfl, rfl, trivial⟩ (fun _ hm => hm.pick [] [] [] rfl rfl)
 have hlt : ¬ (((i : Nat) : Int) < ((j : Nat) : Int)) := by simpa using hh
 clear hh
 refine gw_exit ?_
 refine nx_then_exit (nx_then_exit ?_)
 refine nx_blk_here ?_
 refine nx_then (sr_ ?_)
 obtain rfl : i = j := by omega
 obtain ⟨e, he⟩ : ∃ z, z = mid + mm - i := ⟨_, rfl⟩
 have e1 : a ≤ i := by omega
 have e2 : i ≤ mm := by omega
 have e3 : mm ≤ e := by omega
 have e4 : e ≤ b := by omega
 have e5 : mid = i + (e - mm) := by omega
 have w1 : i = a ∨ e = b ∨ ∃ x y, l0[i - 1]? = some x ∧ l0[e]? = some y ∧ evLt y x = false := by
  rcases hL with h3 | ⟨u, v, h3, h4, h5⟩
  ·rcases q6 with h4 | h4
   ·exact .inl (by omega)
   exact .inr (.inl (by omega))
  exact .inr (.inr ⟨u, v, h3, by rw [he]; exact h4, h5⟩)
 have w2 : e = mm ∨ i = mm ∨ ∃ x y, l0[i]? = some x ∧ l0[e - 1]? = some y ∧ evLt y x = true := by
  rcases hR with h3 | ⟨u, v, h3, h4, h5⟩
  ·rcases q7 with h4 | h4
   ·exact .inr (.inl (by omega))
   exact .inl (by omega)
  exact .inr (.inr ⟨u, v, h3, by rw [show e - 1 = mid + mm - 1 - i by omega]; exact h4, h5⟩)
 refine mv_ rfl (mv_ rfl ?_)
 refine wl_ov (ov_sub rfl rfl (by omega) (by omega)) rfl ?_
 refine wl_set 177 (v' := .int .i64 ((e : Nat) : Int)) rfl (congrArg (Value.int .i64) (by omega)) ?_
 refine sg_ rfl (nn_ ?_)
 refine gw_cut (γ := List Ev) (I := (fun (l1 : List Ev) => l1.length = n ∧ ∀ x, l1[x]? = rotAt l0 i mm e x)) (S' := (fun (l1 : List Ev) => [(0, .slice (some ⟨br, 0, none⟩) n cap), (1, .int .i64 ((a : Nat) : Int)), (3, .int .i64 ((b : Nat) : Int)), (4, .func (.func 79) #[] #[]), (18, .int .i64 ((mid : Nat) : Int)), (20, .int .i64 ((i : Nat) : Int)), (24, .int .i64 ((e : Nat) : Int))])) (K' := (fun (l1 : List Ev) => RowK base 74 5 n cap br ((l1).flatMap evEnc))) (L' := (fun (l1 : List Ev) => [])) (O' := (fun (l1 : List Ev) => [])) (X' := (fun (l1 : List Ev) => [])) ?_ ?_
 ·refine sr_ (mv_ rfl (mv_ rfl (wl_ov (ov_lss rfl rfl) rfl (mv_ rfl ?_))))
  rcases Bool.eq_false_or_eq_true (decide (((i : Nat) : Int) < ((mm : Nat) : Int))) with hb | hb
  ·refine wl_set 181 rfl (congrArg Value.bool hb) ?_
   replace hb := of_decide_eq_true hb
   refine wl_guard_on rfl rfl rfl (mv_ rfl (wl_guard_on rfl rfl rfl (mv_ rfl (wl_guard_on rfl rfl rfl (wl_ov (ov_lss rfl rfl) rfl (pt_ rfl rfl (nn_ ?_)))))))
   refine gw_cond rfl (fun hh => ?_) (fun hh => ?_)
   ·have hb2 : ((mm : Nat) : Int) < ((e : Nat) : Int) := by simpa using hh
    clear hh
    refine gw_region (mv_ rfl (mv_ rfl (mv_ rfl (mv_ rfl (mv_ rfl ?_)))))
    refine wl_callG (γ := List Ev) (val := fun _ => .tuple #[]) (φ := fun R => R.length = n ∧ ∀ x, R[x]? = rotAt l0 i mm e x) (K' := fun R => RowK base 74 5 n cap br ((R).flatMap evEnc)) (L' := fun _ => []) (O' := fun _ => []) (X' := fun _ => []) rfl cb249 rfl rfl (fun wx hm => ((rotate_bt l0 br n cap base i mm e wx hm.k hl0 hn (by omega) (by omega) (by omega))).mono fun _ _ ⟨R_, h1, he, ho, hg⟩ => ⟨R_, he, h1, hm.turned rfl rfl ho hg⟩) ?_
    intro R hR
    refine wl_nil ?_
    exact nx_meet R hR ⟨rfl, rfl, rfl, rfl, rfl, rfl, rfl, trivial⟩ (fun _ hm => hm.pick [] [] [] rfl rfl)
   have hb2 : ¬ (((mm : Nat) : Int) < ((e : Nat) : Int)) := by simpa using hh
   clear hh
   refine gw_skip ?_
   exact nx_meet l0 ⟨hl0, fun x => rot_none (by omega) e2 e3 x⟩ ⟨rfl, rfl, rfl, rfl, rfl, rfl, rfl, trivial⟩ (fun _ hm => hm.pick [] [] [] rfl rfl)
  refine wl_set 181 rfl (congrArg Value.bool hb) ?_
  replace hb := of_decide_eq_false hb
  refine goff rfl rfl rfl (goff rfl rfl rfl (goff rfl rfl rfl (pf_ rfl rfl (nn_ (cf_ rfl (gw_skip ?_))))))
  exact nx_meet l0 ⟨hl0, fun x => rot_none (by omega) e2 e3 x⟩ ⟨rfl, rfl, rfl, rfl, rfl, rfl, rfl, trivial⟩ (fun _ hm => hm.pick [] [] [] rfl rfl)
 intro l1 hinv
 replace hinv : l1.length = n ∧ ∀ x, l1[x]? = rotAt l0 i mm e x := hinv
 obtain ⟨hl1, hrot⟩ := hinv
 obtain ⟨p1, p2, p3, p4⟩ := rot_parts (a := a) (b := b) hrot e2 e3 e5
 have s1 : Srt evLt (partL l1 a i) := by rw [p1, ← show a + (i - a) = i by omega, ← part_take (m := mm) (by omega)]; exact srt_take hsA _
 have s2 : Srt evLt (partL l1 i mid) := by rw [p2, ← show mm + (e - mm) = e by omega, ← part_take (m := b) (by omega)]; exact srt_take hsB _
 have s3 : Srt evLt (partL l1 mid e) := by rw [p3, show i = a + (i - a) by omega, ← part_drop]; exact srt_drop hsA _
 have s4 : Srt evLt (partL l1 e b) := by rw [p4, show e = mm + (e - mm) by omega, ← part_drop]; exact srt_drop hsB _
 refine gw_cut (γ := List Ev) (I := (fun (R1 : List Ev) => R1.length = n ∧ SymOk evLt l1 R1 a mid)) (S' := (fun (R1 : List Ev) => [(0, .slice (some ⟨br, 0, none⟩) n cap), (3, .int .i64 ((b : Nat) : Int)), (4, .func (.func 79) #[] #[]), (18, .int .i64 ((mid : Nat) : Int)), (24, .int .i64 ((e : Nat) : Int))])) (K' := (fun (R1 : List Ev) => RowK base 74 5 n cap br ((R1).flatMap evEnc))) (L' := (fun (R1 : List Ev) => [])) (O' := (fun (R1 : List Ev) => [])) (X' := (fun (R1 : List Ev) => [])) ?_ ?_
 ·refine sr_ (mv_ rfl (mv_ rfl (wl_ov (ov_lss rfl rfl) rfl (mv_ rfl ?_))))
  rcases Bool.eq_false_or_eq_true (decide (((a : Nat) : Int) < ((i : Nat) : Int))) with hb | hb
  ·refine wl_set 195 rfl (congrArg Value.bool hb) ?_
   replace hb := of_decide_eq_true hb
   refine wl_guard_on rfl rfl rfl (mv_ rfl (wl_guard_on rfl rfl rfl (mv_ rfl (wl_guard_on rfl rfl rfl (wl_ov (ov_lss rfl rfl) rfl (pt_ rfl rfl (nn_ ?_)))))))
   refine gw_cond rfl (fun hh => ?_) (fun hh => ?_)
   ·have hb2 : ((i : Nat) : Int) < ((mid : Nat) : Int) := by simpa using hh
    clear hh
    refine gw_region (mv_ rfl (mv_ rfl (mv_ rfl (mv_ rfl (mv_ rfl ?_)))))
    refine wl_callG (γ := List Ev) (val := fun _ => .tuple #[]) (φ := fun R => R.length = n ∧ SymOk evLt l1 R a mid) (K' := fun R => RowK base 74 5 n cap br ((R).flatMap evEnc)) (L' := fun _ => []) (O' := fun _ => []) (X' := fun _ => []) rfl cb186 rfl rfl (fun wx hm => (ih a i mid (by omega) l1 wx hm.k hl1 hn (by omega) (by omega) (by omega) s1 s2).mono fun _ _ ⟨R_, h1, he, ho, hg⟩ => ⟨R_, he, ⟨by rw [h1.len]; exact hl1, h1⟩, hm.turned rfl rfl ho hg⟩) ?_
    intro R hR
    refine wl_nil ?_
    exact nx_meet R hR ⟨rfl, rfl, rfl, rfl, rfl, trivial⟩ (fun _ hm => hm.pick [] [] [] rfl rfl)
   have hb2 : ¬ (((i : Nat) : Int) < ((mid : Nat) : Int)) := by simpa using hh
   clear hh
   refine gw_skip ?_
   exact nx_meet l1 ⟨hl1, sym_same (by rcases (show i = a ∨ i = mid by omega) with h9 | h9 <;> (subst h9; assumption))⟩ ⟨rfl, rfl, rfl, rfl, rfl, trivial⟩ (fun _ hm => hm.pick [] [] [] rfl rfl)
  refine wl_set 195 rfl (congrArg Value.bool hb) ?_
  replace hb := of_decide_eq_false hb
  refine goff rfl rfl rfl (goff rfl rfl rfl (goff rfl rfl rfl (pf_ rfl rfl (nn_ (cf_ rfl (gw_skip ?_))))))
  exact nx_meet l1 ⟨hl1, sym_same (by rcases (show i = a ∨ i = mid by omega) with h9 | h9 <;> (subst h9; assumption))⟩ ⟨rfl, rfl, rfl, rfl, rfl, trivial⟩ (fun _ hm => hm.pick [] [] [] rfl rfl)
 intro R1 hinv
 replace hinv : R1.length = n ∧ SymOk evLt l1 R1 a mid := hinv
 refine sr_ ?_
 obtain ⟨hl2, k1⟩ := hinv
 have s5 : Srt evLt (partL R1 mid e) := by rw [part_back k1.back (Nat.le_refl _)]; exact s3
 have s6 : Srt evLt (partL R1 e b) := by rw [part_back k1.back (by omega)]; exact s4
 refine mv_ rfl (mv_ rfl (wl_ov (ov_lss rfl rfl) rfl (mv_ rfl ?_)))
 rcases Bool.eq_false_or_eq_true (decide (((mid : Nat) : Int) < ((e : Nat) : Int))) with hb | hb
 ·refine wl_set 209 rfl (congrArg Value.bool hb) ?_
  replace hb := of_decide_eq_true hb
  refine wl_guard_on rfl rfl rfl (mv_ rfl (wl_guard_on rfl rfl rfl (mv_ rfl (wl_guard_on rfl rfl rfl (wl_ov (ov_lss rfl rfl) rfl (pt_ rfl rfl (nn_ ?_)))))))
  refine gw_cond rfl (fun hh => ?_) (fun hh => ?_)
  ·have hb2 : ((e : Nat) : Int) < ((b : Nat) : Int) := by simpa using hh
   clear hh
   refine gw_region (mv_ rfl (mv_ rfl (mv_ rfl (mv_ rfl (mv_ rfl ?_)))))
   refine wl_callG (γ := List Ev) (val := fun _ => .tuple #[]) (φ := fun R => SymOk evLt R1 R mid b) (K' := fun R => RowK base 74 5 n cap br ((R).flatMap evEnc)) (L' := fun _ => []) (O' := fun _ => []) (X' := fun _ => []) rfl cb186 rfl rfl (fun wx hm => ((ih mid e b (by omega) R1 wx hm.k hl2 hn (by omega) (by omega) (by omega) s5 s6)).mono fun _ _ ⟨R_, h1, he, ho, hg⟩ => ⟨R_, he, h1, hm.turned rfl rfl ho hg⟩) ?_
   intro R hR
   refine wl_nil ?_
   refine nx_ret0 rfl fun wx hm => ?_
   have hf := fin_row hm.k hm.g
   exact ⟨R, sym_whole evLt_ord (by omega) hsA hsB e1 e2 e3 e4 e5 w1 w2 (by rw [hl1, hl0]) hrot k1 hR, rfl, hf.1, hf.2⟩
  have hb2 : ¬ (((e : Nat) : Int) < ((b : Nat) : Int)) := by simpa using hh
  clear hh
  refine gw_skip ?_
  refine nx_ret0 rfl fun wx hm => ?_
  have hf := fin_row hm.k hm.g
  exact ⟨R1, sym_whole evLt_ord (by omega) hsA hsB e1 e2 e3 e4 e5 w1 w2 (by rw [hl1, hl0]) hrot k1 (sym_same (by rcases (show e = mid ∨ e = b by omega) with h9 | h9 <;> (subst h9; assumption))), rfl, hf.1, hf.2⟩
 refine wl_set 209 rfl (congrArg Value.bool hb) ?_
 replace hb := of_decide_eq_false hb
 refine goff rfl rfl rfl (goff rfl rfl rfl (goff rfl rfl rfl (pf_ rfl rfl (nn_ (cf_ rfl (gw_skip ?_))))))
 refine nx_ret0 rfl fun wx hm => ?_
 have hf := fin_row hm.k hm.g
 exact ⟨R1, sym_whole evLt_ord (by omega) hsA hsB e1 e2 e3 e4 e5 w1 w2 (by rw [hl1, hl0]) hrot k1 (sym_same (by rcases (show e = mid ∨ e = b by omega) with h9 | h9 <;> (subst h9; assumption))), rfl, hf.1, hf.2⟩
theorem sym_bt (br n cap base : Nat) : ∀ (k a mm b : Nat), b - a = k → SymSp_bt br n cap base a mm b := by
  intro k
  induction k using Nat.strongRecOn with
  | _ k ih => exact fun a mm b hk => symStep_bt br n cap base a mm b fun a' m' b' h => ih (b' - a') (by omega) a' m' b' rfl
theorem mid_get {pre m post : List Ev} {a j : Nat} (hp : pre.length = a) (hj : j < m.length) : (pre ++ (m ++ post))[a + j]? = m[j]? := by
  rw [List.getElem?_append_right (by omega), List.getElem?_append_left (by omega)]
  congr 1; omega
theorem mid_set {pre m post : List Ev} {a j : Nat} {x : Ev} (hp : pre.length = a) (hj : j < m.length) : (pre ++ (m ++ post)).set (a + j) x = pre ++ (m.set j x ++ post) := by
  rw [List.set_append_right _ _ (by omega), List.set_append_left _ _ (by omega), show a + j - pre.length = j by omega]
theorem insR_bt (pre m0 post : List Ev) (br n cap base a b : Nat) (w : World) (h : w.ownsRow base 74 5 (.slice (some ⟨br, 0, none⟩) n cap) n ((pre ++ (m0 ++ post)).flatMap evEnc)) (hpre : pre.length = a) (hab : a + m0.length = b) (hbn : b + post.length = n) (hn : n ≤ 1000000) :
  Calls Tryz.prog 185 #[.slice (some ⟨br, 0, none⟩) n cap, .int .i64 ((a : Nat) : Int), .int .i64 ((b : Nat) : Int), .func (.func 79) #[] #[]] w (fun e w' => e = .returned (.tuple #[]) ∧ w'.ownsRow base 74 5 (.slice (some ⟨br, 0, none⟩) n cap) n ((pre ++ (isort evLt m0 ++ post)).flatMap evEnc) ∧ w.grownBy w' (some br)) := by
 obtain ⟨q, hq⟩ : ∃ z, z = m0.length := ⟨_, rfl⟩
 obtain ⟨R, hR⟩ : ∃ z, z = isort evLt m0 := ⟨_, rfl⟩
 rw [← hR]
 unfold isort at hR
 rw [← hq] at hR
 refine gw_enter ⟨53, w, (some br), []⟩ Tryz.func185 rfl Tryz.ntmps185 rfl (memR (X := []) h allF_nil allL_nil) ?_
 refine sr_ (mv_ rfl (ad_ rfl rfl (sg_ rfl (nn_ (gw_block ?_)))))
 refine gw_loop (γ := Nat × List Ev) (fun gg => (1 ≤ gg.1 ∧ gg.1 ≤ q + 1) ∧ gg.2.length = q ∧ isortF evLt (q - gg.1) gg.1 gg.2 = R) (fun gg => [(0, .slice (some ⟨br, 0, none⟩) n cap), (1, .int .i64 ((a : Nat) : Int)), (2, .int .i64 ((b : Nat) : Int)), (3, .func (.func 79) #[] #[]), (8, .int .i64 (((a + gg.1) : Nat) : Int))]) (fun gg => RowK base 74 5 n cap br (((pre ++ (gg.2 ++ post))).flatMap evEnc)) (fun gg => []) (fun gg => []) (fun gg => []) (fun gg => q + 1 - gg.1) (1, m0) ⟨⟨Nat.le_refl _, by omega⟩, hq.symm, by rw [hR]⟩ ⟨rfl, rfl, rfl, rfl, (some_int (by omega)), trivial⟩ (fun _ hm => hm.pick [] [] [] rfl rfl) ?_
 rintro ⟨i, l⟩ hinv
 replace hinv : (1 ≤ i ∧ i ≤ q + 1) ∧ l.length = q ∧ isortF evLt (q - i) i l = R := hinv
 dsimp only
 refine gw_seq (sr_ ?_)
 obtain ⟨⟨hi1, hi2⟩, hl1, hR1⟩ := hinv
 refine mv_ rfl (mv_ rfl (wl_ov (ov_lss rfl rfl) rfl (nn_ ?_)))
 refine gw_cond rfl (fun hh => ?_) (fun hh => ?_)
 ·have hi : (((a + i) : Nat) : Int) < ((b : Nat) : Int) := by simpa using hh
  clear hh
  refine gw_skip (nx_then (gw_seq (gw_block (sr_ ?_))))
  have hRi : isortF evLt (q - (i + 1)) (i + 1) (sink evLt i l) = R := by rw [← hR1, show q - i = (q - (i + 1)) + 1 by omega]; rfl
  obtain ⟨S, hS⟩ : ∃ z, z = sink evLt i l := ⟨_, rfl⟩
  rw [← hS] at hRi
  have hSl : S.length = q := by rw [hS, sink_len]; exact hl1
  refine mv_ rfl (sg_ rfl (nn_ (gw_block ?_)))
  refine gw_loop (γ := Nat × List Ev) (fun gg => (gg.1 ≤ i) ∧ gg.2.length = q ∧ sink evLt gg.1 gg.2 = S) (fun gg => [(0, .slice (some ⟨br, 0, none⟩) n cap), (1, .int .i64 ((a : Nat) : Int)), (2, .int .i64 ((b : Nat) : Int)), (3, .func (.func 79) #[] #[]), (8, .int .i64 (((a + i) : Nat) : Int)), (9, .int .i64 (((a + gg.1) : Nat) : Int))]) (fun gg => RowK base 74 5 n cap br (((pre ++ (gg.2 ++ post))).flatMap evEnc)) (fun gg => []) (fun gg => []) (fun gg => []) (fun gg => gg.1) (i, l) ⟨Nat.le_refl _, hl1, hS.symm⟩ ⟨rfl, rfl, rfl, rfl, rfl, rfl, trivial⟩ (fun _ hm => hm.pick [] [] [] rfl rfl) ?_
  rintro ⟨jj, m⟩ hinv
  replace hinv : (jj ≤ i) ∧ m.length = q ∧ sink evLt jj m = S := hinv
  dsimp only
  refine gw_seq (gw_seq ?_)
  obtain ⟨hj1, hm1, hS1⟩ := hinv
  rcases jj with _ | j
  ·refine gd (fun wz => True) mixed (fun _ _ => trivial) fun z => ?_
   refine wt 0 17 1 rfl z (ov_move rfl) ?_
   refine wt 1 17 3 rfl z (ov_move rfl) ?_
   refine wt 2 17 7 rfl z (ov_gtr rfl rfl) ?_
   refine wa_set 20 (v' := .bool false) rfl (congrArg Value.bool (decide_eq_false (by omega))) ?_
   refine wt 3 17 15 rfl z (ov_move rfl) ?_
   refine wtf 4 17 31 rfl rfl rfl z ?_
   refine wtf 5 17 63 rfl rfl rfl z ?_
   refine wtf 6 17 127 rfl rfl rfl z ?_
   refine wtf 7 17 255 rfl rfl rfl z ?_
   refine wtf 8 17 511 rfl rfl rfl z ?_
   refine wtf 9 17 1023 rfl rfl rfl z ?_
   refine wtf 10 17 2047 rfl rfl rfl z ?_
   refine wtf 11 17 4095 rfl rfl rfl z ?_
   refine wtf 12 17 8191 rfl rfl rfl z ?_
   refine wtf 13 17 16383 rfl rfl rfl z ?_
   refine wtf 14 17 32767 rfl rfl rfl z ?_
   refine wtf 15 17 65535 rfl rfl rfl z ?_
   refine wt 16 17 131071 rfl z (ov_pick_f rfl rfl) ?_
   refine wa_done (by kernel_rfl) ?_
   refine nx_then (cf_ rfl ?_)
   refine gw_exit ?_
   refine nx_then_exit (nx_then_exit ?_)
   refine nx_blk_here ?_
   refine nx_blk_nrm (nx_then (gw_region (mv_ rfl (ad_ rfl rfl (sg_ rfl (wl_nil ?_))))))
   have hm2 : m = S := hS1
   exact nx_round (i + 1, m) ⟨⟨by dsimp only; omega, by dsimp only; omega⟩, by rw [hm2]; exact hSl, by rw [hm2]; exact hRi⟩ (by dsimp only; omega) ⟨rfl, rfl, rfl, rfl, (some_int (by dsimp only; omega)), trivial⟩ (fun _ hm => hm.pick [] [] [] rfl rfl)
  have hj2 : j + 1 < q := by omega
  obtain ⟨xx, hxm⟩ : ∃ z, m[j]? = some z := ⟨_, List.getElem?_eq_getElem (by omega)⟩
  obtain ⟨yy, hym⟩ : ∃ z, m[j + 1]? = some z := ⟨_, List.getElem?_eq_getElem (by omega)⟩
  obtain ⟨x0, x1, x2, x3, x4⟩ := xx
  obtain ⟨y0, y1, y2, y3, y4⟩ := yy
  have hwl : (pre ++ (m ++ post)).length = n := by simp only [List.length_append]; omega
  have hx := (mid_get (post := post) hpre (show j < m.length by omega)).trans hxm
  have hy := (mid_get (post := post) hpre (show j + 1 < m.length by omega)).trans hym
  refine gd (fun wz => (RowK base 74 5 n cap br (((pre ++ (m ++ post))).flatMap evEnc)) wz ∧ True) mixed (fun _ hm => ⟨hm.k, trivial⟩) fun z => ?_
  refine wt 0 17 1 rfl z (ov_move rfl) ?_
  refine wt 1 17 3 rfl z (ov_move rfl) ?_
  refine wt 2 17 7 rfl z (ov_gtr rfl rfl) ?_
  refine wa_set 20 (v' := .bool true) rfl (congrArg Value.bool (decide_eq_true (by omega))) ?_
  refine wt 3 17 15 rfl z (ov_move rfl) ?_
  refine wto 4 17 31 rfl rfl rfl z (ov_move rfl) ?_
  refine wto 5 17 63 rfl rfl rfl z (ov_move rfl) ?_
  refine wto 6 17 127 rfl rfl rfl z (ov_move rfl) ?_
  refine wto 7 17 255 rfl rfl rfl z (ov_index (j := (a + (j + 1))) es47 rfl rfl (by omega)) ?_
  refine wto 8 17 511 rfl rfl rfl z (ov_elem (vs := [.int .i64 y0, .string y1, .string y2, .int .i64 y3, .string y4]) rz74 rfl (fun _ hm => (RowK.get (hm.1) ev_len hwl)) hy rfl rfl) ?_
  refine wto 9 17 1023 rfl rfl rfl z (ov_move rfl) ?_
  refine wto 10 17 2047 rfl rfl rfl z (ov_move rfl) ?_
  refine wto 11 17 4095 rfl rfl rfl z (ov_sub rfl rfl (by omega) (by omega)) ?_
  refine wa_set 29 (v' := .int .i64 (((a + j) : Nat) : Int)) rfl (congrArg (Value.int .i64) (by omega)) ?_
  refine wto 12 17 8191 rfl rfl rfl z (ov_index (j := (a + j)) es47 rfl rfl (by omega)) ?_
  refine wto 13 17 16383 rfl rfl rfl z (ov_elem (vs := [.int .i64 x0, .string x1, .string x2, .int .i64 x3, .string x4]) rz74 rfl (fun _ hm => (RowK.get (hm.1) ev_len hwl)) hx rfl rfl) ?_
  refine wa1 14 rfl ?_
  refine wl_guard_on rfl rfl rfl ?_
  refine wl_callv (v := .int .i64 (evOrd ⟨y0, y1, y2, y3, y4⟩ ⟨x0, x1, x2, x3, x4⟩)) rfl cb79 rfl rfl (fun wx hm => (byTime_any y0 y1 y2 y3 y4 x0 x1 x2 x3 x4 wx)) ?_
  refine wl_nil ?_
  refine nw 17 32767 (fun _ hm => ⟨hm.k, trivial⟩) fun z => ?_
  refine wto 15 17 65535 rfl rfl rfl z (ov_lss rfl rfl) ?_
  refine wt 16 17 131071 rfl z (ov_pick_t rfl rfl) ?_
  refine wa_done (by kernel_rfl) ?_
  refine nx_then ?_
  refine gw_cond rfl (fun hh => ?_) (fun hh => ?_)
  ·have hlt : evOrd ⟨y0, y1, y2, y3, y4⟩ ⟨x0, x1, x2, x3, x4⟩ < 0 := by simpa using hh
   clear hh
   refine gw_skip (nx_then (gw_seq (gw_block ?_)))
   have hlt2 : evLt ⟨y0, y1, y2, y3, y4⟩ ⟨x0, x1, x2, x3, x4⟩ = true := decide_eq_true (show evOrd ⟨y0, y1, y2, y3, y4⟩ ⟨x0, x1, x2, x3, x4⟩ < 0 from hlt)
   have hS2 := (sink_yes hym hxm hlt2).symm.trans hS1
   refine gd (fun wz => True) mixed (fun _ _ => trivial) fun z => ?_
   refine wt 0 18 1 rfl z (ov_move rfl) ?_
   refine wt 1 18 3 rfl z (ov_move rfl) ?_
   refine wt 2 18 7 rfl z (ov_move rfl) ?_
   refine wt 3 18 15 rfl z (ov_move rfl) ?_
   refine wt 4 18 31 rfl z (ov_sub rfl rfl (by omega) (by omega)) ?_
   refine wa_set 41 (v' := .int .i64 (((a + j) : Nat) : Int)) rfl (congrArg (Value.int .i64) (by omega)) ?_
   refine wt 5 18 63 rfl z (ov_move rfl) ?_
   refine wt 6 18 127 rfl z (ov_move rfl) ?_
   refine wt 7 18 255 rfl z (ov_sub rfl rfl (by omega) (by omega)) ?_
   refine wa_set 44 (v' := .int .i64 (((a + j) : Nat) : Int)) rfl (congrArg (Value.int .i64) (by omega)) ?_
   refine wt 8 18 511 rfl z (ov_index (j := (a + j)) es47 rfl rfl (by omega)) ?_
   refine wt 10 18 1535 rfl z (ov_move rfl) ?_
   refine wt 11 18 3583 rfl z (ov_move rfl) ?_
   refine wt 12 18 7679 rfl z (ov_index (j := (a + (j + 1))) es47 rfl rfl (by omega)) ?_
   refine wa_all [9, 13] (by kernel_rfl) rfl ⟨⟨_, rfl, ?_⟩, ⟨_, rfl, ?_⟩, trivial⟩
   ·refine wl_ov (ov_elem (vs := [.int .i64 x0, .string x1, .string x2, .int .i64 x3, .string x4]) rz74 rfl (fun _ hm => (RowK.get hm.k ev_len hwl)) hx rfl rfl) rfl ?_
    refine wl_nil ?_
    refine nw 18 8191 (fun _ _ => trivial) fun z => ?_
    refine wa1 13 rfl ?_
    refine wl_ov (ov_elem (vs := [.int .i64 y0, .string y1, .string y2, .int .i64 y3, .string y4]) rz74 rfl (fun _ hm => (RowK.get hm.k ev_len hwl)) hy rfl rfl) rfl ?_
    refine wl_nil ?_
    refine nw 18 16383 (fun _ _ => trivial) fun z => ?_
    refine wt 14 18 32767 rfl z (ov_index (j := (a + (j + 1))) es47 rfl rfl (by omega)) ?_
    refine wa1 15 rfl ?_
    refine wl_storesRow (l := (pre ++ (m ++ post))) (j := (a + (j + 1))) (r := 0) (el := ⟨y0, y1, y2, y3, y4⟩) (el' := ⟨x0, x1, x2, x3, x4⟩) rfl rz74 rfl rfl rfl rfl ev_len rfl hy hwl (by decide) rfl rfl ?_
    refine wl_nil ?_
    refine nw 18 65535 (fun _ _ => trivial) fun z => ?_
    refine wt 16 18 131071 rfl z (ov_index (j := (a + j)) es47 rfl rfl (by omega)) ?_
    refine wa1 17 rfl ?_
    refine wl_storesRow (l := (pre ++ (m ++ post)).set (a + (j + 1)) ⟨x0, x1, x2, x3, x4⟩) (j := (a + j)) (r := 0) (el := ⟨x0, x1, x2, x3, x4⟩) (el' := ⟨y0, y1, y2, y3, y4⟩) rfl rz74 rfl rfl rfl rfl ev_len rfl (by rw [List.getElem?_set_ne (by omega)]; exact hx) (by rw [List.length_set]; exact hwl) (by decide) rfl rfl ?_
    refine wl_nil ?_
    refine nw 18 262143 (fun _ _ => trivial) fun z => ?_
    refine wa_done (by kernel_rfl) ?_
    refine nx_blk_nrm (nx_then (gw_region (mv_ rfl ?_)))
    refine wl_ov (ov_sub rfl rfl (by omega) (by omega)) rfl ?_
    refine wl_set 36 (v' := .int .i64 (((a + j) : Nat) : Int)) rfl (congrArg (Value.int .i64) (by omega)) ?_
    refine sg_ rfl (wl_nil ?_)
    have hcm : ((pre ++ (m ++ post)).set (a + (j + 1)) ⟨x0, x1, x2, x3, x4⟩).set (a + j) ⟨y0, y1, y2, y3, y4⟩ = ((pre ++ (m ++ post)).set (a + j) ⟨y0, y1, y2, y3, y4⟩).set (a + (j + 1)) ⟨x0, x1, x2, x3, x4⟩ := List.set_comm _ _ (by omega)
    rw [hcm]
    have hnew : ((pre ++ (m ++ post)).set (a + j) ⟨y0, y1, y2, y3, y4⟩).set (a + (j + 1)) ⟨x0, x1, x2, x3, x4⟩ = pre ++ (((m.set (j + 1) ⟨x0, x1, x2, x3, x4⟩).set j ⟨y0, y1, y2, y3, y4⟩) ++ post) := by rw [mid_set hpre (by omega), mid_set hpre (by rw [List.length_set]; omega), List.set_comm _ _ (by omega)]
    rw [hnew]
    exact nx_round (j, ((m.set (j + 1) ⟨x0, x1, x2, x3, x4⟩).set j ⟨y0, y1, y2, y3, y4⟩)) ⟨by dsimp only; omega, by simp [hm1], hS2⟩ (by dsimp only; omega) ⟨rfl, rfl, rfl, rfl, rfl, rfl, trivial⟩ (fun _ hm => hm.pick [] [] [] rfl rfl)
   refine wl_ov (ov_elem (vs := [.int .i64 y0, .string y1, .string y2, .int .i64 y3, .string y4]) rz74 rfl (fun _ hm => (RowK.get hm.k ev_len hwl)) hy rfl rfl) rfl ?_
   refine wl_nil ?_
   refine nw 18 15871 (fun _ _ => trivial) fun z => ?_
   refine wa1 9 rfl ?_
   refine wl_ov (ov_elem (vs := [.int .i64 x0, .string x1, .string x2, .int .i64 x3, .string x4]) rz74 rfl (fun _ hm => (RowK.get hm.k ev_len hwl)) hx rfl rfl) rfl ?_
   refine wl_nil ?_
   refine nw 18 16383 (fun _ _ => trivial) fun z => ?_
   refine wt 14 18 32767 rfl z (ov_index (j := (a + (j + 1))) es47 rfl rfl (by omega)) ?_
   refine wa1 15 rfl ?_
   refine wl_storesRow (l := (pre ++ (m ++ post))) (j := (a + (j + 1))) (r := 0) (el := ⟨y0, y1, y2, y3, y4⟩) (el' := ⟨x0, x1, x2, x3, x4⟩) rfl rz74 rfl rfl rfl rfl ev_len rfl hy hwl (by decide) rfl rfl ?_
   refine wl_nil ?_
   refine nw 18 65535 (fun _ _ => trivial) fun z => ?_
   refine wt 16 18 131071 rfl z (ov_index (j := (a + j)) es47 rfl rfl (by omega)) ?_
   refine wa1 17 rfl ?_
   refine wl_storesRow (l := (pre ++ (m ++ post)).set (a + (j + 1)) ⟨x0, x1, x2, x3, x4⟩) (j := (a + j)) (r := 0) (el := ⟨x0, x1, x2, x3, x4⟩) (el' := ⟨y0, y1, y2, y3, y4⟩) rfl rz74 rfl rfl rfl rfl ev_len rfl (by rw [List.getElem?_set_ne (by omega)]; exact hx) (by rw [List.length_set]; exact hwl) (by decide) rfl rfl ?_
   refine wl_nil ?_
   refine nw 18 262143 (fun _ _ => trivial) fun z => ?_
   refine wa_done (by kernel_rfl) ?_
   refine nx_blk_nrm (nx_then (gw_region (mv_ rfl ?_)))
   refine wl_ov (ov_sub rfl rfl (by omega) (by omega)) rfl ?_
   refine wl_set 36 (v' := .int .i64 (((a + j) : Nat) : Int)) rfl (congrArg (Value.int .i64) (by omega)) ?_
   refine sg_ rfl (wl_nil ?_)
   have hcm : ((pre ++ (m ++ post)).set (a + (j + 1)) ⟨x0, x1, x2, x3, x4⟩).set (a + j) ⟨y0, y1, y2, y3, y4⟩ = ((pre ++ (m ++ post)).set (a + j) ⟨y0, y1, y2, y3, y4⟩).set (a + (j + 1)) ⟨x0, x1, x2, x3, x4⟩ := List.set_comm _ _ (by omega)
   rw [hcm]
   have hnew : ((pre ++ (m ++ post)).set (a + j) ⟨y0, y1, y2, y3, y4⟩).set (a + (j + 1)) ⟨x0, x1, x2, x3, x4⟩ = pre ++ (((m.set (j + 1) ⟨x0, x1, x2, x3, x4⟩).set j ⟨y0, y1, y2, y3, y4⟩) ++ post) := by rw [mid_set hpre (by omega), mid_set hpre (by rw [List.length_set]; omega), List.set_comm _ _ (by omega)]
   rw [hnew]
   exact nx_round (j, ((m.set (j + 1) ⟨x0, x1, x2, x3, x4⟩).set j ⟨y0, y1, y2, y3, y4⟩)) ⟨by dsimp only; omega, by simp [hm1], hS2⟩ (by dsimp only; omega) ⟨rfl, rfl, rfl, rfl, rfl, rfl, trivial⟩ (fun _ hm => hm.pick [] [] [] rfl rfl)
  have hlt : ¬ (evOrd ⟨y0, y1, y2, y3, y4⟩ ⟨x0, x1, x2, x3, x4⟩ < 0) := by simpa using hh
  clear hh
  refine gw_exit ?_
  refine nx_then_exit (nx_then_exit ?_)
  refine nx_blk_here ?_
  refine nx_blk_nrm (nx_then (gw_region ?_))
  have hlt2 : evLt ⟨y0, y1, y2, y3, y4⟩ ⟨x0, x1, x2, x3, x4⟩ = false := decide_eq_false (show ¬ evOrd ⟨y0, y1, y2, y3, y4⟩ ⟨x0, x1, x2, x3, x4⟩ < 0 from hlt)
  have hS2 := (sink_no hym hxm hlt2).symm.trans hS1
  refine mv_ rfl (ad_ rfl rfl (sg_ rfl (wl_nil ?_)))
  have hm2 : m = S := hS2
  exact nx_round (i + 1, m) ⟨⟨by dsimp only; omega, by dsimp only; omega⟩, by rw [hm2]; exact hSl, by rw [hm2]; exact hRi⟩ (by dsimp only; omega) ⟨rfl, rfl, rfl, rfl, (some_int (by dsimp only; omega)), trivial⟩ (fun _ hm => hm.pick [] [] [] rfl rfl)
 have hi : ¬ ((((a + i) : Nat) : Int) < ((b : Nat) : Int)) := by simpa using hh
 clear hh
 refine gw_exit ?_
 refine nx_then_exit (nx_then_exit ?_)
 refine nx_blk_here ?_
 obtain rfl : l = R := by rw [← hR1, show q - i = 0 by omega]; rfl
 refine nx_ret0 rfl fun wx hm => ?_
 exact ⟨rfl, fin_row hm.k hm.g⟩
theorem stbA_bt (l0 : List Ev) (br n cap base : Nat) (w : World) (h : w.ownsRow base 74 5 (.slice (some ⟨br, 0, none⟩) n cap) n (l0.flatMap evEnc)) (hl0 : l0.length = n) (hn : n ≤ 1000000) (hn2 : n = 20) :
  Calls Tryz.prog 120 #[.slice (some ⟨br, 0, none⟩) n cap, .int .i64 ((n : Nat) : Int), .func (.func 79) #[] #[]] w (fun e w' => e = .returned (.tuple #[]) ∧ w'.ownsRow base 74 5 (.slice (some ⟨br, 0, none⟩) n cap) n ((isort evLt l0).flatMap evEnc) ∧ w.grownBy w' (some br)) := by
 refine gw_enter ⟨63, w, (some br), []⟩ Tryz.func120 rfl Tryz.ntmps120 rfl (memR (X := []) h allF_nil allL_nil) ?_
 refine sr_ ?_
 have ht20 : (l0.take 20).length = 20 := by rw [List.length_take]; omega
 have hd20 : (l0.drop 20).length = n - 20 := by rw [List.length_drop]; omega
 have hi20 : (isort evLt (l0.take 20)).length = 20 := by rw [isort_len]; exact ht20
 have hid : (isort evLt (l0.drop 20)).length = n - 20 := by rw [isort_len]; exact hd20
 have hk0 : ∀ wx, (RowK base 74 5 n cap br ((l0).flatMap evEnc)) wx → (RowK base 74 5 n cap br ((([] ++ (l0.take 20 ++ l0.drop 20))).flatMap evEnc)) wx := fun wx hk => by rw [List.nil_append, List.take_append_drop]; exact hk
 refine sg_ rfl (nn_ (sr_ (mv_ rfl (sg_ rfl (sg_ rfl (nn_ (gw_seq (gw_block ?_))))))))
 refine gw_rounds 3 ?_
 refine gr_next ?_
 refine gw_seq (sr_ (mv_ rfl (mv_ rfl (wl_ov (ov_leq rfl rfl) rfl (nn_ ?_)))))
 refine gw_set 13 (v' := .bool true) rfl (congrArg Value.bool (decide_eq_true (by omega))) ?_
 refine ct_ rfl (gw_skip (nx_then (gw_block (sr_ (mv_ rfl (mv_ rfl (mv_ rfl (mv_ rfl ?_))))))))
 refine wl_callK (xs' := ((isort evLt (l0.take 20)) ++ (l0.drop 20)).flatMap evEnc) rfl rfl rfl cb185 rfl rfl (fun wx hm => (by have h := insR_bt [] (l0.take 20) (l0.drop 20) br n cap base 0 20 wx (hk0 wx hm.k) rfl (by rw [ht20]) (by rw [hd20]; omega) (by omega); rw [List.nil_append] at h; exact h)) ?_
 refine nn_ (sr_ (mv_ rfl (sg_ rfl (nn_ (gw_region (mv_ rfl (mv_ rfl (ad_ rfl rfl ?_))))))))
 refine wl_set 22 (v' := .int .i64 40) rfl rfl ?_
 refine sg_ rfl (wl_nil (nx_blk_nrm ?_))
 refine nx_next ?_
 refine gr_next ?_
 refine gw_seq (sr_ (mv_ rfl (mv_ rfl (wl_ov (ov_leq rfl rfl) rfl (nn_ ?_)))))
 refine gw_set 13 (v' := .bool false) rfl (congrArg Value.bool (decide_eq_false (by omega))) ?_
 refine cf_ rfl ?_
 refine gw_exit ?_
 refine nx_then_exit (nx_then_exit ?_)
 refine nx_blk_here ?_
 refine nx_then (sr_ (mv_ rfl (mv_ rfl (mv_ rfl (mv_ rfl ?_)))))
 refine wl_callK (xs' := ((isort evLt (l0.take 20)) ++ isort evLt (l0.drop 20)).flatMap evEnc) rfl rfl rfl cb185 rfl rfl (fun wx hm => (by have h := insR_bt (isort evLt (l0.take 20)) (l0.drop 20) [] br n cap base 20 n wx ((by rw [List.append_nil]; exact hm.k)) hi20 (by rw [hd20]; omega) (by rw [List.length_nil]; omega) (by omega); rw [List.append_nil] at h; exact h)) ?_
 refine nn_ (gw_block ?_)
 refine gw_rounds 3 ?_
 refine gr_next ?_
 refine gw_seq (sr_ (mv_ rfl (mv_ rfl (wl_ov (ov_lss rfl rfl) rfl (nn_ ?_)))))
 refine gw_set 30 (v' := .bool false) rfl (congrArg Value.bool (decide_eq_false (by omega))) ?_
 refine cf_ rfl ?_
 refine gw_exit ?_
 refine nx_then_exit (nx_then_exit ?_)
 refine nx_blk_here ?_
 have hf : (isort evLt (l0.take 20)) ++ isort evLt (l0.drop 20) = isort evLt l0 := by rw [List.take_of_length_le (by omega), List.drop_of_length_le (by omega), show isort evLt ([] : List Ev) = [] from rfl, List.append_nil]
 refine nx_ret0 rfl fun wx hm => ?_
 rw [← hf]
 exact ⟨rfl, fin_row hm.k hm.g⟩
theorem stbB_bt (l0 : List Ev) (br n cap base : Nat) (w : World) (h : w.ownsRow base 74 5 (.slice (some ⟨br, 0, none⟩) n cap) n (l0.flatMap evEnc)) (hl0 : l0.length = n) (hn : n ≤ 1000000) (hn2 : 20 < n ∧ n < 40) (ht : TieEq l0) :
  Calls Tryz.prog 120 #[.slice (some ⟨br, 0, none⟩) n cap, .int .i64 ((n : Nat) : Int), .func (.func 79) #[] #[]] w (fun e w' => e = .returned (.tuple #[]) ∧ w'.ownsRow base 74 5 (.slice (some ⟨br, 0, none⟩) n cap) n ((isort evLt l0).flatMap evEnc) ∧ w.grownBy w' (some br)) := by
 refine gw_enter ⟨63, w, (some br), []⟩ Tryz.func120 rfl Tryz.ntmps120 rfl (memR (X := []) h allF_nil allL_nil) ?_
 refine sr_ ?_
 have ht20 : (l0.take 20).length = 20 := by rw [List.length_take]; omega
 have hd20 : (l0.drop 20).length = n - 20 := by rw [List.length_drop]; omega
 have hi20 : (isort evLt (l0.take 20)).length = 20 := by rw [isort_len]; exact ht20
 have hid : (isort evLt (l0.drop 20)).length = n - 20 := by rw [isort_len]; exact hd20
 have hk0 : ∀ wx, (RowK base 74 5 n cap br ((l0).flatMap evEnc)) wx → (RowK base 74 5 n cap br ((([] ++ (l0.take 20 ++ l0.drop 20))).flatMap evEnc)) wx := fun wx hk => by rw [List.nil_append, List.take_append_drop]; exact hk
 refine sg_ rfl (nn_ (sr_ (mv_ rfl (sg_ rfl (sg_ rfl (nn_ (gw_seq (gw_block ?_))))))))
 refine gw_rounds 3 ?_
 refine gr_next ?_
 refine gw_seq (sr_ (mv_ rfl (mv_ rfl (wl_ov (ov_leq rfl rfl) rfl (nn_ ?_)))))
 refine gw_set 13 (v' := .bool true) rfl (congrArg Value.bool (decide_eq_true (by omega))) ?_
 refine ct_ rfl (gw_skip (nx_then (gw_block (sr_ (mv_ rfl (mv_ rfl (mv_ rfl (mv_ rfl ?_))))))))
 refine wl_callK (xs' := ((isort evLt (l0.take 20)) ++ (l0.drop 20)).flatMap evEnc) rfl rfl rfl cb185 rfl rfl (fun wx hm => (by have h := insR_bt [] (l0.take 20) (l0.drop 20) br n cap base 0 20 wx (hk0 wx hm.k) rfl (by rw [ht20]) (by rw [hd20]; omega) (by omega); rw [List.nil_append] at h; exact h)) ?_
 refine nn_ (sr_ (mv_ rfl (sg_ rfl (nn_ (gw_region (mv_ rfl (mv_ rfl (ad_ rfl rfl ?_))))))))
 refine wl_set 22 (v' := .int .i64 40) rfl rfl ?_
 refine sg_ rfl (wl_nil (nx_blk_nrm ?_))
 refine nx_next ?_
 refine gr_next ?_
 refine gw_seq (sr_ (mv_ rfl (mv_ rfl (wl_ov (ov_leq rfl rfl) rfl (nn_ ?_)))))
 refine gw_set 13 (v' := .bool false) rfl (congrArg Value.bool (decide_eq_false (by omega))) ?_
 refine cf_ rfl ?_
 refine gw_exit ?_
 refine nx_then_exit (nx_then_exit ?_)
 refine nx_blk_here ?_
 refine nx_then (sr_ (mv_ rfl (mv_ rfl (mv_ rfl (mv_ rfl ?_)))))
 refine wl_callK (xs' := ((isort evLt (l0.take 20)) ++ isort evLt (l0.drop 20)).flatMap evEnc) rfl rfl rfl cb185 rfl rfl (fun wx hm => (by have h := insR_bt (isort evLt (l0.take 20)) (l0.drop 20) [] br n cap base 20 n wx ((by rw [List.append_nil]; exact hm.k)) hi20 (by rw [hd20]; omega) (by rw [List.length_nil]; omega) (by omega); rw [List.append_nil] at h; exact h)) ?_
 refine nn_ (gw_block ?_)
 refine gw_rounds 3 ?_
 refine gr_next ?_
 refine gw_seq (sr_ (mv_ rfl (mv_ rfl (wl_ov (ov_lss rfl rfl) rfl (nn_ ?_)))))
 refine gw_set 30 (v' := .bool true) rfl (congrArg Value.bool (decide_eq_true (by omega))) ?_
 refine ct_ rfl (gw_skip (nx_then (gw_block (sr_ (mv_ rfl ?_)))))
 refine wl_ov (ov_mul rfl rfl (by omega) (by omega)) rfl ?_
 refine wl_set 32 (v' := .int .i64 40) rfl rfl ?_
 refine sg_ rfl (sg_ rfl (nn_ (gw_seq (gw_block ?_))))
 refine gw_rounds 3 ?_
 refine gr_next ?_
 refine gw_seq (sr_ (mv_ rfl (mv_ rfl (wl_ov (ov_leq rfl rfl) rfl (nn_ ?_)))))
 refine gw_set 35 (v' := .bool false) rfl (congrArg Value.bool (decide_eq_false (by omega))) ?_
 refine cf_ rfl ?_
 refine gw_exit ?_
 refine nx_then_exit (nx_then_exit ?_)
 refine nx_blk_here ?_
 refine nx_then (gw_seq (sr_ (mv_ rfl (mv_ rfl (ad_ rfl rfl ?_)))))
 refine wl_set 51 (v' := .int .i64 20) rfl rfl ?_
 refine sg_ rfl (nn_ (sr_ (mv_ rfl (mv_ rfl (wl_ov (ov_lss rfl rfl) rfl (nn_ ?_))))))
 refine gw_set 54 (v' := .bool true) rfl (congrArg Value.bool (decide_eq_true (by omega))) ?_
 refine ct_ rfl (gw_region (mv_ rfl (mv_ rfl (mv_ rfl (mv_ rfl (mv_ rfl ?_))))))
 have hL2 : ((isort evLt (l0.take 20)) ++ isort evLt (l0.drop 20)).length = n := by rw [List.length_append, hi20, hid]; omega
 have hA : partL ((isort evLt (l0.take 20)) ++ isort evLt (l0.drop 20)) 0 20 = (isort evLt (l0.take 20)) := by unfold partL; rw [List.drop_zero, List.take_append_of_le_length (by omega), List.take_of_length_le (by omega)]
 have hB : partL ((isort evLt (l0.take 20)) ++ isort evLt (l0.drop 20)) 20 n = isort evLt (l0.drop 20) := by unfold partL; rw [List.take_of_length_le (by omega), List.drop_append_of_le_length (by omega), List.drop_of_length_le (by omega), List.nil_append]
 refine wl_callG (γ := List Ev) (val := fun _ => .tuple #[]) (φ := fun R => SymOk evLt ((isort evLt (l0.take 20)) ++ isort evLt (l0.drop 20)) R 0 n) (K' := fun R => RowK base 74 5 n cap br ((R).flatMap evEnc)) (L' := fun _ => []) (O' := fun _ => []) (X' := fun _ => []) rfl cb186 rfl rfl (fun wx hm => (sym_bt br n cap base _ 0 20 n rfl ((isort evLt (l0.take 20)) ++ isort evLt (l0.drop 20)) wx hm.k hL2 hn (by omega) (by omega) (by omega) (by rw [hA]; exact isort_srt _) (by rw [show partL ((isort evLt (l0.take 20)) ++ isort evLt (l0.drop 20)) 20 n = isort evLt (l0.drop 20) from hB]; exact isort_srt _)).mono fun _ _ ⟨R_, h1, he, ho, hg⟩ => ⟨R_, he, h1, hm.turned rfl rfl ho hg⟩) ?_
 intro R hR
 refine nn_ (gw_region (mv_ rfl ?_))
 refine wl_ov (ov_mul rfl rfl (by omega) (by omega)) rfl ?_
 refine wl_set 62 (v' := .int .i64 40) rfl rfl ?_
 refine sg_ rfl (wl_nil (nx_blk_nrm ?_))
 refine nx_next ?_
 refine gr_next ?_
 refine gw_seq (sr_ (mv_ rfl (mv_ rfl (wl_ov (ov_lss rfl rfl) rfl (nn_ ?_)))))
 refine gw_set 30 (v' := .bool false) rfl (congrArg Value.bool (decide_eq_false (by omega))) ?_
 refine cf_ rfl ?_
 refine gw_exit ?_
 refine nx_then_exit (nx_then_exit ?_)
 refine nx_blk_here ?_
 have hR0 : R.length = n := by rw [hR.len]; exact hL2
 have hRp : partL R 0 n = R := by unfold partL; rw [List.drop_zero, List.take_of_length_le (by omega)]
 have hLp : partL ((isort evLt (l0.take 20)) ++ isort evLt (l0.drop 20)) 0 n = (isort evLt (l0.take 20)) ++ isort evLt (l0.drop 20) := by unfold partL; rw [List.drop_zero, List.take_of_length_le (by omega)]
 have hs := hR.srt
 have hpm := hR.perm
 rw [hRp] at hs hpm
 rw [hLp] at hpm
 have hp0 : ((isort evLt (l0.take 20)) ++ isort evLt (l0.drop 20)).Perm l0 := by
  have h5 := (isort_perm evLt (l0.take 20)).append (isort_perm evLt (l0.drop 20))
  rw [List.take_append_drop] at h5
  exact h5
 have hp1 : R.Perm l0 := hpm.trans hp0
 have hf : R = isort evLt l0 := srt_eq hs (isort_srt l0) (hp1.trans (isort_perm evLt l0).symm) fun x hx y hy => ht x (hp1.mem_iff.1 hx) y (hp1.mem_iff.1 hy)
 refine nx_ret0 rfl fun wx hm => ?_
 rw [← hf]
 exact ⟨rfl, fin_row hm.k hm.g⟩
theorem stbC_bt (l0 : List Ev) (br n cap base : Nat) (w : World) (h : w.ownsRow base 74 5 (.slice (some ⟨br, 0, none⟩) n cap) n (l0.flatMap evEnc)) (hl0 : l0.length = n) (hn : n ≤ 1000000) (hn2 : n = 40) (ht : TieEq l0) :
  Calls Tryz.prog 120 #[.slice (some ⟨br, 0, none⟩) n cap, .int .i64 ((n : Nat) : Int), .func (.func 79) #[] #[]] w (fun e w' => e = .returned (.tuple #[]) ∧ w'.ownsRow base 74 5 (.slice (some ⟨br, 0, none⟩) n cap) n ((isort evLt l0).flatMap evEnc) ∧ w.grownBy w' (some br)) := by
 refine gw_enter ⟨63, w, (some br), []⟩ Tryz.func120 rfl Tryz.ntmps120 rfl (memR (X := []) h allF_nil allL_nil) ?_
 refine sr_ ?_
 have ht20 : (l0.take 20).length = 20 := by rw [List.length_take]; omega
 have hd20 : (l0.drop 20).length = n - 20 := by rw [List.length_drop]; omega
 have hi20 : (isort evLt (l0.take 20)).length = 20 := by rw [isort_len]; exact ht20
 have hid : (isort evLt (l0.drop 20)).length = n - 20 := by rw [isort_len]; exact hd20
 have hk0 : ∀ wx, (RowK base 74 5 n cap br ((l0).flatMap evEnc)) wx → (RowK base 74 5 n cap br ((([] ++ (l0.take 20 ++ l0.drop 20))).flatMap evEnc)) wx := fun wx hk => by rw [List.nil_append, List.take_append_drop]; exact hk
 refine sg_ rfl (nn_ (sr_ (mv_ rfl (sg_ rfl (sg_ rfl (nn_ (gw_seq (gw_block ?_))))))))
 refine gw_rounds 3 ?_
 refine gr_next ?_
 refine gw_seq (sr_ (mv_ rfl (mv_ rfl (wl_ov (ov_leq rfl rfl) rfl (nn_ ?_)))))
 refine gw_set 13 (v' := .bool true) rfl (congrArg Value.bool (decide_eq_true (by omega))) ?_
 refine ct_ rfl (gw_skip (nx_then (gw_block (sr_ (mv_ rfl (mv_ rfl (mv_ rfl (mv_ rfl ?_))))))))
 refine wl_callK (xs' := ((isort evLt (l0.take 20)) ++ (l0.drop 20)).flatMap evEnc) rfl rfl rfl cb185 rfl rfl (fun wx hm => (by have h := insR_bt [] (l0.take 20) (l0.drop 20) br n cap base 0 20 wx (hk0 wx hm.k) rfl (by rw [ht20]) (by rw [hd20]; omega) (by omega); rw [List.nil_append] at h; exact h)) ?_
 refine nn_ (sr_ (mv_ rfl (sg_ rfl (nn_ (gw_region (mv_ rfl (mv_ rfl (ad_ rfl rfl ?_))))))))
 refine wl_set 22 (v' := .int .i64 40) rfl rfl ?_
 refine sg_ rfl (wl_nil (nx_blk_nrm ?_))
 refine nx_next ?_
 refine gr_next ?_
 refine gw_seq (sr_ (mv_ rfl (mv_ rfl (wl_ov (ov_leq rfl rfl) rfl (nn_ ?_)))))
 refine gw_set 13 (v' := .bool true) rfl (congrArg Value.bool (decide_eq_true (by omega))) ?_
 refine ct_ rfl (gw_skip (nx_then (gw_block (sr_ (mv_ rfl (mv_ rfl (mv_ rfl (mv_ rfl ?_))))))))
 refine wl_callK (xs' := ((isort evLt (l0.take 20)) ++ isort evLt (l0.drop 20)).flatMap evEnc) rfl rfl rfl cb185 rfl rfl (fun wx hm => (by have h := insR_bt (isort evLt (l0.take 20)) (l0.drop 20) [] br n cap base 20 40 wx ((by rw [List.append_nil]; exact hm.k)) hi20 (by rw [hd20]; omega) (by rw [List.length_nil]; omega) (by omega); rw [List.append_nil] at h; exact h)) ?_
 refine nn_ (sr_ (mv_ rfl (sg_ rfl (nn_ (gw_region (mv_ rfl (mv_ rfl (ad_ rfl rfl ?_))))))))
 refine wl_set 22 (v' := .int .i64 60) rfl rfl ?_
 refine sg_ rfl (wl_nil (nx_blk_nrm ?_))
 refine nx_next ?_
 refine gr_next ?_
 refine gw_seq (sr_ (mv_ rfl (mv_ rfl (wl_ov (ov_leq rfl rfl) rfl (nn_ ?_)))))
 refine gw_set 13 (v' := .bool false) rfl (congrArg Value.bool (decide_eq_false (by omega))) ?_
 refine cf_ rfl ?_
 refine gw_exit ?_
 refine nx_then_exit (nx_then_exit ?_)
 refine nx_blk_here ?_
 refine nx_then (sr_ (mv_ rfl (mv_ rfl (mv_ rfl (mv_ rfl ?_)))))
 refine wl_callK (xs' := ((isort evLt (l0.take 20)) ++ isort evLt (l0.drop 20)).flatMap evEnc) rfl rfl rfl cb185 rfl rfl (fun wx hm => (by have h := insR_bt ((isort evLt (l0.take 20)) ++ isort evLt (l0.drop 20)) [] [] br n cap base 40 n wx ((by rw [List.append_nil, List.append_nil]; exact hm.k)) (by rw [List.length_append, hi20, hid]; omega) (by rw [List.length_nil]; omega) (by rw [List.length_nil]; omega) (by omega); rw [show ((isort evLt (l0.take 20)) ++ isort evLt (l0.drop 20)) ++ (isort evLt [] ++ []) = (isort evLt (l0.take 20)) ++ isort evLt (l0.drop 20) from by rw [show isort evLt ([] : List Ev) = [] from rfl, List.append_nil, List.append_nil]] at h; exact h)) ?_
 refine nn_ (gw_block ?_)
 refine gw_rounds 3 ?_
 refine gr_next ?_
 refine gw_seq (sr_ (mv_ rfl (mv_ rfl (wl_ov (ov_lss rfl rfl) rfl (nn_ ?_)))))
 refine gw_set 30 (v' := .bool true) rfl (congrArg Value.bool (decide_eq_true (by omega))) ?_
 refine ct_ rfl (gw_skip (nx_then (gw_block (sr_ (mv_ rfl ?_)))))
 refine wl_ov (ov_mul rfl rfl (by omega) (by omega)) rfl ?_
 refine wl_set 32 (v' := .int .i64 40) rfl rfl ?_
 refine sg_ rfl (sg_ rfl (nn_ (gw_seq (gw_block ?_))))
 refine gw_rounds 3 ?_
 refine gr_next ?_
 refine gw_seq (sr_ (mv_ rfl (mv_ rfl (wl_ov (ov_leq rfl rfl) rfl (nn_ ?_)))))
 refine gw_set 35 (v' := .bool true) rfl (congrArg Value.bool (decide_eq_true (by omega))) ?_
 refine ct_ rfl (gw_skip (nx_then (gw_block (sr_ (mv_ rfl (mv_ rfl (mv_ rfl (mv_ rfl (ad_ rfl rfl ?_)))))))))
 refine wl_set 40 (v' := .int .i64 20) rfl rfl ?_
 refine mv_ rfl (mv_ rfl ?_)
 have hL2 : ((isort evLt (l0.take 20)) ++ isort evLt (l0.drop 20)).length = n := by rw [List.length_append, hi20, hid]; omega
 have hA : partL ((isort evLt (l0.take 20)) ++ isort evLt (l0.drop 20)) 0 20 = (isort evLt (l0.take 20)) := by unfold partL; rw [List.drop_zero, List.take_append_of_le_length (by omega), List.take_of_length_le (by omega)]
 have hB : partL ((isort evLt (l0.take 20)) ++ isort evLt (l0.drop 20)) 20 n = isort evLt (l0.drop 20) := by unfold partL; rw [List.take_of_length_le (by omega), List.drop_append_of_le_length (by omega), List.drop_of_length_le (by omega), List.nil_append]
 refine wl_callG (γ := List Ev) (val := fun _ => .tuple #[]) (φ := fun R => SymOk evLt ((isort evLt (l0.take 20)) ++ isort evLt (l0.drop 20)) R 0 40) (K' := fun R => RowK base 74 5 n cap br ((R).flatMap evEnc)) (L' := fun _ => []) (O' := fun _ => []) (X' := fun _ => []) rfl cb186 rfl rfl (fun wx hm => (sym_bt br n cap base _ 0 20 40 rfl ((isort evLt (l0.take 20)) ++ isort evLt (l0.drop 20)) wx hm.k hL2 hn (by omega) (by omega) (by omega) (by rw [hA]; exact isort_srt _) (by rw [show partL ((isort evLt (l0.take 20)) ++ isort evLt (l0.drop 20)) 20 40 = isort evLt (l0.drop 20) from (by have h9 := hB; rw [hn2] at h9; exact h9)]; exact isort_srt _)).mono fun _ _ ⟨R_, h1, he, ho, hg⟩ => ⟨R_, he, h1, hm.turned rfl rfl ho hg⟩) ?_
 intro R hR
 refine nn_ (sr_ (mv_ rfl (sg_ rfl (nn_ (gw_region (mv_ rfl (mv_ rfl ?_)))))))
 refine wl_ov (ov_mul rfl rfl (by omega) (by omega)) rfl ?_
 refine wl_set 47 (v' := .int .i64 40) rfl rfl ?_
 refine ad_ rfl rfl ?_
 refine wl_set 48 (v' := .int .i64 80) rfl rfl ?_
 refine sg_ rfl (wl_nil (nx_blk_nrm ?_))
 refine nx_next ?_
 refine gr_next ?_
 refine gw_seq (sr_ (mv_ rfl (mv_ rfl (wl_ov (ov_leq rfl rfl) rfl (nn_ ?_)))))
 refine gw_set 35 (v' := .bool false) rfl (congrArg Value.bool (decide_eq_false (by omega))) ?_
 refine cf_ rfl ?_
 refine gw_exit ?_
 refine nx_then_exit (nx_then_exit ?_)
 refine nx_blk_here ?_
 refine nx_then (gw_seq (sr_ (mv_ rfl (mv_ rfl (ad_ rfl rfl ?_)))))
 refine wl_set 51 (v' := .int .i64 60) rfl rfl ?_
 refine sg_ rfl (nn_ (sr_ (mv_ rfl (mv_ rfl (wl_ov (ov_lss rfl rfl) rfl (nn_ ?_))))))
 refine gw_set 54 (v' := .bool false) rfl (congrArg Value.bool (decide_eq_false (by omega))) ?_
 refine cf_ rfl (gw_skip (nx_then (gw_region (mv_ rfl ?_))))
 refine wl_ov (ov_mul rfl rfl (by omega) (by omega)) rfl ?_
 refine wl_set 62 (v' := .int .i64 40) rfl rfl ?_
 refine sg_ rfl (wl_nil (nx_blk_nrm ?_))
 refine nx_next ?_
 refine gr_next ?_
 refine gw_seq (sr_ (mv_ rfl (mv_ rfl (wl_ov (ov_lss rfl rfl) rfl (nn_ ?_)))))
 refine gw_set 30 (v' := .bool false) rfl (congrArg Value.bool (decide_eq_false (by omega))) ?_
 refine cf_ rfl ?_
 refine gw_exit ?_
 refine nx_then_exit (nx_then_exit ?_)
 refine nx_blk_here ?_
 have hR0 : R.length = n := by rw [hR.len]; exact hL2
 have hRp : partL R 0 40 = R := by unfold partL; rw [List.drop_zero, List.take_of_length_le (by omega)]
 have hLp : partL ((isort evLt (l0.take 20)) ++ isort evLt (l0.drop 20)) 0 40 = (isort evLt (l0.take 20)) ++ isort evLt (l0.drop 20) := by unfold partL; rw [List.drop_zero, List.take_of_length_le (by omega)]
 have hs := hR.srt
 have hpm := hR.perm
 rw [hRp] at hs hpm
 rw [hLp] at hpm
 have hp0 : ((isort evLt (l0.take 20)) ++ isort evLt (l0.drop 20)).Perm l0 := by
  have h5 := (isort_perm evLt (l0.take 20)).append (isort_perm evLt (l0.drop 20))
  rw [List.take_append_drop] at h5
  exact h5
 have hp1 : R.Perm l0 := hpm.trans hp0
 have hf : R = isort evLt l0 := srt_eq hs (isort_srt l0) (hp1.trans (isort_perm evLt l0).symm) fun x hx y hy => ht x (hp1.mem_iff.1 hx) y (hp1.mem_iff.1 hy)
 refine nx_ret0 rfl fun wx hm => ?_
 rw [← hf]
 exact ⟨rfl, fin_row hm.k hm.g⟩
theorem stable40_bt (l0 : List Ev) (br n cap base : Nat) (w : World) (h : w.ownsRow base 74 5 (.slice (some ⟨br, 0, none⟩) n cap) n (l0.flatMap evEnc)) (hl0 : l0.length = n) (hn : n ≤ 40) (ht : 20 ≤ n → TieEq l0) :
  Calls Tryz.prog 48 #[.slice (some ⟨br, 0, none⟩) n cap, .func (.func 79) #[] #[]] w (fun e w' => e = .returned (.tuple #[]) ∧ w'.ownsRow base 74 5 (.slice (some ⟨br, 0, none⟩) n cap) n ((isort evLt l0).flatMap evEnc) ∧ w.grownBy w' (some br)) := by
 refine gw_enter ⟨9, w, (some br), []⟩ Tryz.func48 rfl Tryz.ntmps48 rfl (memR (X := []) h allF_nil allL_nil) ?_
 refine gw_region (mv_ rfl (mv_ rfl (wl_ov (ov_len es47 rfl) rfl (mv_ rfl ?_))))
 refine wl_callK rfl rfl rfl cb120 rfl rfl (fun wx hm => (by
  rcases (show n ≤ 19 ∨ n = 20 ∨ (20 < n ∧ n < 40) ∨ n = 40 by omega) with h9 | h9 | h9 | h9
  ·exact stb_bt l0 br n cap base wx hm.k hl0 h9
  ·exact stbA_bt l0 br n cap base wx hm.k hl0 (by omega) h9
  ·exact stbB_bt l0 br n cap base wx hm.k hl0 (by omega) h9 (ht (by omega))
  exact stbC_bt l0 br n cap base wx hm.k hl0 (by omega) h9 (ht (by omega)))) ?_
 refine wl_nil ?_
 refine nx_ret0 rfl fun wx hm => ?_
 exact ⟨rfl, fin_row hm.k hm.g⟩
end Go.Proofs.YtiendebcdicjnaaGreatDoor
namespace Go.Proofs.YtiendebcdicjnaaGreatDoor
open Go.RowKit
theorem merge40_any (sl : List St) (cl : List Cs) (vl : List Vh) (pl : List Pl) (sA cA vA pA : Option Addr) (sn sc cn cc vn vc pn pc : Nat) (l1 l2 : List Ev) (A1 A2 : Option Addr) (n1 c1 n2 c2 : Nat) (w : World) (hs : SlT stEnc 15 105 w sA sn sl) (hc : SlT csEnc 2 90 w cA cn cl) (hv : SlT vhEnc 2 57 w vA vn vl) (hp : SlT plEnc 3 151 w pA pn pl) (hsok : ∀ x ∈ sl, StOk x) (hcok : ∀ x ∈ cl, CsOk x) (hvok : ∀ x ∈ vl, VhOk x) (hpok : ∀ x ∈ pl, PlOk x) (hsn : sn ≤ 1000000) (hcn : cn ≤ 1000000) (hvn : vn ≤ 1000000) (hpn : pn ≤ 1000000) (h1 : SlT evEnc 5 74 w A1 n1 l1) (h2 : SlT evEnc 5 74 w A2 n2 l2) (hs1 : ShapeA A1 n1 c1) (hs2 : ShapeA A2 n2 c2) (hk1 : ∀ x ∈ l1, EvOk x) (hk2 : ∀ x ∈ l2, EvOk x) (hn : n1 + n2 ≤ 40) (ht : TieEq (l1 ++ l2)) :
 Calls Tryz.prog 24 #[.agg #[.slice sA sn sc, .slice cA cn cc, .slice vA vn vc, .slice pA pn pc], .slice A1 n1 c1, .slice A2 n2 c2] w (fun e w' => ∃ (A : Option Addr) (n c : Nat), e = .returned (.tuple #[.slice A n c, .int .i64 (mgE sl cl vl pl l1 l2)]) ∧ (mgE sl cl vl pl l1 l2 = 0 → SlT evEnc 5 74 w' A n (mergeM l1 l2) ∧ n ≤ 40) ∧ (mgE sl cl vl pl l1 l2 ≠ 0 → A = none ∧ n = 0 ∧ c = 0) ∧ w.grownBy w' none) := by
 refine gw_enter ⟨57, w, none, []⟩ Tryz.func24 rfl Tryz.ntmps24 rfl (mem0 (X := [SlOld stEnc 15 105 w.heap.size none sA sn sl, SlOld csEnc 2 90 w.heap.size none cA cn cl, SlOld vhEnc 2 57 w.heap.size none vA vn vl, SlOld plEnc 3 151 w.heap.size none pA pn pl, SlOld evEnc 5 74 w.heap.size none A1 n1 l1, SlOld evEnc 5 74 w.heap.size none A2 n2 l2]) (allF_cons hs.old (allF_cons hc.old (allF_cons hv.old (allF_cons hp.old (allF_cons h1.old (allF_cons h2.old allF_nil)))))) (allL_cons SlOld.lasts (allL_cons SlOld.lasts (allL_cons SlOld.lasts (allL_cons SlOld.lasts (allL_cons SlOld.lasts (allL_cons SlOld.lasts allL_nil))))))) ?_
 refine sr_ ?_
 have hl1 := h1.len
 have hl2 := h2.len
 obtain ⟨FE, hFE⟩ : ∃ z, z = fleetE sl cl vl pl := ⟨_, rfl⟩
 obtain ⟨LA, hLA⟩ : ∃ z, z = logE sl vl l1 := ⟨_, rfl⟩
 obtain ⟨LB, hLB⟩ : ∃ z, z = logE sl vl l2 := ⟨_, rfl⟩
 obtain ⟨TE, hTE⟩ : ∃ z, z = mgE sl cl vl pl l1 l2 := ⟨_, rfl⟩
 rw [← hTE]
 have hT0 : TE = firstE [FE, LA, LB, mergeE (mergeM l1 l2)] := by rw [hTE, hFE, hLA, hLB]; rfl
 refine wl_box rfl rfl rfl fun g1 => ?_
 refine sg_ rfl (sg_ rfl (nn_ (gw_seq (sr_ ?_))))
 refine wl_ov (ov_loads rz31 rfl (fun _ hm => hm.blkI 0 rfl) rfl rfl) rfl ?_
 refine wl_callv (v := .int .i64 FE) rfl cb72 rfl rfl (fun wx hm => (by rw [hFE]; exact checkFleet_any sl cl vl pl sA cA vA pA sn sc cn cc vn vc pn pc wx (hm.fact 0 rfl).1 (hm.fact 1 rfl).1 (hm.fact 2 rfl).1 (hm.fact 3 rfl).1 hsok hcok hvok hpok hsn hcn hvn hpn)) ?_
 refine sg_ rfl (nn_ (sr_ (mv_ rfl (wl_ov (ov_neq rfl rfl) rfl (nn_ ?_)))))
 refine gw_cond rfl (fun hh => ?_) (fun hh => ?_)
 ·have hc1 : ¬ (FE = 0) := by simpa using hh
  clear hh
  refine sr_ ?_
  have h2 : FE ≠ 0 := by simpa using hc1
  have h3 : TE = FE := by rw [hT0]; exact fe_hd h2
  refine mv_ rfl (sg_ rfl (sg_ rfl (nn_ ?_)))
  refine gw_ret ?_
  refine nx_then_ret ?_
  refine nx_ret2 rfl rfl rfl fun wx hm => ?_
  exact ⟨none, 0, 0, by rw [h3], fun h => absurd h (by rw [h3]; exact h2), fun _ => ⟨rfl, rfl, rfl⟩, hm.g⟩
 have hc1 : FE = 0 := by simpa using hh
 clear hh
 refine gw_skip (nx_then (gw_seq (gw_seq ?_)))
 have h20 : FE = 0 := by simpa using hc1
 have hrise : Rise vl := fleet_rise (hFE.symm.trans h20)
 have hT1 : TE = firstE [LA, LB, mergeE (mergeM l1 l2)] := by rw [hT0, h20]; exact fe_tl
 refine gd (fun wz => Blk wz g1 31 [.slice sA sn sc, .slice cA cn cc, .slice vA vn vc, .slice pA pn pc] ∧ (SlOld stEnc 15 105 w.heap.size none sA sn sl) wz ∧ (SlOld csEnc 2 90 w.heap.size none cA cn cl) wz ∧ (SlOld vhEnc 2 57 w.heap.size none vA vn vl) wz ∧ (SlOld plEnc 3 151 w.heap.size none pA pn pl) wz ∧ (SlOld evEnc 5 74 w.heap.size none A1 n1 l1) wz ∧ (SlOld evEnc 5 74 w.heap.size none A2 n2 l2) wz ∧ True) mixed (fun _ hm => ⟨hm.bl 0, hm.fa 0, hm.fa 1, hm.fa 2, hm.fa 3, hm.fa 4, hm.fa 5, trivial⟩) fun z => ?_
 refine wt 0 9 1 rfl z (ov_loads rz31 rfl (fun _ hm => hm.1) rfl rfl) ?_
 refine wt 1 9 3 rfl z (ov_move rfl) ?_
 refine wt 3 9 11 rfl z (ov_loads rz31 rfl (fun _ hm => hm.1) rfl rfl) ?_
 refine wt 4 9 27 rfl z (ov_move rfl) ?_
 refine wa1 2 rfl ?_
 refine wl_callv (v := .int .i64 LA) rfl cb73 rfl rfl (fun wx hm => (by rw [hLA]; exact check_any sl vl sA cA vA pA sn sc cn cc vn vc pn pc l1 A1 n1 c1 wx (hm.fact 0 rfl).1 (hm.fact 2 rfl).1 hsok hsn hvn (hm.fact 4 rfl).1 hk1 (by omega) hrise)) ?_
 refine wl_nil ?_
 refine nw 9 31 (fun _ hm => ⟨hm.bl 0, hm.fa 0, hm.fa 1, hm.fa 2, hm.fa 3, hm.fa 4, hm.fa 5, trivial⟩) fun z => ?_
 refine wa1 5 rfl ?_
 refine wl_callv (v := .int .i64 LB) rfl cb73 rfl rfl (fun wx hm => (by rw [hLB]; exact check_any sl vl sA cA vA pA sn sc cn cc vn vc pn pc l2 A2 n2 c2 wx (hm.fact 0 rfl).1 (hm.fact 2 rfl).1 hsok hsn hvn (hm.fact 5 rfl).1 hk2 (by omega) hrise)) ?_
 refine wl_nil ?_
 refine nw 9 63 (fun _ hm => ⟨hm.bl 0, hm.fa 0, hm.fa 1, hm.fa 2, hm.fa 3, hm.fa 4, hm.fa 5, trivial⟩) fun z => ?_
 refine wa1 6 rfl ?_
 refine wl_buildSlice (e := 48) (cs := [.int .i64 LA, .int .i64 LB]) rfl (by kernel_rfl) rfl fun g2 => ?_
 refine wl_nil ?_
 refine nw 9 127 (fun _ hm => ⟨hm.bl 1, hm.fa 0, hm.fa 1, hm.fa 2, hm.fa 3, hm.fa 4, hm.fa 5, trivial⟩) fun z => ?_
 refine wa1 7 rfl ?_
 refine wl_callw rfl cb41 rfl rfl (fun wx hm => (first_any [LA, LB] _ _ _ wx (hm.blkI 0 rfl) (by simp))) ?_
 refine wl_nil ?_
 refine nw 9 255 (fun _ hm => ⟨hm.bl 1, hm.fa 0, hm.fa 1, hm.fa 2, hm.fa 3, hm.fa 4, hm.fa 5, trivial⟩) fun z => ?_
 refine wt 8 9 511 rfl z (ov_assign rfl) ?_
 refine wa_done (by kernel_rfl) ?_
 refine nx_then (sr_ (mv_ rfl (wl_ov (ov_neq rfl rfl) rfl (nn_ ?_))))
 refine gw_cond rfl (fun hh => ?_) (fun hh => ?_)
 ·have hc3 : ¬ (firstE [LA, LB] = 0) := by simpa using hh
  clear hh
  refine sr_ ?_
  have h4 : firstE [LA, LB] ≠ 0 := by simpa using hc3
  have h5 : TE = firstE [LA, LB] := by
   rw [hT1]
   by_cases hA0 : LA = 0
   ·simp only [hA0, fe_tl] at h4 ⊢
    by_cases hB0 : LB = 0
    ·rw [hB0] at h4; exact absurd rfl h4
    rw [fe_hd hB0, fe_hd hB0]
   rw [fe_hd hA0, fe_hd hA0]
  refine mv_ rfl (sg_ rfl (sg_ rfl (nn_ ?_)))
  refine gw_ret ?_
  refine nx_then_ret ?_
  refine nx_ret2 rfl rfl rfl fun wx hm => ?_
  exact ⟨none, 0, 0, by rw [h5], fun h => absurd h (by rw [h5]; exact h4), fun _ => ⟨rfl, rfl, rfl⟩, hm.g⟩
 have hc3 : firstE [LA, LB] = 0 := by simpa using hh
 clear hh
 refine gw_skip (nx_then (sr_ ?_))
 have h4 : firstE [LA, LB] = 0 := by simpa using hc3
 have hA0 : LA = 0 := fe_all h4 _ (by simp)
 have hB0 : LB = 0 := fe_all h4 _ (by simp)
 have hME : TE = mergeE (mergeM l1 l2) := by
  rw [hT1, hA0, hB0, fe_tl, fe_tl]
  by_cases h : mergeE (mergeM l1 l2) = 0
  ·rw [h]; rfl
  exact fe_hd h
 refine mv_ rfl (mv_ rfl ?_)
 refine wl_buildSlice (e := 47) (cs := [.slice A1 n1 c1, .slice A2 n2 c2]) rfl (by kernel_rfl) rfl fun g3 => ?_
 refine wl_callgo (γ := Option Addr × Nat × Nat) (val := (fun g => .slice g.1 g.2.1 g.2.2)) (φ := (fun g => g.2.1 = n1 + n2)) (fun g => ⟨.slice g.1 g.2.1 g.2.2, 74, 5, g.2.1, (l1 ++ l2).flatMap evEnc⟩) rfl cb78 rfl rfl (fun wx hm => (concat_any l1 l2 A1 A2 n1 c1 n2 c2 _ wx (hm.blkI 0 rfl) (hm.fact 4 rfl).1 (hm.fact 5 rfl).1 hs1 hs2 (by omega) (by omega)).mono fun _ _ ⟨A, n, c, he, ho, hn, hg⟩ => ⟨(A, n, c), he, hn, ho, hg⟩) ?_
 rintro ⟨A3, n3, c3⟩ hn3
 dsimp only at hn3 ⊢
 refine sg_ rfl (nn_ (sr_ (mv_ rfl ?_)))
 by_cases h30 : n3 = 0
 ·subst h30
  have hm0 : mergeM l1 l2 = [] := by
   have : (l1 ++ l2).length = 0 := by rw [List.length_append]; omega
   rw [mergeM, List.length_eq_zero_iff.1 this]; rfl
  refine wl_callv rfl cb48 rfl rfl (fun wx hm => (stable0_bt A3 c3 wx)) ?_
  refine nn_ (sr_ (mv_ rfl ?_))
  refine wl_callv rfl cb80 rfl rfl (fun wx hm => (compact0_any A3 c3 wx)) ?_
  have hE0 : TE = 0 := by rw [hME, hm0]; rfl
  refine sg_ rfl (nn_ (gw_seq (sr_ (sg_ rfl (nn_ (gw_block ?_))))))
  refine gw_rounds 1 ?_
  refine gr_next ?_
  refine gw_seq (sr_ (mv_ rfl (mv_ rfl (wl_ov (ov_len es47 rfl) rfl ?_))))
  refine wl_set 38 (v' := .int .i64 0) rfl rfl ?_
  refine wl_ov (ov_lss rfl rfl) rfl ?_
  refine wl_set 39 (v' := .bool false) rfl (congrArg Value.bool (by decide)) ?_
  refine nn_ (cf_ rfl ?_)
  refine gw_exit ?_
  refine nx_then_exit (nx_then_exit ?_)
  refine nx_blk_here ?_
  refine nx_then (gw_seq (sr_ (mv_ rfl (wl_ov (ov_len es47 rfl) rfl ?_))))
  refine wl_set 54 (v' := .int .i64 0) rfl rfl ?_
  refine wl_ov (ov_gtr rfl rfl) rfl ?_
  refine wl_set 55 (v' := .bool false) rfl (congrArg Value.bool (by decide)) ?_
  refine nn_ (cf_ rfl (gw_skip (nx_then (sr_ (mv_ rfl (sg_ rfl (sg_ rfl (nn_ ?_))))))))
  refine gw_ret ?_
  refine nx_ret2 rfl rfl rfl fun wx hm => ?_
  exact ⟨A3, 0, c3, by rw [hE0], fun _ => ⟨by rw [hm0]; exact SlT.nil_ _ _, by omega⟩, fun h => absurd hE0 h, hm.g⟩
 refine wl_look (R := ∃ g, A3 = some ⟨g, 0, none⟩) (fun wx hm => own_addr (hm.ownI 0 rfl) (by omega)) ?_
 rintro ⟨g5, rfl⟩
 have hll : (l1 ++ l2).length = n3 := by rw [List.length_append]; omega
 refine wl_callr (v := .tuple #[]) (xs' := (isort evLt (l1 ++ l2)).flatMap evEnc) 0 rfl rfl rfl cb48 rfl rfl (fun wx hm => (stable40_bt (l1 ++ l2) g5 n3 c3 _ wx (hm.ownI 0 rfl) hll (by omega) (fun _ => ht))) ?_
 refine nn_ (sr_ (mv_ rfl ?_))
 refine wl_callrn (γ := Nat × List Ev) (val := fun g => .slice (some ⟨g5, 0, none⟩) g.1 c3) (φ := fun g => g.2 = mergeM l1 l2 ∧ g.2.length = g.1 ∧ g.1 ≤ 40) (n' := fun g => g.1) (xs' := fun g => g.2.flatMap evEnc) 0 rfl rfl rfl cb80 rfl rfl (fun _ => rfl) (fun wx hm => (compact_any (isort evLt (l1 ++ l2)) g5 n3 c3 _ wx (hm.ownI 0 rfl) (by rw [isort_len]; exact hll) (by omega) (own_cap (hm.ownI 0 rfl))).mono fun _ _ ⟨k, ls, he, h1, h2, ho, hg⟩ => ⟨(k, ls), he, ⟨h1, h2, by dsimp only; rw [← h2, h1]; exact Nat.le_trans (compact_len _) (by rw [isort_len]; omega)⟩, ho, hg⟩) ?_
 rintro ⟨k, M⟩ ⟨hM, hMl, hk40⟩
 dsimp only at hM hMl hk40 ⊢
 have hME2 : TE = mergeE M := by rw [hME, hM]
 refine sg_ rfl (nn_ (gw_seq (sr_ (sg_ rfl (nn_ (gw_block ?_))))))
 refine gw_loop (γ := Nat) (fun (i : Nat) => 1 ≤ i ∧ i ≤ k + 1 ∧ adjU M i) (fun (i : Nat) => [(10, .slice (some ⟨g5, 0, none⟩) k c3), (11, .int .i64 ((i : Nat) : Int))]) (fun (i : Nat) => fun _ => True) (fun (i : Nat) => [(g3, 47, [.slice A1 n1 c1, .slice A2 n2 c2]), (g2, 48, [.int .i64 LA, .int .i64 LB]), (g1, 31, [.slice sA sn sc, .slice cA cn cc, .slice vA vn vc, .slice pA pn pc])]) (fun (i : Nat) => [⟨.slice (some ⟨g5, 0, none⟩) k c3, 74, 5, k, M.flatMap evEnc⟩]) (fun (i : Nat) => [SlOld stEnc 15 105 w.heap.size none sA sn sl, SlOld csEnc 2 90 w.heap.size none cA cn cl, SlOld vhEnc 2 57 w.heap.size none vA vn vl, SlOld plEnc 3 151 w.heap.size none pA pn pl, SlOld evEnc 5 74 w.heap.size none A1 n1 l1, SlOld evEnc 5 74 w.heap.size none A2 n2 l2]) (fun (i : Nat) => k + 1 - i) 1 ⟨Nat.le_refl _, by omega, fun j h => by omega⟩ ⟨rfl, rfl, trivial⟩ (fun _ hm => hm.pick [0, 1, 2] [0] [0, 1, 2, 3, 4, 5] rfl rfl) ?_
 intro i hinv
 replace hinv : 1 ≤ i ∧ i ≤ k + 1 ∧ adjU M i := hinv
 refine gw_seq (sr_ ?_)
 obtain ⟨hi1, hi0, hadj⟩ := hinv
 refine mv_ rfl (mv_ rfl (wl_ov (ov_len es47 rfl) rfl (wl_ov (ov_lss rfl rfl) rfl (nn_ ?_))))
 refine gw_cond rfl (fun hh => ?_) (fun hh => ?_)
 ·have hi : ((i : Nat) : Int) < ((k : Nat) : Int) := by simpa using hh
  clear hh
  refine gw_skip (nx_then (gw_seq (gw_block (gw_seq ?_))))
  have hin : i < k := by omega
  have hin1 : i - 1 < k := by omega
  obtain ⟨xx, hx⟩ : ∃ x, M[i]? = some x := ⟨_, List.getElem?_eq_getElem (by omega)⟩
  obtain ⟨e0, e1, e2, e3, e4⟩ := xx
  obtain ⟨yy, hy⟩ : ∃ x, M[i - 1]? = some x := ⟨_, List.getElem?_eq_getElem (by omega)⟩
  obtain ⟨p0, p1, p2, p3, p4⟩ := yy
  refine gd (fun wz => Blk wz g3 47 [.slice A1 n1 c1, .slice A2 n2 c2] ∧ Blk wz g2 48 [.int .i64 LA, .int .i64 LB] ∧ Blk wz g1 31 [.slice sA sn sc, .slice cA cn cc, .slice vA vn vc, .slice pA pn pc] ∧ (SlOld stEnc 15 105 w.heap.size none sA sn sl) wz ∧ (SlOld csEnc 2 90 w.heap.size none cA cn cl) wz ∧ (SlOld vhEnc 2 57 w.heap.size none vA vn vl) wz ∧ (SlOld plEnc 3 151 w.heap.size none pA pn pl) wz ∧ (SlOld evEnc 5 74 w.heap.size none A1 n1 l1) wz ∧ (SlOld evEnc 5 74 w.heap.size none A2 n2 l2) wz ∧ wz.ownsRow w.heap.size 74 5 (.slice (some ⟨g5, 0, none⟩) k c3) k (M.flatMap evEnc) ∧ True) mixed (fun _ hm => ⟨hm.bl 0, hm.bl 1, hm.bl 2, hm.fa 0, hm.fa 1, hm.fa 2, hm.fa 3, hm.fa 4, hm.fa 5, hm.ownI 0 rfl, trivial⟩) fun z => ?_
  refine wt 0 11 1 rfl z (ov_move rfl) ?_
  refine wt 1 11 3 rfl z (ov_move rfl) ?_
  refine wt 2 11 7 rfl z (ov_sub rfl rfl (by omega) (by omega)) ?_
  refine wa_set 44 (v' := .int .i64 (((i - 1) : Nat) : Int)) rfl (congrArg (Value.int .i64) (by omega)) ?_
  refine wt 3 11 15 rfl z (ov_index (j := (i - 1)) es47 rfl rfl (by omega)) ?_
  refine wt 4 11 31 rfl z (ov_elem (vs := [.int .i64 p0, .string p1, .string p2, .int .i64 p3, .string p4]) rz74 rfl (fun _ hm => (SlT.ofOwn ev_len (hm.2.2.2.2.2.2.2.2.2.1) hMl)) hy rfl rfl) ?_
  refine wt 5 11 63 rfl z (ov_move rfl) ?_
  refine wt 6 11 127 rfl z (ov_move rfl) ?_
  refine wt 7 11 255 rfl z (ov_index (j := i) es47 rfl rfl (by omega)) ?_
  refine wt 8 11 511 rfl z (ov_elem (vs := [.int .i64 e0, .string e1, .string e2, .int .i64 e3, .string e4]) rz74 rfl (fun _ hm => (SlT.ofOwn ev_len (hm.2.2.2.2.2.2.2.2.2.1) hMl)) hx rfl rfl) ?_
  refine wa1 9 rfl ?_
  refine wl_callv (v := .int .i64 (evOrd (⟨p0, p1, p2, p3, p4⟩ : Ev) (⟨e0, e1, e2, e3, e4⟩ : Ev))) rfl cb79 rfl rfl (fun wx hm => (byTime_any p0 p1 p2 p3 p4 e0 e1 e2 e3 e4 wx)) ?_
  refine wl_nil ?_
  refine nw 11 1023 (fun _ hm => ⟨hm.bl 0, hm.bl 1, hm.bl 2, hm.fa 0, hm.fa 1, hm.fa 2, hm.fa 3, hm.fa 4, hm.fa 5, hm.ownI 0 rfl, trivial⟩) fun z => ?_
  refine wt 10 11 2047 rfl z (ov_eql rfl rfl) ?_
  refine wa_done (by kernel_rfl) ?_
  refine nx_then ?_
  refine gw_cond rfl (fun hh => ?_) (fun hh => ?_)
  ·have hq : evOrd (⟨p0, p1, p2, p3, p4⟩ : Ev) (⟨e0, e1, e2, e3, e4⟩ : Ev) = 0 := by simpa using hh
   clear hh
   refine sr_ ?_
   have hE13 : TE = 13 := by rw [hME2]; exact merge_bad hy (by rw [show i - 1 + 1 = i by omega]; exact hx) hq
   refine sg_ rfl (sg_ rfl (nn_ ?_))
   refine gw_ret ?_
   refine nx_blk_ret (nx_then_ret (nx_then_ret (nx_blk_ret (nx_then_ret ?_))))
   refine nx_ret2 rfl rfl rfl fun wx hm => ?_
   exact ⟨none, 0, 0, by rw [hE13], fun h => (by rw [hE13] at h; cases h), fun _ => ⟨rfl, rfl, rfl⟩, hm.g⟩
  have hq : ¬ (evOrd (⟨p0, p1, p2, p3, p4⟩ : Ev) (⟨e0, e1, e2, e3, e4⟩ : Ev) = 0) := by simpa using hh
  clear hh
  refine gw_skip (nx_blk_nrm (nx_then (gw_region (mv_ rfl (ad_ rfl rfl (sg_ rfl (wl_nil ?_)))))))
  exact nx_round (i + 1) ⟨by omega, by omega, adj_next hadj hy (by rw [show i - 1 + 1 = i by omega]; exact hx) hq (by omega)⟩ (by omega) ⟨rfl, (some_int (by omega)), trivial⟩ (fun _ hm => hm.pick [0, 1, 2] [0] [0, 1, 2, 3, 4, 5] rfl rfl)
 have hi : ¬ (((i : Nat) : Int) < ((k : Nat) : Int)) := by simpa using hh
 clear hh
 refine gw_exit ?_
 refine nx_then_exit (nx_then_exit ?_)
 refine nx_blk_here ?_
 refine nx_then (gw_seq (sr_ ?_))
 have hE0 : TE = 0 := by rw [hME2]; exact merge_good (adj_all hadj (by omega))
 refine mv_ rfl (wl_ov (ov_len es47 rfl) rfl ?_)
 refine wl_ov (ov_gtr rfl rfl) rfl ?_
 refine wl_set 55 (v' := .bool false) rfl (congrArg Value.bool (decide_eq_false (by omega))) ?_
 refine nn_ (cf_ rfl (gw_skip (nx_then (sr_ (mv_ rfl (sg_ rfl (sg_ rfl (nn_ ?_))))))))
 refine gw_ret ?_
 refine nx_ret2 rfl rfl rfl fun wx hm => ?_
 exact ⟨_, k, c3, by rw [hE0], fun _ => ⟨by rw [← hM]; exact SlT.ofOwn ev_len (hm.ownI 0 rfl) hMl, hk40⟩, fun h => absurd hE0 h, hm.g⟩
end Go.Proofs.YtiendebcdicjnaaGreatDoor
namespace Go.Proofs.YtiendebcdicjnaaGreatDoor
open Go.RowKit
theorem legs_at {fr : Int} {l : List Lg} {k : Nat} {g : Lg} (h : l[k]? = some g) :
    legsE fr l (l.length - k) = if legE fr (prevOf l k) (decide (k + 1 = l.length)) g = 0 then legsE fr l (l.length - (k + 1)) else legE fr (prevOf l k) (decide (k + 1 = l.length)) g := by
  have hk := (List.getElem?_eq_some_iff.1 h).1
  obtain ⟨m, hm⟩ : ∃ m, l.length - k = m + 1 := ⟨l.length - k - 1, by omega⟩
  have hm2 : l.length - (k + 1) = m := by omega
  have hm3 : l.length - (m + 1) = k := by omega
  rw [hm, hm2]
  simp only [legsE, hm3, h]
  have : decide (m = 0) = decide (k + 1 = l.length) := by
    by_cases h : k + 1 = l.length <;> simp [h] <;> omega
  rw [this]
def HrOk (key driver : ByteArray) (l : List Lg) : Prop := key.size ≤ 1000000 ∧ driver.size ≤ 1000000 ∧ ∀ g ∈ l, LgOk g
theorem hireE_stop {key driver : ByteArray} {fr to_ : Int} {l : List Lg} {e : Int} (h : e = firstE [whenE (!keyB key || !keyB driver) 5, timeE fr to_]) (hne : e ≠ 0) : hireE ⟨key, driver, fr, to_, l⟩ = e := by
  unfold hireE
  simp only [firstE] at h ⊢
  split
  · rename_i h1
    rw [if_pos h1] at h
    split
    · rename_i h2
      rw [if_pos h2] at h
      exact absurd h hne
    · rename_i h2
      rw [if_neg h2] at h
      exact h.symm
  · rename_i h1
    rw [if_neg h1] at h
    exact h.symm
theorem firstE_pad (X : Int) : firstE [0, 0, X] = X := by
  show firstE [X] = X
  by_cases h : X = 0
  · rw [h]; rfl
  · simp [firstE, h]
theorem hireE_pass {key driver : ByteArray} {fr to_ : Int} {l : List Lg} (h : 0 = firstE [whenE (!keyB key || !keyB driver) 5, timeE fr to_]) : hireE ⟨key, driver, fr, to_, l⟩ = if l.length = 0 then 3 else if 20 < l.length then 2 else legsE fr l l.length := by
  have := firstE_two h.symm
  unfold hireE
  simp only [this.1, this.2]
  exact firstE_pad _
set_option maxRecDepth 100000 in
set_option maxHeartbeats 4000000 in
theorem hcheck_any (key driver : ByteArray) (fr to_ : Int) (l : List Lg) (A : Option Addr) (n c : Nat) (w : World) (hl : SlT lgEnc 9 68 w A n l) (hok : HrOk key driver l) (hn : n ≤ 1000000) :
    Calls Tryz.prog 47 #[.agg #[.string key, .string driver, .int .i64 fr, .int .i64 to_, .slice A n c]] w (GotE w (hireE ⟨key, driver, fr, to_, l⟩)) := by
  obtain ⟨E1, hE1⟩ : ∃ E, E = firstE [whenE (!keyB key || !keyB driver) 5, timeE fr to_] := ⟨_, rfl⟩
  have Hstop := Lib.hid (fun (h : E1 ≠ 0) => hireE_stop (l := l) hE1 h)
  have Hpass := Lib.hid (fun (h : E1 = 0) => hireE_pass (l := l) (h.symm.trans hE1))
  have Hl := Lib.hid hl.len
  have cK : ∀ w, Calls Tryz.prog 117 #[.string key] w fun e w' => e = .returned (.bool (keyB key)) ∧ w' = w := fun w => flipw (isKey_any _ _ (by have := hok.1; omega))
  have cD : ∀ w, Calls Tryz.prog 117 #[.string driver] w fun e w' => e = .returned (.bool (keyB driver)) ∧ w' = w := fun w => flipw (isKey_any _ _ (by have := hok.2.1; omega))
  have Hok := Lib.hid hok.2.2
  generalize keyB key = K at cK hE1
  generalize keyB driver = D at cD hE1
  obtain ⟨R, hR⟩ : ∃ R, R = hireE ⟨key, driver, fr, to_, l⟩ := ⟨_, rfl⟩
  rw [← hR] at Hstop Hpass ⊢
  have CK := Lib.hid cK
  have CD := Lib.hid cD
  have HE1 := Lib.hid hE1
  clear cK cD hE1 hR hok
  obtain ⟨T, hT⟩ : ∃ T, T = timeE fr to_ := ⟨_, rfl⟩
  have cT : ∀ w, Calls Tryz.prog 118 #[.agg #[.int .i64 fr, .int .i64 to_]] w (GotE w T) := fun w => by rw [hT]; exact time_any _ _ _
  have CT := Lib.hid cT
  rw [← hT] at HE1
  clear cT hT
  go_enter Tryz.func47, Tryz.ntmps47
  go_wp2_with fail
  have hB : Blk (w.alloc (.cells #[.string key, .string driver, .int .i64 fr, .int .i64 to_, .slice A n c] 64)) w.heap.size 64 [.string key, .string driver, .int .i64 fr, .int .i64 to_, .slice A n c] := Blk.at_ w rfl _ _
  have k0 := hB.cell_of (i := 0) (v := .string key) rfl
  have k1 := hB.cell_of (i := 1) (v := .string driver) rfl
  have k2 := hB.cell_of (i := 2) (v := .int .i64 fr) rfl
  have k3 := hB.cell_of (i := 3) (v := .int .i64 to_) rfl
  go_upto_region 1 with fail
  go_cut [3] (fun v wx => v = .int .i64 E1 ∧ (w.alloc (.cells #[.string key, .string driver, .int .i64 fr, .int .i64 to_, .slice A n c] 64)).grownBy wx none)
  case first =>
    cases K
    · first | go_region_with (first
        | (go_at_call 118; refine (CT.out _).mono ?_; rintro e w4 ⟨rfl, hg4⟩)
        | (go_at_call 117; with_reducible refine (CK.out _).mono ?_; rintro e w3 ⟨rfl, rfl⟩)
        | (go_at_call 117; with_reducible refine (CD.out _).mono ?_; rintro e w3 ⟨rfl, rfl⟩)
        | (go_at_call 42; refine (when_any _ _ _).mono ?_; rintro e w5 ⟨rfl, rfl⟩)
        | (go_at_call 41; refine (first_any [whenE true 5, T] _ _ _ _ (Blk.at_ _ rfl _ _) (by simp)).mono ?_; rintro e w6 ⟨rfl, rfl⟩)) | fail
      all_goals
        go_wp2_with fail
        go_meet
        exact ⟨ret_val (by rw [HE1.out]; rfl), grow_alloc (grow_trans (grow_drew (World.grownBy.refl _ _)) hg4) _⟩
    · go_region_held3 (fun wx => wx.cell? ⟨w.heap.size, 0, none⟩ = some (.string key) ∧ wx.cell? ⟨w.heap.size, 1, none⟩ = some (.string driver) ∧ wx.cell? ⟨w.heap.size, 2, none⟩ = some (.int .i64 fr) ∧ wx.cell? ⟨w.heap.size, 3, none⟩ = some (.int .i64 to_))
        (first
          | exact ⟨k0, k1, k2, k3⟩
          | exact q4
          | exact q5 _)
        (first
          | (go_at_call 118; refine (CT.out _).mono ?_; rintro e w4 ⟨rfl, hg4⟩; have hb2 := (hB.drewN 1).grown hg4 (by simp); have q5 := fun o => And.intro ((hb2.alloc o).cell_of (i := 0) (v := .string key) rfl) (And.intro ((hb2.alloc o).cell_of (i := 1) (v := .string driver) rfl) (And.intro ((hb2.alloc o).cell_of (i := 2) (v := .int .i64 fr) rfl) ((hb2.alloc o).cell_of (i := 3) (v := .int .i64 to_) rfl))); have q4 := And.intro (hb2.cell_of (i := 0) (v := .string key) rfl) (And.intro (hb2.cell_of (i := 1) (v := .string driver) rfl) (And.intro (hb2.cell_of (i := 2) (v := .int .i64 fr) rfl) (hb2.cell_of (i := 3) (v := .int .i64 to_) rfl))))
          | (go_at_call 117; with_reducible refine (CK.out _).mono ?_; rintro e w3 ⟨rfl, rfl⟩)
          | (go_at_call 117; with_reducible refine (CD.out _).mono ?_; rintro e w3 ⟨rfl, rfl⟩)
          | (go_at_call 42; refine (when_any _ _ _).mono ?_; rintro e w5 ⟨rfl, rfl⟩)
          | (go_at_call 41; refine (first_any [whenE (!D) 5, T] _ _ _ _ (Blk.at_ _ rfl _ _) (by simp)).mono ?_; rintro e w6 ⟨rfl, rfl⟩))
      all_goals
        go_wp2_with fail
        go_meet
        exact ⟨ret_val (by rw [HE1.out]; rfl), grow_alloc (grow_trans (grow_drew (World.grownBy.refl _ _)) hg4) _⟩
  case rest =>
    obtain ⟨rfl, hg1⟩ := hcut
    obtain ⟨w1, hw1⟩ : ∃ w1 : World, w1 = wc := ⟨_, rfl⟩
    rw [← hw1] at hg1 ⊢
    clear hw1 k0 k1 k2 k3
    have hb := hB.grown hg1 (by simp)
    have hgw : w.grownBy w1 none := grow_trans (grow_alloc (World.grownBy.refl _ _) _) hg1
    clear hg1 hB
    by_cases h0 : E1 = 0
    · have HP := Lib.hid (Hpass.out h0)
      subst h0
      have k4 := hb.cell_of (i := 4) (v := .slice A n c) rfl
      by_cases hn0 : n = 0
      · have hq : ((n : Int) == 0) = true := by simpa using hn0
        have HF := Lib.hid (show R = 3 by rw [HP.out, if_pos (by rw [Hl.out]; exact hn0)])
        clear hn0
        go_wp2_with fail
        go_ret
        exact ⟨ret_int HF.out.symm, hgw⟩
      · have hq : ((n : Int) == 0) = false := by simpa using hn0
        by_cases h20 : 20 < n
        · have hq2 : decide ((20 : Int) < (n : Int)) = true := by simp; omega
          have hq3 : decide (20 < n) = true := by simpa using h20
          have HF := Lib.hid (show R = 2 by rw [HP.out, if_neg (by rw [Hl.out]; exact hn0), if_pos (by rw [Hl.out]; exact h20)])
          clear hn0
          go_wp2_with fail
          go_ret
          exact ⟨ret_int HF.out.symm, hgw⟩
        · have hq2 : decide ((20 : Int) < (n : Int)) = false := by simp; omega
          have hq3 : decide (20 < n) = false := by simpa using h20
          have HF := Lib.hid (show R = legsE fr l (l.length - 0) by rw [HP.out, if_neg (by rw [Hl.out]; exact hn0), if_neg (by rw [Hl.out]; exact h20)]; rfl)
          clear hn0 HP
          have hn20 : n ≤ 20 := by omega
          go_wp2_with fail
          go_loopw [38] (fun i wr => ∃ k : Nat, k ≤ n ∧ i = .int .i64 k ∧ R = legsE fr l (l.length - k) ∧ w1.grownBy wr none) (fun i _ => n - (intOf i).toNat)
          case atStart => exact ⟨0, Nat.zero_le _, rfl, HF.out, World.grownBy.refl _ _⟩
          case round =>
            obtain ⟨k, hk, rfl, hE, hgr⟩ := hrel
            have HE := Lib.hid hE; clear hE
            by_cases hlt : k < n
            · have hlr := hl.grow0 (grow_trans hgw hgr)
              obtain ⟨g, hg⟩ : ∃ g, l[k]? = some g := ⟨_, List.getElem?_eq_getElem (by have := Hl.out; omega)⟩
              have hat := legs_at (fr := fr) hg
              obtain ⟨E, hEE⟩ : ∃ E, E = legE fr (prevOf l k) (decide (k + 1 = n)) g := ⟨_, rfl⟩
              rw [Hl.out, ← hEE] at hat
              rw [Hl.out] at HE
              have Hat := Lib.hid hat; clear hat
              have HEE := Lib.hid hEE; clear hEE
              have hbr := hb.grown hgr (by simp)
              have c0 := hbr.cell_of (i := 0) (v := .string key) rfl
              have c1 := hbr.cell_of (i := 1) (v := .string driver) rfl
              have c2 := hbr.cell_of (i := 2) (v := .int .i64 fr) rfl
              have c3 := hbr.cell_of (i := 3) (v := .int .i64 to_) rfl
              have c4 := hbr.cell_of (i := 4) (v := .slice A n c) rfl
              have Hg := Lib.hid hg
              clear hg
              go_wp2_with fail
              refine (checkLeg_any key driver fr to_ l A n c k g wr hlr Hg.out Hok.out hn).mono ?_
              rintro e w2 ⟨rfl, hg2⟩
              rw [← HEE.out]
              by_cases hE0 : E = 0
              · have HN := Lib.hid (show R = legsE fr l (n - (k + 1)) by rw [HE.out, Hat.out, if_pos hE0])
                subst hE0
                go_wp2_with fail
                go_roundw
                case rel => exact ⟨k + 1, by omega, by go_num, by rw [HN.out, Hl.out], grow_trans hgr hg2⟩
                case measure => simp [intOf]; omega
              · have hne : (E != 0) = true := by simpa using hE0
                have HN := Lib.hid (show R = E by rw [HE.out, Hat.out, if_neg hE0])
                clear hE0
                go_wp2_with fail
                go_ret
                exact ⟨ret_int HN.out.symm, grow_trans hgw (grow_trans hgr hg2)⟩
            · have HN := Lib.hid (show R = 0 by rw [HE.out, Hl.out, show n - k = 0 by omega]; rfl)
              go_wp2_with fail
              go_ret
              exact ⟨ret_int HN.out.symm, grow_trans hgw hgr⟩
    · have hne : (E1 != 0) = true := by simpa using h0
      have HR := Lib.hid (Hstop.out h0)
      clear h0
      go_wp2_with fail
      go_ret
      exact ⟨ret_int HR.out.symm, hgw⟩
end Go.Proofs.YtiendebcdicjnaaGreatDoor
namespace Go.Proofs.YtiendebcdicjnaaGreatDoor
open Go.RowKit
/-- What hire.made gives: the hire if it is right, else nothing. -/
def madeV (key driver : ByteArray) (fr to_ : Int) (A : Option Addr) (n c : Nat) (e : Int) : Value :=
  if e = 0 then .agg #[.string key, .string driver, .int .i64 fr, .int .i64 to_, .slice A n c] else .agg #[.string ⟨#[]⟩, .string ⟨#[]⟩, .int .i64 0, .int .i64 0, .slice none 0 0]
def GotVE (w : World) (v : Value) (e : Int) (d : Ending) (w' : World) : Prop := d = .returned (.tuple #[v, .int .i64 e]) ∧ w.grownBy w' none
theorem info_hr : (Tryz.prog.info? 64).map (·.size) = some 5 := by kernel_rfl
/-- Two results: a struct in a known block, and a number. -/
theorem ret_blk_tmp {P : Program} {fn : Func} {R : Ending → World → Prop} {a : Act} {w : World} {p u : Tmp} {ty : TypeId} (h : fn.results = #[.cell p ty, .tmp u]) (g : Nat) (t : TypeId) (cs : List Value) (d : TypeDesc) (hb : Blk w g t cs)
    (hp : a.tmps.getD p undef = .pointer (some ⟨g, 0, none⟩)) (v : Value) (hv : a.tmps.getD u undef = v) (hu : P.underlying ty = some d) (hd : d.isRow = true) (n : Nat) (hi : (P.info? ty).map (·.size) = some n) (hn : cs.length = n) (hdf : a.defers = [])
    (hR : R (.returned (.tuple #[.agg cs.toArray, v])) w) : bodyPost P fn R .ret a w := by
  refine bodyPost_ret (?_ : (results fn a.tmps).run P w = .ok (.tuple #[.agg cs.toArray, v]) w) hdf hR
  have hl := run_loadVar_row (P := P) w g t ty cs.toArray (0, 0) d hb hu (by cases d <;> simp_all [TypeDesc.isRow]) (by simpa [hn] using hi)
  rw [results_cell_tmp h]
  simp only [hp, hv]
  simp only [asAddr, Sem.run_pure, Result.andThen_ok]
  rw [hl]
  rfl
set_option maxRecDepth 100000 in
set_option maxHeartbeats 1000000 in
theorem made_any (key driver : ByteArray) (fr to_ : Int) (l : List Lg) (A : Option Addr) (n c : Nat) (w : World) (hl : SlT lgEnc 9 68 w A n l) (hok : HrOk key driver l) (hn : n ≤ 1000000) :
    Calls Tryz.prog 151 #[.agg #[.string key, .string driver, .int .i64 fr, .int .i64 to_, .slice A n c]] w (GotVE w (madeV key driver fr to_ A n c (hireE ⟨key, driver, fr, to_, l⟩)) (hireE ⟨key, driver, fr, to_, l⟩)) := by
  obtain ⟨E, hE⟩ : ∃ E, E = hireE ⟨key, driver, fr, to_, l⟩ := ⟨_, rfl⟩
  rw [← hE]
  have HE := Lib.hid hE
  clear hE
  go_enter Tryz.func151, Tryz.ntmps151
  go_wp2_with fail
  refine (hcheck_any key driver fr to_ l A n c _ ((hl.alloc _).alloc _) hok hn).mono ?_
  rintro e w1 ⟨rfl, hg1⟩
  rw [← HE.out]
  have hb1 : Blk w1 (w.heap.size + 1) 64 [.string ⟨#[]⟩, .string ⟨#[]⟩, .int .i64 0, .int .i64 0, .slice none 0 0] := (Blk.at_ (w.alloc _) (by simp) _ _).grown hg1 (by simp)
  have hb0 : Blk w1 w.heap.size 64 [.string key, .string driver, .int .i64 fr, .int .i64 to_, .slice A n c] := ((Blk.at_ w rfl _ _).alloc _).grown hg1 (by simp)
  have hgw : w.grownBy w1 none := grow_trans (grow_alloc (grow_alloc (World.grownBy.refl _ _) _) _) hg1
  have hz : ∀ k, some (w.heap.size + 1) = some k → w.heap.size ≤ k := fun k h => by cases h; omega
  clear hg1
  by_cases h0 : E = 0
  · have HV := Lib.hid (show madeV key driver fr to_ A n c E = .agg #[.string key, .string driver, .int .i64 fr, .int .i64 to_, .slice A n c] by rw [h0]; rfl)
    subst h0
    go_wp2_with (first
      | (with_reducible refine wpList_load_all rfl 64 (.tmp 1) rfl w.heap.size _ _ _ hb0 rfl Tryz.underlying64 rfl 5 info_hr rfl ?_)
      | (with_reducible refine wpList_store_all rfl 64 (.tmp 2) (.tmp 11) rfl (w.heap.size + 1) _ _ [.string key, .string driver, .int .i64 fr, .int .i64 to_, .slice A n c] hb1 rfl rfl 5 info_hr rfl rfl (by simp [Value.oneCell']) ?_
         intro w2 hb2 hg2))
    refine ret_blk_tmp (p := 2) (u := 3) (ty := 64) rfl (w.heap.size + 1) _ _ _ hb2 rfl (.int .i64 0) rfl Tryz.underlying64 rfl 5 info_hr rfl rfl ?_
    exact ⟨by rw [HV.out], grow_own hgw hg2 hz⟩
  · have hne : (E != 0) = true := by simpa using h0
    have HV := Lib.hid (show madeV key driver fr to_ A n c E = .agg #[.string ⟨#[]⟩, .string ⟨#[]⟩, .int .i64 0, .int .i64 0, .slice none 0 0] by unfold madeV; rw [if_neg h0])
    clear h0
    go_wp2_with (first
      | (with_reducible refine wpList_store_all rfl 64 (.tmp 2) (.tmp 9) rfl (w.heap.size + 1) _ _ [.string ⟨#[]⟩, .string ⟨#[]⟩, .int .i64 0, .int .i64 0, .slice none 0 0] hb1 rfl rfl 5 info_hr rfl rfl (by simp [Value.oneCell']) ?_
         intro w2 hb2 hg2))
    refine ret_blk_tmp (p := 2) (u := 3) (ty := 64) rfl (w.heap.size + 1) _ _ _ hb2 rfl (.int .i64 E) rfl Tryz.underlying64 rfl 5 info_hr rfl rfl ?_
    exact ⟨by rw [HV.out], grow_own hgw hg2 hz⟩
def startLeg (veh : ByteArray) (r : Rd) : Lg := ⟨veh, r, ⟨-1, ⟨#[]⟩, 0, 0⟩⟩
set_option maxRecDepth 100000 in
set_option maxHeartbeats 1000000 in
theorem start_any (key driver : ByteArray) (fr to_ : Int) (veh : ByteArray) (r : Rd) (w : World) (hk : key.size ≤ 1000000) (hd : driver.size ≤ 1000000) (hv : veh.size ≤ 1000000) (hr : RdOk r) :
    Calls Tryz.prog 76 #[.string key, .string driver, .agg #[.int .i64 fr, .int .i64 to_], .string veh, .agg (rdCells r).toArray] w (fun e w' => ∃ A,
      e = .returned (.tuple #[madeV key driver fr to_ A 1 1 (hireE ⟨key, driver, fr, to_, [startLeg veh r]⟩), .int .i64 (hireE ⟨key, driver, fr, to_, [startLeg veh r]⟩)]) ∧ SlT lgEnc 9 68 w' A 1 [startLeg veh r] ∧ w.grownBy w' none) := by
  obtain ⟨a1, s1, m1, f1⟩ := r
  have hok : HrOk key driver [startLeg veh ⟨a1, s1, m1, f1⟩] := ⟨hk, hd, fun g hg => by
    simp only [List.mem_singleton] at hg
    subst hg
    exact ⟨hv, hr, (by decide : (⟨#[]⟩ : ByteArray).size ≤ 1000000)⟩⟩
  show Calls Tryz.prog 76 #[.string key, .string driver, .agg #[.int .i64 fr, .int .i64 to_], .string veh, .agg #[.int .i64 a1, .string s1, .int .i64 m1, .int .i64 f1]] w _
  have Hok := Lib.hid hok
  clear hok
  obtain ⟨E, hE⟩ : ∃ E, E = hireE ⟨key, driver, fr, to_, [startLeg veh ⟨a1, s1, m1, f1⟩]⟩ := ⟨_, rfl⟩
  rw [← hE]
  have HE := Lib.hid hE
  clear hE
  go_enter Tryz.func76, Tryz.ntmps76
  go_wp2_with fail
  refine (made_any key driver fr to_ [startLeg veh ⟨a1, s1, m1, f1⟩] (some ⟨w.heap.size + 3, 0, none⟩) 1 1 _ (SlT.ofBlk (l := [startLeg veh ⟨a1, s1, m1, f1⟩]) lg_len (Blk.at_ _ (by simp) _ _)) Hok.out (by omega)).mono ?_
  rintro e w1 ⟨rfl, hg1⟩
  rw [← HE.out]
  clear HE Hok
  have hb1 : Blk w1 (w.heap.size + 2) 64 [.string ⟨#[]⟩, .string ⟨#[]⟩, .int .i64 0, .int .i64 0, .slice none 0 0] := ((Blk.at_ ((w.alloc _).alloc _) (by simp) _ _).alloc _).grown hg1 (by simp)
  have hl1 : SlT lgEnc 9 68 w1 (some ⟨w.heap.size + 3, 0, none⟩) 1 [startLeg veh ⟨a1, s1, m1, f1⟩] := (SlT.ofBlk (l := [startLeg veh ⟨a1, s1, m1, f1⟩]) lg_len (Blk.at_ (((w.alloc _).alloc _).alloc _) (by simp) _ _)).grow0 hg1
  have hgw : w.grownBy w1 none := grow_trans (grow_alloc (grow_alloc (grow_alloc (grow_alloc (World.grownBy.refl _ _) _) _) _) _) hg1
  have hz : ∀ k, some (w.heap.size + 2) = some k → w.heap.size ≤ k := fun k h => by cases h; omega
  clear hg1
  by_cases h0 : E = 0
  · have hV : madeV key driver fr to_ (some ⟨w.heap.size + 3, 0, none⟩) 1 1 E = .agg #[.string key, .string driver, .int .i64 fr, .int .i64 to_, .slice (some ⟨w.heap.size + 3, 0, none⟩) 1 1] := by rw [h0]; rfl
    rw [hV]
    have HV := Lib.hid hV
    clear h0 hV
    go_wp2_with (first
      | (with_reducible refine wpList_store_all rfl 64 (.tmp 10) (.tmp 22) rfl (w.heap.size + 2) _ _ [.string key, .string driver, .int .i64 fr, .int .i64 to_, .slice (some ⟨w.heap.size + 3, 0, none⟩) 1 1] hb1 rfl rfl 5 info_hr rfl rfl (by simp [Value.oneCell']) ?_
         intro w2 hb2 hg2))
    refine ret_blk_tmp (p := 10) (u := 11) (ty := 64) rfl (w.heap.size + 2) _ _ _ hb2 rfl (.int .i64 E) rfl Tryz.underlying64 rfl 5 info_hr rfl rfl ?_
    exact ⟨some ⟨w.heap.size + 3, 0, none⟩, by rw [HV.out], hl1.grown hg2 hb1 (by decide), grow_own hgw hg2 hz⟩
  · have hV : madeV key driver fr to_ (some ⟨w.heap.size + 3, 0, none⟩) 1 1 E = .agg #[.string ⟨#[]⟩, .string ⟨#[]⟩, .int .i64 0, .int .i64 0, .slice none 0 0] := by unfold madeV; rw [if_neg h0]
    rw [hV]
    have HV := Lib.hid hV
    clear h0 hV
    go_wp2_with (first
      | (with_reducible refine wpList_store_all rfl 64 (.tmp 10) (.tmp 22) rfl (w.heap.size + 2) _ _ [.string ⟨#[]⟩, .string ⟨#[]⟩, .int .i64 0, .int .i64 0, .slice none 0 0] hb1 rfl rfl 5 info_hr rfl rfl (by simp [Value.oneCell']) ?_
         intro w2 hb2 hg2))
    refine ret_blk_tmp (p := 10) (u := 11) (ty := 64) rfl (w.heap.size + 2) _ _ _ hb2 rfl (.int .i64 E) rfl Tryz.underlying64 rfl 5 info_hr rfl rfl ?_
    exact ⟨some ⟨w.heap.size + 3, 0, none⟩, by rw [HV.out], hl1.grown hg2 hb1 (by decide), grow_own hgw hg2 hz⟩
end Go.Proofs.YtiendebcdicjnaaGreatDoor
namespace Go.Proofs.YtiendebcdicjnaaGreatDoor
open Go.RowKit
set_option maxHeartbeats 400000 in
theorem formed_nil (w : World) : Calls Tryz.prog 212 #[.slice none 0 0] w (GotE w 0) := by
  go_enter Tryz.func212, Tryz.ntmps212
  go_wp2_with fail
  go_loopw [10] (fun i wr => i = .int .i64 0 ∧ wr = w) (fun _ _ => 0)
  case atStart => exact ⟨rfl, rfl⟩
  case round =>
    obtain ⟨rfl, rfl⟩ := hrel
    go_wp2_with fail
    go_ret
    exact ⟨rfl, World.grownBy.refl _ _⟩
set_option maxHeartbeats 400000 in
theorem checkOdds_nil (w : World) : Calls Tryz.prog 148 #[.slice none 0 0] w (GotE w 0) := by
  go_enter Tryz.func148, Tryz.ntmps148
  go_wp2_with fail
  refine (formed_nil _).mono ?_
  rintro e w1 ⟨rfl, hg1⟩
  go_wp2_with fail
  refine (when_any _ _ _).mono ?_
  rintro e w2 ⟨rfl, rfl⟩
  go_wp2_with fail
  refine (first_any [0, whenE false 2] _ _ _ _ (Blk.at_ _ rfl _ _) (by simp)).mono ?_
  rintro e w6 ⟨rfl, rfl⟩
  go_wp2_with fail
  go_ret
  exact ⟨rfl, grow_alloc hg1 _⟩
set_option maxHeartbeats 400000 in
theorem spread_nil (w : World) : Calls Tryz.prog 149 #[.slice none 0 0] w (fun e w' => ∃ g c, e = .returned (.tuple #[.slice (some ⟨g, 0, none⟩) 1 c, .int .i64 1]) ∧ g < w'.heap.size ∧ w'.cell? ⟨g, 0, none⟩ = some (.int .i64 1) ∧ w.grownBy w' none) := by
  go_enter Tryz.func149, Tryz.ntmps149
  go_wp2_with fail
  go_loopw [4, 5, 14] (fun s n i wr => s = .slice (some ⟨w.heap.size, 0, none⟩) 1 1 ∧ n = .int .i64 1 ∧ i = .int .i64 0 ∧ wr = w.alloc (.cells #[.int .i64 1] 3)) (fun _ _ _ _ => 0)
  case atStart => exact ⟨rfl, rfl, rfl, rfl⟩
  case round =>
    obtain ⟨rfl, rfl, rfl, rfl⟩ := hrel
    go_wp2_with fail
    go_ret2
    exact ⟨_, _, rfl, by simp, (Blk.at_ w rfl 3 [.int .i64 1]).cell_of rfl, grow_alloc (World.grownBy.refl _ _) _⟩
theorem info_fr : (Tryz.prog.info? 236).map (·.size) = some 2 := by kernel_rfl
set_option maxRecDepth 100000 in
set_option maxHeartbeats 400000 in
theorem lowest_one (w : World) : Calls Tryz.prog 150 #[.int .i64 1, .int .i64 1] w (fun e w' => e = .returned (.agg #[.int .i64 1, .int .i64 1]) ∧ w.grownBy w' none) := by
  go_enter Tryz.func150, Tryz.ntmps150
  go_wp2_with fail
  go_loopw [5, 6] (fun a b wr => a = .int .i64 1 ∧ (b = .int .i64 0 ∨ b = .int .i64 1) ∧ w.grownBy wr none ∧ Blk wr w.heap.size 236 [.int .i64 0, .int .i64 0]) (fun _ b _ => (intOf b).toNat)
  case atStart => exact ⟨rfl, .inr rfl, grow_alloc (World.grownBy.refl _ _) _, Blk.at_ w rfl _ _⟩
  case round =>
    obtain ⟨rfl, hk, hgr, hb⟩ := hrel
    rcases hk with rfl | rfl
    · go_wp2_with fail
      refine wp_region_still_tail 7 (by kernel_rfl) (by kernel_rfl) ?_
      change wpStill _ _ (World.drew _) _ _ _
      simp only [List.take_succ_cons, List.take_zero, List.drop_succ_cons, List.drop_zero]
      repeat still_step
      refine wpStill_nil ?_
      change wpList _ _ _ _ _ (World.drew _)
      go_wp2_with (with_reducible refine wpList_store_all rfl 236 (.tmp 4) (.tmp 24) rfl w.heap.size _ _ [.int .i64 1, .int .i64 1] hb.drew rfl rfl 2 info_fr rfl rfl (by simp [Value.oneCell']) ?_
                   intro w2 hb2 hg2)
      refine ret_blk (p := 4) (ty := 236) rfl w.heap.size _ _ _ hb2 rfl Tryz.underlying236 rfl 2 info_fr rfl rfl ?_
      exact ⟨rfl, grow_own (grow_drew hgr) hg2 (fun k h => by cases h; exact Nat.le_refl _)⟩
    · go_wp2_with fail
      go_quiet (fail)
      go_wp2_with fail
      go_roundw
      case rel => exact ⟨rfl, .inl rfl, grow_drewN hgr _, hb.drewN _⟩
      case measure => simp [intOf]
set_option maxRecDepth 100000 in
set_option maxHeartbeats 1000000 in
theorem bspread_nil (w : World) : Calls Tryz.prog 75 #[.slice none 0 0] w (fun e w' => ∃ A c, e = .returned (.tuple #[.slice A 1 c, .int .i64 0]) ∧ w.grownBy w' none) := by
  go_enter Tryz.func75, Tryz.ntmps75
  go_wp2_with fail
  refine (checkOdds_nil _).mono ?_
  rintro e w1 ⟨rfl, hg1⟩
  go_wp2_with fail
  refine (spread_nil _).mono ?_
  rintro e w2 ⟨g, c, rfl, hlt, hc, hg2⟩
  have hgw : w.grownBy w2 none := grow_trans hg1 hg2
  clear hg1 hg2
  go_wp2_with fail
  go_loopw [7, 22] (fun s i wr => w2.grownBy wr none ∧ ((i = .int .i64 0 ∧ s = .slice none 0 0) ∨ (i = .int .i64 1 ∧ ∃ A c, s = .slice A 1 c))) (fun _ i _ => 1 - (intOf i).toNat)
  case atStart => exact ⟨World.grownBy.refl _ _, .inl ⟨rfl, rfl⟩⟩
  case round =>
    obtain ⟨hgr, hs⟩ := hrel
    rcases hs with ⟨rfl, rfl⟩ | ⟨rfl, A, c', rfl⟩
    · have hc1 : wr.cell? ⟨g, 0, none⟩ = some (.int .i64 1) := (World.cell?_of_block (hgr.block g hlt (by simp))).trans hc
      go_wp2_with fail
      refine (lowest_one _).mono ?_
      rintro e w3 ⟨rfl, hg3⟩
      go_wp2_with fail
      go_roundw
      case rel => exact ⟨grow_drew (grow_alloc (grow_alloc (grow_trans hgr hg3) _) _), .inr ⟨rfl, _, _, rfl⟩⟩
      case measure => simp [intOf]
    · go_wp2_with fail
      go_ret2
      exact ⟨_, _, rfl, grow_trans hgw hgr⟩
end Go.Proofs.YtiendebcdicjnaaGreatDoor
namespace Go.Proofs.YtiendebcdicjnaaGreatDoor
open Go.RowKit
theorem timeE_okT {a b : Int} (h : timeE a b = 0) : 0 ≤ a ∧ a < b ∧ b ≤ 5761439 := by
  unfold timeE at h
  split at h
  · cases h
  · omega
theorem tdays_any (fr tt : Int) (w : World) :
  Calls Tryz.prog 74 #[.agg #[.int .i64 fr, .int .i64 tt]] w (fun e w' => e = .returned (.tuple #[.int .i64 (if timeE fr tt = 0 then daysV fr tt else 0), .int .i64 (timeE fr tt)]) ∧ w.grownBy w' none) := by
 refine gw_enter ⟨12, w, none, []⟩ Tryz.func74 rfl Tryz.ntmps74 rfl (mem0 (X := []) allF_nil allL_nil) ?_
 refine sr_ ?_
 refine wl_box rfl rfl rfl fun g1 => ?_
 refine sg_ rfl (sg_ rfl (nn_ (gw_seq (sr_ ?_))))
 refine wl_ov (ov_loads rz55 rfl (fun _ hm => hm.blkI 0 rfl) rfl rfl) rfl ?_
 refine wl_callv rfl cb118 rfl rfl (fun wx hm => (time_any _ _ wx)) ?_
 refine sg_ rfl (nn_ (sr_ (mv_ rfl (wl_ov (ov_neq rfl rfl) rfl (nn_ ?_)))))
 refine gw_cond rfl (fun hh => ?_) (fun hh => ?_)
 ·have h1 : ¬ (timeE fr tt = 0) := by simpa using hh
  clear hh
  refine sr_ (mv_ rfl (sg_ rfl (sg_ rfl (nn_ ?_))))
  refine gw_ret ?_
  refine nx_then_ret ?_
  refine nx_ret2 rfl rfl rfl fun wx hm => ?_
  exact ⟨by rw [if_neg h1], hm.g⟩
 have h1 : timeE fr tt = 0 := by simpa using hh
 clear hh
 refine gw_skip (nx_then (sr_ ?_))
 obtain ⟨h2, h3, h4⟩ := timeE_okT h1
 refine wl_ov (ov_loads rz55 rfl (fun _ hm => hm.blkI 0 rfl) rfl rfl) rfl ?_
 refine wl_callv rfl cb147 rfl rfl (fun wx hm => (days_any _ _ wx (by omega) (by omega) (by omega))) ?_
 refine sg_ rfl (sg_ rfl (nn_ ?_))
 refine gw_ret ?_
 refine nx_ret2 rfl rfl rfl fun wx hm => ?_
 exact ⟨by rw [if_pos h1, h1], hm.g⟩
end Go.Proofs.YtiendebcdicjnaaGreatDoor
namespace Go.Proofs.YtiendebcdicjnaaGreatDoor
open Go.RowKit
theorem ready_open : isOpenV ⟨⟨#[115]⟩, [0, 9, 0, 0, 0, 0, 0, 0, 0, 0, 0, 0, 0, 0]⟩ 8 = true ∧ isOpenE ⟨⟨#[115]⟩, [0, 9, 0, 0, 0, 0, 0, 0, 0, 0, 0, 0, 0, 0]⟩ 8 = 0 := ⟨by kernel_rfl, by kernel_rfl⟩
theorem ready_days : (if timeE 0 1441 = 0 then daysV 0 1441 else 0) = 2 ∧ timeE 0 1441 = 0 := ⟨by decide +kernel, by decide +kernel⟩
theorem ready_hire : hireE ⟨⟨#[104]⟩, ⟨#[100]⟩, 5, 9, [startLeg ⟨#[118]⟩ ⟨5, ⟨#[115]⟩, 0, 0⟩]⟩ = 0 := by kernel_rfl
set_option maxRecDepth 100000 in
set_option maxHeartbeats 1000000 in
theorem ready_any (w : World) : Calls Tryz.prog 22 #[] w (fun e w' => e = .returned (.bool true) ∧ w.grownBy w' none) := by
  have cD : ∀ w, Calls Tryz.prog 74 #[.agg #[.int .i64 0, .int .i64 1441]] w (fun e w' => e = .returned (.tuple #[.int .i64 2, .int .i64 0]) ∧ w.grownBy w' none) := fun w => by
    have h := tdays_any 0 1441 w
    rw [ready_days.1, ready_days.2] at h
    exact h
  have cO : ∀ w, Calls Tryz.prog 46 #[.agg #[.string ⟨#[115]⟩, .int .i64 0, .int .i64 9, .int .i64 0, .int .i64 0, .int .i64 0, .int .i64 0, .int .i64 0, .int .i64 0, .int .i64 0, .int .i64 0, .int .i64 0, .int .i64 0, .int .i64 0, .int .i64 0], .int .i64 8] w (RetBE w true 0) := fun w => by
    have hs : ∀ h ∈ [0, 9, 0, 0, 0, 0, 0, 0, 0, 0, 0, 0, 0, (0 : Int)], 0 ≤ h ∧ h ≤ 9 := by decide
    have h := lotOpen_any ⟨#[115]⟩ [0, 9, 0, 0, 0, 0, 0, 0, 0, 0, 0, 0, 0, 0] 8 w ⟨rfl, (by decide : (⟨#[115]⟩ : ByteArray).size ≤ 1000000), fun h hh => by have := hs h hh; omega⟩ (fun h hh => by have := hs h hh; omega)
    rw [ready_open.1, ready_open.2] at h
    exact h
  have cH : ∀ w, Calls Tryz.prog 76 #[.string ⟨#[104]⟩, .string ⟨#[100]⟩, .agg #[.int .i64 5, .int .i64 9], .string ⟨#[118]⟩, .agg #[.int .i64 5, .string ⟨#[115]⟩, .int .i64 0, .int .i64 0]] w (fun e w' => ∃ A, e = .returned (.tuple #[.agg #[.string ⟨#[104]⟩, .string ⟨#[100]⟩, .int .i64 5, .int .i64 9, .slice A 1 1], .int .i64 0]) ∧ w.grownBy w' none) := fun w => by
    have h := start_any ⟨#[104]⟩ ⟨#[100]⟩ 5 9 ⟨#[118]⟩ ⟨5, ⟨#[115]⟩, 0, 0⟩ w (by decide) (by decide) (by decide) (by decide : (⟨#[115]⟩ : ByteArray).size ≤ 1000000)
    rw [ready_hire] at h
    exact h.mono fun e w' ⟨A, h1, _, h3⟩ => ⟨A, h1, h3⟩
  have CD := Lib.hid cD
  have CO := Lib.hid cO
  have CH := Lib.hid cH
  clear cD cO cH
  go_enter Tryz.func22, Tryz.ntmps22
  go_wp2_with fail
  refine (CD.out _).mono ?_
  rintro e w1 ⟨rfl, hg1⟩
  go_wp2_with fail
  refine (CO.out _).mono ?_
  rintro e w2 ⟨rfl, hg2⟩
  go_wp2_with fail
  refine (bspread_nil _).mono ?_
  rintro e w3 ⟨A3, c3, rfl, hg3⟩
  go_wp2_with fail
  refine (CH.out _).mono ?_
  rintro e w4 ⟨A4, rfl, hg4⟩
  go_wp2_with fail
  go_ret
  exact ⟨rfl, grow_alloc (grow_trans (grow_trans (grow_trans hg1 hg2) hg3) hg4) _⟩
end Go.Proofs.YtiendebcdicjnaaGreatDoor
namespace Go.Proofs.YtiendebcdicjnaaGreatDoor
open Go.RowKit
theorem rowOf {α : Type} {enc : α → List Value} {k : Nat} {T : TypeId} {w : World} {base n : Nat} {v : Value} {l : List α} (hk : ∀ x, (enc x).length = k) (h : w.ownsRow base T k v n (l.flatMap enc)) (hn : l.length = n) : ∃ A c, v = .slice A n c ∧ SlT enc k T w A n l ∧ ShapeA A n c := by
  obtain ⟨A, c, rfl⟩ := own_slice h
  exact ⟨A, c, rfl, SlT.ofOwn hk h hn, own_shape h⟩
theorem statesMerge_walk (a0 : Option Addr) (len0 cap0 : Nat) (z0 : List Int) (w : World) (hR : RowIn w a0 len0 cap0 z0) :
  Calls Tryz.prog 5 #[.slice a0 len0 cap0] w fun e w' => e = .returned (.bool true) ∧ Below w.heap.size w w' := by
 refine gw_enter ⟨97, w, none, []⟩ Tryz.func5 rfl Tryz.ntmps5 rfl (mem0 (X := []) allF_nil allL_nil) ?_
 refine sr_ (sg_ rfl (nn_ (sr_ (mv_ rfl ?_))))
 refine wl_ov (ov_build (cs := [.slice a0 len0 cap0, .int .i64 0]) rfl (by kernel_rfl)) rfl ?_
 refine wl_box rfl rfl rfl fun sb => ?_
 refine sg_ rfl (nn_ (sr_ (mv_ rfl ?_)))
 refine wl_law [105, 90, 57, 151, 74] hR 0 rfl fun w1 B hg1 hsb => ?_
 refine wl_calls (γ := Option Addr × Option Addr × Option Addr × Option Addr × Nat × Nat × Nat × Nat × Nat × Nat × Nat × List St × List Cs × List Vh × List Pl) (val := (fun g => .agg #[.slice g.1 g.2.2.2.2.1 g.2.2.2.2.2.1, .slice g.2.1 4 g.2.2.2.2.2.2.1, .slice g.2.2.1 g.2.2.2.2.2.2.2.1 g.2.2.2.2.2.2.2.2.1, .slice g.2.2.2.1 g.2.2.2.2.2.2.2.2.2.1 g.2.2.2.2.2.2.2.2.2.2.1])) (φ := (fun g => RfOk g.2.2.2.2.2.2.2.2.2.2.2.1 g.2.2.2.2.2.2.2.2.2.2.2.2.1 g.2.2.2.2.2.2.2.2.2.2.2.2.2.1 g.2.2.2.2.2.2.2.2.2.2.2.2.2.2 g.2.2.2.2.1 g.2.2.2.2.2.2.2.1 g.2.2.2.2.2.2.2.2.2.1 ∧ fleetE g.2.2.2.2.2.2.2.2.2.2.2.1 g.2.2.2.2.2.2.2.2.2.2.2.2.1 g.2.2.2.2.2.2.2.2.2.2.2.2.2.1 g.2.2.2.2.2.2.2.2.2.2.2.2.2.2 = 0)) (Y := (fun g => fun wy => SlT stEnc 15 105 wy g.1 g.2.2.2.2.1 g.2.2.2.2.2.2.2.2.2.2.2.1 ∧ SlT csEnc 2 90 wy g.2.1 4 g.2.2.2.2.2.2.2.2.2.2.2.2.1 ∧ SlT vhEnc 2 57 wy g.2.2.1 g.2.2.2.2.2.2.2.1 g.2.2.2.2.2.2.2.2.2.2.2.2.2.1 ∧ SlT plEnc 3 151 wy g.2.2.2.1 g.2.2.2.2.2.2.2.2.2.1 g.2.2.2.2.2.2.2.2.2.2.2.2.2.2)) (m' := 0 + 300) rfl cb18 rfl rfl rfl rfl (fun wx hm => (rightFleet_anyF wx B sb _ hm.k (by omega)).mono fun _ _ ⟨sA, cA, vA, pA, sn, sc, cc, vn, vc, pn, pc, sl, cl, vl, pl, he, ⟨hok, hz⟩, hS, hg, ho1, ho2, ho3, hc⟩ => ⟨(sA, cA, vA, pA, sn, sc, cc, vn, vc, pn, pc, sl, cl, vl, pl), he, ⟨hok, hz⟩, hS, hg, SlT.ofOwnL stEnc_lenL (fun x hx => stB_ok (hok.1.2.1 x hx)) ho1 hok.1.1, hc, SlT.ofOwn vh_len ho2 hok.2.2.1.1, SlT.ofOwn pl_len ho3 hok.2.2.2.1⟩) (fun _ => (SlT.lasts2 rfl).and_ ((SlT.lasts2 rfl).and_ ((SlT.lasts2 rfl).and_ (SlT.lasts2 rfl)))) ?_
 rintro ⟨sA, cA, vA, pA, sn, sc, cc, vn, vc, pn, pc, sl, cl, vl, pl⟩ hfl
 dsimp only at hfl ⊢
 obtain ⟨⟨⟨hsl, hsB, hs1, hs3⟩, ⟨hcl4, hcok⟩, ⟨hvl, hvB, hvn4⟩, hpl, hpB, hpn5⟩, hfz⟩ := hfl
 have hsok : ∀ x ∈ sl, StOk x := fun x hx => stB_ok (hsB x hx)
 have hvok : ∀ x ∈ vl, VhOk x := fun x hx => vhB_ok (hvB x hx)
 have hpok : ∀ x ∈ pl, PlOk x := fun x hx => plB_ok (hpB x hx)
 refine wl_alloc zc31 rfl fun g1 => ?_
 refine wl_stores (cs' := [.slice sA sn sc, .slice cA 4 cc, .slice vA vn vc, .slice pA pn pc]) 0 rz31 rfl rfl rfl rfl rfl rfl rfl rfl ?_
 refine nn_ (gw_seq ?_)
 refine gd (fun wz => Blk wz g1 31 [.slice sA sn sc, .slice cA 4 cc, .slice vA vn vc, .slice pA pn pc] ∧ (fun wy => SlT stEnc 15 105 wy sA sn sl ∧ SlT csEnc 2 90 wy cA 4 cl ∧ SlT vhEnc 2 57 wy vA vn vl ∧ SlT plEnc 3 151 wy pA pn pl) wz ∧ True) mixed (fun _ hm => ⟨hm.bl 0, hm.fa 0, trivial⟩) fun z => ?_
 refine wt 0 6 1 rfl z (ov_move rfl) ?_
 refine wt 1 6 3 rfl z (ov_loads rz31 rfl (fun _ hm => hm.1) rfl rfl) ?_
 refine wt 2 6 7 rfl z (ov_move rfl) ?_
 refine wa1 3 rfl ?_
 refine wl_got (γ := Int) (val := fun v => .int .i64 v) (φ := fun v => 0 ≤ v ∧ (v ≤ 14 ∨ v = 0)) rfl cb9 rfl rfl rfl rfl (fun wx hm => (range_any _ _ wx B sb _ hm.k (by omega) (by omega) (by omega) (by omega) (by omega))) fun v2 hv2 => ?_
 obtain ⟨q, hq⟩ := Int.eq_ofNat_of_zero_le (show 0 ≤ v2 by omega)
 have hq20 : q ≤ 20 := by omega
 subst hq
 have hq14 : q ≤ 14 := by omega
 refine wl_nil ?_
 refine nw 6 15 (fun _ hm => ⟨hm.bl 0, hm.fa 0, trivial⟩) fun z => ?_
 refine wa1 4 rfl ?_
 refine wl_calls (γ := Option Addr × Nat × Nat × List Ev) (val := (fun g => .slice g.1 g.2.1 g.2.2.1)) (φ := (fun g => g.2.2.2.length = g.2.1 ∧ (∀ x ∈ g.2.2.2, EvOk x) ∧ g.2.1 ≤ 14)) (Y := (fun g => fun wy => SlT evEnc 5 74 wy g.1 g.2.1 g.2.2.2)) (m' := 0 + 2000) rfl cb19 rfl rfl rfl rfl (fun wx hm => (glog_any sl vl sA cA vA pA sn sc 4 cc vn vc pn pc q wx B sb _ hm.k (by omega) (hm.fact 0 rfl).1 (hm.fact 0 rfl).2.2.1 hsok hvok (by omega) (by omega) (by omega)).mono fun _ _ ⟨A, n, c, l, he, ho, hl, hok, hn, hS, hg⟩ => ⟨(A, n, c, l), he, ⟨hl, hok, by dsimp only; omega⟩, hS.more (by omega), hg, SlT.ofOwn ev_len ho hl⟩) (fun _ => SlT.lasts2 rfl) ?_
 rintro ⟨eA, en, ec, el⟩ hel
 dsimp only at hel ⊢
 obtain ⟨hell, heok, hen14⟩ := hel
 refine wl_nil ?_
 refine nw 6 31 (fun _ hm => ⟨hm.bl 0, hm.fa 1, trivial⟩) fun z => ?_
 refine wt 5 6 63 rfl z (ov_assign rfl) ?_
 refine wa_done (by kernel_rfl) ?_
 refine nx_then (gw_seq (sr_ ?_))
 refine wl_ov (ov_loads rz31 rfl (fun _ hm => hm.blkI 0 rfl) rfl rfl) rfl ?_
 refine mv_ rfl ?_
 refine wl_nest (some sb) [] fun w2 hm_w2 => ?_
 obtain ⟨_, _, _, _, hhs, _⟩ := Strm.pos hm_w2.k
 refine ⟨_, _, _, _, memS (X := [BlkOld w2.heap.size (some sb) g1 31 [.slice sA sn sc, .slice cA 4 cc, .slice vA vn vc, .slice pA pn pc], SlOld stEnc 15 105 w2.heap.size (some sb) sA sn sl, SlOld csEnc 2 90 w2.heap.size (some sb) cA 4 cl, SlOld vhEnc 2 57 w2.heap.size (some sb) vA vn vl, SlOld plEnc 3 151 w2.heap.size (some sb) pA pn pl, SlOld evEnc 5 74 w2.heap.size (some sb) eA en el]) hm_w2.k (allF_cons (Blk.oldRow (hm_w2.blkI 0 rfl) hhs (show (31 : Nat) ≠ 25 by decide)) (allF_cons (SlT.oldRow (hm_w2.fact 1 rfl).1 hhs (by decide)) (allF_cons (SlT.oldRow (hm_w2.fact 1 rfl).2.1 hhs (by decide)) (allF_cons (SlT.oldRow (hm_w2.fact 1 rfl).2.2.1 hhs (by decide)) (allF_cons (SlT.oldRow (hm_w2.fact 1 rfl).2.2.2 hhs (by decide)) (allF_cons (SlT.oldRow (hm_w2.fact 0 rfl) hhs (by decide)) allF_nil)))))) (allL_cons BlkOld.lasts (allL_cons SlOld.lasts (allL_cons SlOld.lasts (allL_cons SlOld.lasts (allL_cons SlOld.lasts (allL_cons SlOld.lasts allL_nil)))))), ?_⟩
 obtain ⟨LE, hLE⟩ : ∃ z, z = logE sl vl el := ⟨_, rfl⟩
 refine wl_callv (v := .int .i64 LE) rfl cb20 rfl rfl (fun wx hm => (by rw [hLE]; exact logFault_any sl vl sA cA vA pA sn sc 4 cc vn vc pn pc el eA en ec wx (hm.fact 1 rfl).1 (hm.fact 3 rfl).1 hsok (by omega) (by omega) (hm.fact 5 rfl).1 heok (by omega))) ?_
 refine wl_ov (ov_neq rfl rfl) rfl (nn_ ?_)
 refine gw_cond rfl (fun hh => ?_) (fun hh => ?_)
 ·have hf : ¬ (LE = 0) := by simpa using hh
  clear hh
  refine sr_ ?_
  have hne : evsE sl cl vl pl el ≠ 0 := by rw [evs_two hfz, ← hLE]; simpa using hf
  obtain ⟨EE, hEE⟩ : ∃ z, z = evsE sl cl vl pl el := ⟨_, rfl⟩
  rw [← hEE] at hne
  refine wl_ov (ov_loads (vs := [.slice sA sn sc, .slice cA 4 cc, .slice vA vn vc, .slice pA pn pc]) rz31 rfl (fun _ hm => (hm.fact 0 rfl).2) rfl rfl) rfl ?_
  refine mv_ rfl ?_
  refine wl_callv (v := .int .i64 EE) rfl cb21 rfl rfl (fun wx hm => (by rw [hEE]; exact check2_any sl cl vl pl sA cA vA pA sn sc 4 cc vn vc pn pc el eA en ec wx (hm.fact 1 rfl).1 (hm.fact 2 rfl).1 (hm.fact 3 rfl).1 (hm.fact 4 rfl).1 hsok hcok hvok hpok (by omega) (by omega) (by omega) (by omega) (hm.fact 5 rfl).1 heok (by omega))) ?_
  refine wl_ov (ov_neq rfl rfl) rfl ?_
  refine wl_set 31 (v' := .bool true) rfl (congrArg Value.bool (by rw [decide_eq_false hne]; rfl)) ?_
  refine mv_ rfl (wl_guard_on rfl rfl rfl ?_)
  refine wl_callv rfl cb22 rfl rfl (fun wx hm => (ready_any wx)) ?_
  refine pt_ rfl rfl (sg_ rfl (nn_ ?_))
  refine gw_ret ?_
  refine nx_then_ret ?_
  refine nx_ret1 rfl rfl fun wx hm => ?_
  exact ⟨rfl, law_end hg1 hsb (grow_trans hm_w2.g hm.g)⟩
 have hf : LE = 0 := by simpa using hh
 clear hh
 refine gw_skip (nx_then (sr_ ?_))
 have hL0 : LE = 0 := by simpa using hf
 subst hL0
 obtain ⟨hsort, hfine, _⟩ := log_ok hLE.symm
 refine sg_ rfl (sg_ rfl (nn_ (gw_seq (sr_ (mv_ rfl (wl_ov (ov_len es47 rfl) rfl (mv_ rfl (nn_ (gw_block ?_)))))))))
 refine gw_nilOwn 74 5 ?_
 refine gw_nilOwn 74 5 ?_
 refine gw_loop (γ := Nat × Nat × Nat × Value × Value × List Ev × List Ev × List Value × List Value) (fun g => (g.1 ≤ en ∧ g.2.2.2.2.2.1.length = g.2.1 ∧ g.2.2.2.2.2.2.1.length = g.2.2.1 ∧ g.2.2.2.2.2.2.2.1 = g.2.2.2.2.2.1.flatMap evEnc ∧ g.2.2.2.2.2.2.2.2 = g.2.2.2.2.2.2.1.flatMap evEnc) ∧ g.2.2.2.2.2.1.Sublist (el.take g.1) ∧ g.2.2.2.2.2.2.1.Sublist (el.take g.1) ∧ ∀ e ∈ el.take g.1, e ∈ g.2.2.2.2.2.1 ∨ e ∈ g.2.2.2.2.2.2.1) (fun g => [(2, .bool false), (3, .pointer (some ⟨sb, 0, none⟩)), (4, .pointer (some ⟨g1, 0, none⟩)), (5, .slice eA en ec), (6, g.2.2.2.1), (7, g.2.2.2.2.1), (35, .slice eA en ec), (36, .int .i64 ((en : Nat) : Int)), (37, .int .i64 ((g.1 : Nat) : Int))]) (fun g => fun w => Strm 25 w B sb (0 + 2000 + 1 * g.1)) (fun g => []) (fun g => [⟨g.2.2.2.1, 74, 5, g.2.1, g.2.2.2.2.2.2.2.1⟩, ⟨g.2.2.2.2.1, 74, 5, g.2.2.1, g.2.2.2.2.2.2.2.2⟩]) (fun g => [BlkOld w2.heap.size (some sb) g1 31 [.slice sA sn sc, .slice cA 4 cc, .slice vA vn vc, .slice pA pn pc], SlOld stEnc 15 105 w2.heap.size (some sb) sA sn sl, SlOld csEnc 2 90 w2.heap.size (some sb) cA 4 cl, SlOld vhEnc 2 57 w2.heap.size (some sb) vA vn vl, SlOld plEnc 3 151 w2.heap.size (some sb) pA pn pl, SlOld evEnc 5 74 w2.heap.size (some sb) eA en el]) (fun g => en - g.1) (0, 0, 0, .slice none 0 0, .slice none 0 0, [], [], [], []) ⟨⟨Nat.zero_le _, rfl, rfl, rfl, rfl⟩, List.nil_sublist _, List.nil_sublist _, (fun _ h => by dsimp only at h; rw [List.take_zero] at h; cases h)⟩ ⟨rfl, rfl, rfl, rfl, rfl, rfl, rfl, rfl, rfl, trivial⟩ (fun _ hm => (hm.more rfl (by first | omega | (dsimp only; omega))).pick [] [1, 0] [0, 1, 2, 3, 4, 5] rfl rfl) ?_
 rintro ⟨i, na, nb, va, vb, la, lb, xa, xb⟩ hinv
 replace hinv : (i ≤ en ∧ la.length = na ∧ lb.length = nb ∧ xa = la.flatMap evEnc ∧ xb = lb.flatMap evEnc) ∧ la.Sublist (el.take i) ∧ lb.Sublist (el.take i) ∧ ∀ e ∈ el.take i, e ∈ la ∨ e ∈ lb := hinv
 dsimp only
 refine sr_ ?_
 obtain ⟨⟨hi0, hla, hlb, rfl, rfl⟩, hsa, hsb2, hall⟩ := hinv
 have hna : na ≤ i := by have := hsa.length_le; rw [List.length_take] at this; omega
 have hnb : nb ≤ i := by have := hsb2.length_le; rw [List.length_take] at this; omega
 refine wl_ov (ov_lss rfl rfl) rfl (nn_ (gw_seq ?_))
 refine gw_cond rfl (fun hh => ?_) (fun hh => ?_)
 ·have hi : ((i : Nat) : Int) < ((en : Nat) : Int) := by simpa using hh
  clear hh
  refine gw_skip (nx_then (gw_seq (gw_block (sr_ ?_))))
  refine wl_look (R := ∃ b o, eA = some ⟨b, o, none⟩) (fun wx hm => by obtain ⟨b, off, hA, _, _⟩ := SlT.get (hm.fact 5 rfl).1 (by omega); exact ⟨b, off, hA⟩) ?_
  rintro ⟨be, oe, rfl⟩
  obtain ⟨x, hx⟩ : ∃ x, el[i]? = some x := ⟨_, List.getElem?_eq_getElem (by omega)⟩
  obtain ⟨e0, e1, e2, e3, e4⟩ := x
  have htk : el.take (i + 1) = el.take i ++ [⟨e0, e1, e2, e3, e4⟩] := by rw [List.take_add_one, hx]; rfl
  have hsub0 : (el.take i).Sublist (el.take (i + 1)) := by rw [htk]; exact List.sublist_append_left _ _
  refine wl_ov (ov_index (j := i) es47 rfl rfl (by omega)) rfl ?_
  refine wl_ov (ov_elem (vs := [.int .i64 e0, .string e1, .string e2, .int .i64 e3, .string e4]) rz74 rfl (fun _ hm => (hm.fact 5 rfl).1) hx rfl rfl) rfl ?_
  refine wl_alloc zc74 rfl fun g3 => ?_
  refine wl_stores (cs' := [.int .i64 e0, .string e1, .string e2, .int .i64 e3, .string e4]) 0 rz74 rfl rfl rfl rfl rfl rfl rfl rfl ?_
  refine nn_ (sr_ (mv_ rfl ?_))
  refine wl_got (γ := Int) (val := fun v => .int .i64 v) (φ := fun v => IsBelow 3 v) rfl cb23 rfl rfl rfl rfl (fun wx hm => (next_any _ wx B sb _ hm.k (by omega) (by omega) (by omega))) fun v4 hv4 => ?_
  refine nn_ (gw_block (sr_ (wl_ov (ov_eql rfl rfl) rfl (sg_ rfl (nn_ ?_)))))
  refine gw_cond rfl (fun hh => ?_) (fun hh => ?_)
  ·have h0 : v4 = 0 := by simpa using hh
   clear hh
   refine gw_region (mv_ rfl ?_)
   refine wl_ov (ov_loads rz74 rfl (fun _ hm => hm.blkI 0 rfl) rfl rfl) rfl ?_
   refine wl_buildSlice (e := 74) (cs := [.int .i64 e0, .string e1, .string e2, .int .i64 e3, .string e4]) rfl (by kernel_rfl) rfl fun g5 => ?_
   refine wl_append (news := [.int .i64 e0, .string e1, .string e2, .int .i64 e3, .string e4]) 0 0 ap47 rfl rfl rfl rfl rfl rfl rfl (by omega) (by unfold maxLen; omega) rfl rfl fun ua hua => ?_
   refine sg_ rfl (wl_nil (nx_blk_nrm (nx_blk_nrm (nx_then (gw_region (ad_ rfl rfl (mv_ rfl (wl_nil ?_))))))))
   exact nx_round (i + 1, (na + 1), nb, ua, vb, (la ++ [(⟨e0, e1, e2, e3, e4⟩ : Ev)]), lb, la.flatMap evEnc ++ ([.int .i64 e0, .string e1, .string e2, .int .i64 e3, .string e4] : List Value), lb.flatMap evEnc) ⟨⟨by dsimp only; omega, by dsimp only; simp [hla], hlb, by simp [evEnc], rfl⟩, by dsimp only; rw [htk]; exact List.Sublist.append hsa (List.Sublist.refl _), hsb2.trans hsub0, fun e he => by
    dsimp only at he ⊢
    rw [htk] at he
    rcases List.mem_append.1 he with h | h
    ·rcases hall e h with h | h <;> simp [h]
    rw [List.mem_singleton.1 h]; simp⟩ (by dsimp only; omega) ⟨rfl, rfl, rfl, rfl, rfl, rfl, rfl, rfl, (some_int (by dsimp only; omega)), trivial⟩ (fun _ hm => (hm.more rfl (by first | omega | (dsimp only; omega))).pick [] [0, 1] [0, 1, 2, 3, 4, 5] rfl rfl)
  have h0 : ¬ (v4 = 0) := by simpa using hh
  clear hh
  refine sr_ (wl_ov (ov_eql rfl rfl) rfl (sg_ rfl (nn_ ?_)))
  refine gw_cond rfl (fun hh => ?_) (fun hh => ?_)
  ·have h1 : v4 = 1 := by simpa using hh
   clear hh
   refine gw_region (mv_ rfl ?_)
   refine wl_ov (ov_loads rz74 rfl (fun _ hm => hm.blkI 0 rfl) rfl rfl) rfl ?_
   refine wl_buildSlice (e := 74) (cs := [.int .i64 e0, .string e1, .string e2, .int .i64 e3, .string e4]) rfl (by kernel_rfl) rfl fun g6 => ?_
   refine wl_append (news := [.int .i64 e0, .string e1, .string e2, .int .i64 e3, .string e4]) 1 0 ap47 rfl rfl rfl rfl rfl rfl rfl (by omega) (by unfold maxLen; omega) rfl rfl fun ub hub => ?_
   refine sg_ rfl (wl_nil (nx_blk_nrm (nx_blk_nrm (nx_then (gw_region (ad_ rfl rfl (mv_ rfl (wl_nil ?_))))))))
   exact nx_round (i + 1, na, (nb + 1), va, ub, la, (lb ++ [(⟨e0, e1, e2, e3, e4⟩ : Ev)]), la.flatMap evEnc, lb.flatMap evEnc ++ ([.int .i64 e0, .string e1, .string e2, .int .i64 e3, .string e4] : List Value)) ⟨⟨by dsimp only; omega, hla, by dsimp only; simp [hlb], rfl, by simp [evEnc]⟩, hsa.trans hsub0, by dsimp only; rw [htk]; exact List.Sublist.append hsb2 (List.Sublist.refl _), fun e he => by
    dsimp only at he ⊢
    rw [htk] at he
    rcases List.mem_append.1 he with h | h
    ·rcases hall e h with h | h <;> simp [h]
    rw [List.mem_singleton.1 h]; simp⟩ (by dsimp only; omega) ⟨rfl, rfl, rfl, rfl, rfl, rfl, rfl, rfl, (some_int (by dsimp only; omega)), trivial⟩ (fun _ hm => (hm.more rfl (by first | omega | (dsimp only; omega))).pick [] [0, 1] [0, 1, 2, 3, 4, 5] rfl rfl)
  have h1 : ¬ (v4 = 1) := by simpa using hh
  clear hh
  refine gd (fun wz => Blk wz g3 74 [.int .i64 e0, .string e1, .string e2, .int .i64 e3, .string e4] ∧ (BlkOld w2.heap.size (some sb) g1 31 [.slice sA sn sc, .slice cA 4 cc, .slice vA vn vc, .slice pA pn pc]) wz ∧ (SlOld stEnc 15 105 w2.heap.size (some sb) sA sn sl) wz ∧ (SlOld csEnc 2 90 w2.heap.size (some sb) cA 4 cl) wz ∧ (SlOld vhEnc 2 57 w2.heap.size (some sb) vA vn vl) wz ∧ (SlOld plEnc 3 151 w2.heap.size (some sb) pA pn pl) wz ∧ (SlOld evEnc 5 74 w2.heap.size (some sb) (some ⟨be, oe, none⟩) en el) wz ∧ True) mixed (fun _ hm => ⟨hm.bl 0, hm.fa 0, hm.fa 1, hm.fa 2, hm.fa 3, hm.fa 4, hm.fa 5, trivial⟩) fun z => ?_
  refine wt 0 10 1 rfl z (ov_move rfl) ?_
  refine wt 1 10 3 rfl z (ov_loads rz74 rfl (fun _ hm => hm.1) rfl rfl) ?_
  refine wt 4 10 19 rfl z (ov_move rfl) ?_
  refine wt 5 10 51 rfl z (ov_loads rz74 rfl (fun _ hm => hm.1) rfl rfl) ?_
  refine wa_all [2, 6] (by kernel_rfl) rfl ⟨⟨_, rfl, ?_⟩, ⟨_, rfl, ?_⟩, trivial⟩
  ·refine wl_buildSlice (e := 74) (cs := [.int .i64 e0, .string e1, .string e2, .int .i64 e3, .string e4]) rfl (by kernel_rfl) rfl fun g7 => ?_
   refine wl_nil ?_
   refine nw 10 55 (fun _ hm => ⟨hm.bl 1, hm.fa 0, hm.fa 1, hm.fa 2, hm.fa 3, hm.fa 4, hm.fa 5, trivial⟩) fun z => ?_
   refine wa_all [3, 6] (by kernel_rfl) rfl ⟨⟨_, rfl, ?_⟩, ⟨_, rfl, ?_⟩, trivial⟩
   ·refine wl_append (news := [.int .i64 e0, .string e1, .string e2, .int .i64 e3, .string e4]) 0 0 ap47 rfl rfl rfl rfl rfl rfl rfl (by omega) (by unfold maxLen; omega) rfl rfl fun ua hua => ?_
    refine wl_nil ?_
    refine nw 10 63 (fun _ hm => ⟨hm.bl 1, hm.fa 0, hm.fa 1, hm.fa 2, hm.fa 3, hm.fa 4, hm.fa 5, trivial⟩) fun z => ?_
    refine wa1 6 rfl ?_
    refine wl_buildSlice (e := 74) (cs := [.int .i64 e0, .string e1, .string e2, .int .i64 e3, .string e4]) rfl (by kernel_rfl) rfl fun g8 => ?_
    refine wl_nil ?_
    refine nw 10 127 (fun _ hm => ⟨hm.bl 2, hm.fa 0, hm.fa 1, hm.fa 2, hm.fa 3, hm.fa 4, hm.fa 5, trivial⟩) fun z => ?_
    refine wa1 7 rfl ?_
    refine wl_append (news := [.int .i64 e0, .string e1, .string e2, .int .i64 e3, .string e4]) 1 0 ap47 rfl rfl rfl rfl rfl rfl rfl (by omega) (by unfold maxLen; omega) rfl rfl fun ub hub => ?_
    refine wl_nil ?_
    refine nw 10 255 (fun _ hm => ⟨hm.bl 2, hm.fa 0, hm.fa 1, hm.fa 2, hm.fa 3, hm.fa 4, hm.fa 5, trivial⟩) fun z => ?_
    refine wt 8 10 511 rfl z (ov_assign rfl) ?_
    refine wt 9 10 1023 rfl z (ov_assign rfl) ?_
    refine wa_done (by kernel_rfl) ?_
    refine nx_blk_nrm (nx_blk_nrm (nx_then (gw_region (ad_ rfl rfl (mv_ rfl (wl_nil ?_))))))
    exact nx_round (i + 1, (na + 1), (nb + 1), ua, ub, (la ++ [(⟨e0, e1, e2, e3, e4⟩ : Ev)]), (lb ++ [(⟨e0, e1, e2, e3, e4⟩ : Ev)]), la.flatMap evEnc ++ ([.int .i64 e0, .string e1, .string e2, .int .i64 e3, .string e4] : List Value), lb.flatMap evEnc ++ ([.int .i64 e0, .string e1, .string e2, .int .i64 e3, .string e4] : List Value)) ⟨⟨by dsimp only; omega, by dsimp only; simp [hla], by dsimp only; simp [hlb], by simp [evEnc], by simp [evEnc]⟩, by dsimp only; rw [htk]; exact List.Sublist.append hsa (List.Sublist.refl _), by dsimp only; rw [htk]; exact List.Sublist.append hsb2 (List.Sublist.refl _), fun e he => by
     dsimp only at he ⊢
     rw [htk] at he
     rcases List.mem_append.1 he with h | h
     ·rcases hall e h with h | h <;> simp [h]
     rw [List.mem_singleton.1 h]; simp⟩ (by dsimp only; omega) ⟨rfl, rfl, rfl, rfl, rfl, rfl, rfl, rfl, (some_int (by dsimp only; omega)), trivial⟩ (fun _ hm => (hm.more rfl (by first | omega | (dsimp only; omega))).pick [] [0, 1] [0, 1, 2, 3, 4, 5] rfl rfl)
   refine wl_buildSlice (e := 74) (cs := [.int .i64 e0, .string e1, .string e2, .int .i64 e3, .string e4]) rfl (by kernel_rfl) rfl fun g9 => ?_
   refine wl_nil ?_
   refine nw 10 119 (fun _ hm => ⟨hm.bl 2, hm.fa 0, hm.fa 1, hm.fa 2, hm.fa 3, hm.fa 4, hm.fa 5, trivial⟩) fun z => ?_
   refine wa1 3 rfl ?_
   refine wl_append (news := [.int .i64 e0, .string e1, .string e2, .int .i64 e3, .string e4]) 0 1 ap47 rfl rfl rfl rfl rfl rfl rfl (by omega) (by unfold maxLen; omega) rfl rfl fun ua hua => ?_
   refine wl_nil ?_
   refine nw 10 127 (fun _ hm => ⟨hm.bl 2, hm.fa 0, hm.fa 1, hm.fa 2, hm.fa 3, hm.fa 4, hm.fa 5, trivial⟩) fun z => ?_
   refine wa1 7 rfl ?_
   refine wl_append (news := [.int .i64 e0, .string e1, .string e2, .int .i64 e3, .string e4]) 1 0 ap47 rfl rfl rfl rfl rfl rfl rfl (by omega) (by unfold maxLen; omega) rfl rfl fun ub hub => ?_
   refine wl_nil ?_
   refine nw 10 255 (fun _ hm => ⟨hm.bl 2, hm.fa 0, hm.fa 1, hm.fa 2, hm.fa 3, hm.fa 4, hm.fa 5, trivial⟩) fun z => ?_
   refine wt 8 10 511 rfl z (ov_assign rfl) ?_
   refine wt 9 10 1023 rfl z (ov_assign rfl) ?_
   refine wa_done (by kernel_rfl) ?_
   refine nx_blk_nrm (nx_blk_nrm (nx_then (gw_region (ad_ rfl rfl (mv_ rfl (wl_nil ?_))))))
   exact nx_round (i + 1, (na + 1), (nb + 1), ua, ub, (la ++ [(⟨e0, e1, e2, e3, e4⟩ : Ev)]), (lb ++ [(⟨e0, e1, e2, e3, e4⟩ : Ev)]), la.flatMap evEnc ++ ([.int .i64 e0, .string e1, .string e2, .int .i64 e3, .string e4] : List Value), lb.flatMap evEnc ++ ([.int .i64 e0, .string e1, .string e2, .int .i64 e3, .string e4] : List Value)) ⟨⟨by dsimp only; omega, by dsimp only; simp [hla], by dsimp only; simp [hlb], by simp [evEnc], by simp [evEnc]⟩, by dsimp only; rw [htk]; exact List.Sublist.append hsa (List.Sublist.refl _), by dsimp only; rw [htk]; exact List.Sublist.append hsb2 (List.Sublist.refl _), fun e he => by
    dsimp only at he ⊢
    rw [htk] at he
    rcases List.mem_append.1 he with h | h
    ·rcases hall e h with h | h <;> simp [h]
    rw [List.mem_singleton.1 h]; simp⟩ (by dsimp only; omega) ⟨rfl, rfl, rfl, rfl, rfl, rfl, rfl, rfl, (some_int (by dsimp only; omega)), trivial⟩ (fun _ hm => (hm.more rfl (by first | omega | (dsimp only; omega))).pick [] [0, 1] [0, 1, 2, 3, 4, 5] rfl rfl)
  refine wl_buildSlice (e := 74) (cs := [.int .i64 e0, .string e1, .string e2, .int .i64 e3, .string e4]) rfl (by kernel_rfl) rfl fun g10 => ?_
  refine wl_nil ?_
  refine nw 10 115 (fun _ hm => ⟨hm.bl 1, hm.fa 0, hm.fa 1, hm.fa 2, hm.fa 3, hm.fa 4, hm.fa 5, trivial⟩) fun z => ?_
  refine wa1 2 rfl ?_
  refine wl_buildSlice (e := 74) (cs := [.int .i64 e0, .string e1, .string e2, .int .i64 e3, .string e4]) rfl (by kernel_rfl) rfl fun g11 => ?_
  refine wl_nil ?_
  refine nw 10 119 (fun _ hm => ⟨hm.bl 2, hm.fa 0, hm.fa 1, hm.fa 2, hm.fa 3, hm.fa 4, hm.fa 5, trivial⟩) fun z => ?_
  refine wa1 3 rfl ?_
  refine wl_append (news := [.int .i64 e0, .string e1, .string e2, .int .i64 e3, .string e4]) 0 0 ap47 rfl rfl rfl rfl rfl rfl rfl (by omega) (by unfold maxLen; omega) rfl rfl fun ua hua => ?_
  refine wl_nil ?_
  refine nw 10 127 (fun _ hm => ⟨hm.bl 2, hm.fa 0, hm.fa 1, hm.fa 2, hm.fa 3, hm.fa 4, hm.fa 5, trivial⟩) fun z => ?_
  refine wa1 7 rfl ?_
  refine wl_append (news := [.int .i64 e0, .string e1, .string e2, .int .i64 e3, .string e4]) 1 1 ap47 rfl rfl rfl rfl rfl rfl rfl (by omega) (by unfold maxLen; omega) rfl rfl fun ub hub => ?_
  refine wl_nil ?_
  refine nw 10 255 (fun _ hm => ⟨hm.bl 2, hm.fa 0, hm.fa 1, hm.fa 2, hm.fa 3, hm.fa 4, hm.fa 5, trivial⟩) fun z => ?_
  refine wt 8 10 511 rfl z (ov_assign rfl) ?_
  refine wt 9 10 1023 rfl z (ov_assign rfl) ?_
  refine wa_done (by kernel_rfl) ?_
  refine nx_blk_nrm (nx_blk_nrm (nx_then (gw_region (ad_ rfl rfl (mv_ rfl (wl_nil ?_))))))
  exact nx_round (i + 1, (na + 1), (nb + 1), ua, ub, (la ++ [(⟨e0, e1, e2, e3, e4⟩ : Ev)]), (lb ++ [(⟨e0, e1, e2, e3, e4⟩ : Ev)]), la.flatMap evEnc ++ ([.int .i64 e0, .string e1, .string e2, .int .i64 e3, .string e4] : List Value), lb.flatMap evEnc ++ ([.int .i64 e0, .string e1, .string e2, .int .i64 e3, .string e4] : List Value)) ⟨⟨by dsimp only; omega, by dsimp only; simp [hla], by dsimp only; simp [hlb], by simp [evEnc], by simp [evEnc]⟩, by dsimp only; rw [htk]; exact List.Sublist.append hsa (List.Sublist.refl _), by dsimp only; rw [htk]; exact List.Sublist.append hsb2 (List.Sublist.refl _), fun e he => by
   dsimp only at he ⊢
   rw [htk] at he
   rcases List.mem_append.1 he with h | h
   ·rcases hall e h with h | h <;> simp [h]
   rw [List.mem_singleton.1 h]; simp⟩ (by dsimp only; omega) ⟨rfl, rfl, rfl, rfl, rfl, rfl, rfl, rfl, (some_int (by dsimp only; omega)), trivial⟩ (fun _ hm => (hm.more rfl (by first | omega | (dsimp only; omega))).pick [] [0, 1] [0, 1, 2, 3, 4, 5] rfl rfl)
 have hi : ¬ (((i : Nat) : Int) < ((en : Nat) : Int)) := by simpa using hh
 clear hh
 refine gw_exit ?_
 refine nx_then_exit (nx_then_exit ?_)
 refine nx_blk_here ?_
 refine nx_then (sr_ ?_)
 have hiall : el.take i = el := List.take_of_length_le (by omega)
 rw [hiall] at hsa hsb2 hall
 refine wl_ov (ov_loads (vs := [.slice sA sn sc, .slice cA 4 cc, .slice vA vn vc, .slice pA pn pc]) rz31 rfl (fun _ hm => (hm.fact 0 rfl).2) rfl rfl) rfl ?_
 refine mv_ rfl (mv_ rfl ?_)
 refine wl_look (R := ∃ A cc, va = .slice A na cc) (fun wx hm => own_slice (hm.ownI 0 rfl)) ?_
 rintro ⟨A1, c1, rfl⟩
 refine wl_look (R := ∃ A cc, vb = .slice A nb cc) (fun wx hm => own_slice (hm.ownI 1 rfl)) ?_
 rintro ⟨A2, c2, rfl⟩
 refine wl_look (R := ShapeA A1 na c1 ∧ ShapeA A2 nb c2) (fun wx hm => ⟨own_shape (hm.ownI 0 rfl), own_shape (hm.ownI 1 rfl)⟩) ?_
 rintro ⟨hs1, hs2⟩
 obtain ⟨hM1, hE1⟩ := merge_parts hsort (fun e he => hsa.subset he) (fun e he => hsb2.subset he) hall
 obtain ⟨hM2, hE2⟩ := merge_parts hsort (fun e he => hsb2.subset he) (fun e he => hsa.subset he) (fun e he => (hall e he).symm)
 have ht1 := parts_tie hsort (fun e he => hsa.subset he) (fun e he => hsb2.subset he)
 have ht2 := parts_tie hsort (fun e he => hsb2.subset he) (fun e he => hsa.subset he)
 have hl1 := log_sub hLE.symm hsa
 have hl2 := log_sub hLE.symm hsb2
 have hg1E : mgE sl cl vl pl la lb = 0 := by unfold mgE; rw [hfz, hl1, hl2, hE1]; rfl
 have hg2E : mgE sl cl vl pl lb la = 0 := by unfold mgE; rw [hfz, hl1, hl2, hE2]; rfl
 have hk1 : ∀ x ∈ la, EvOk x := fun x hx => heok x (hsa.subset hx)
 have hk2 : ∀ x ∈ lb, EvOk x := fun x hx => heok x (hsb2.subset hx)
 refine wl_nest none [74] fun w3 hm_w3 => ⟨_, _, _, _, mem0 (X := [SlOld stEnc 15 105 w3.heap.size none sA sn sl, SlOld csEnc 2 90 w3.heap.size none cA 4 cl, SlOld vhEnc 2 57 w3.heap.size none vA vn vl, SlOld plEnc 3 151 w3.heap.size none pA pn pl, SlOld evEnc 5 74 w3.heap.size none eA en el, SlOld evEnc 5 74 w3.heap.size none A1 na la, SlOld evEnc 5 74 w3.heap.size none A2 nb lb, BlkOld w3.heap.size none g1 31 [.slice sA sn sc, .slice cA 4 cc, .slice vA vn vc, .slice pA pn pc]]) (allF_cons (SlT.old (hm_w3.fact 1 rfl).1) (allF_cons (SlT.old (hm_w3.fact 2 rfl).1) (allF_cons (SlT.old (hm_w3.fact 3 rfl).1) (allF_cons (SlT.old (hm_w3.fact 4 rfl).1) (allF_cons (SlT.old (hm_w3.fact 5 rfl).1) (allF_cons (SlT.old (SlT.ofOwn ev_len (hm_w3.ownI 0 rfl) hla)) (allF_cons (SlT.old (SlT.ofOwn ev_len (hm_w3.ownI 1 rfl) hlb)) (allF_cons ((hm_w3.fact 0 rfl).2).old allF_nil)))))))) (allL_cons SlOld.lasts (allL_cons SlOld.lasts (allL_cons SlOld.lasts (allL_cons SlOld.lasts (allL_cons SlOld.lasts (allL_cons SlOld.lasts (allL_cons SlOld.lasts (allL_cons BlkOld.lasts allL_nil)))))))), ?_⟩
 refine wl_callx (γ := Option Addr × Nat × Nat) (val := (fun g => .tuple #[.slice g.1 g.2.1 g.2.2, .int .i64 0])) (φ := (fun g => g.2.1 ≤ 40)) (Y := (fun g => fun wy => SlT evEnc 5 74 wy g.1 g.2.1 el)) rfl cb24 rfl rfl (fun wx hm => (by have h := merge40_any sl cl vl pl sA cA vA pA sn sc 4 cc vn vc pn pc la lb A1 A2 na c1 nb c2 wx (hm.fact 0 rfl).1 (hm.fact 1 rfl).1 (hm.fact 2 rfl).1 (hm.fact 3 rfl).1 hsok hcok hvok hpok (by omega) (by omega) (by omega) (by omega) (hm.fact 5 rfl).1 (hm.fact 6 rfl).1 hs1 hs2 hk1 hk2 (by omega) ht1; rw [hg1E] at h; exact h.mono fun _ _ ⟨A, n, c, he, h1, _, hg⟩ => ⟨(A, n, c), he, (h1 rfl).2, hg, by have h2 := (h1 rfl).1; rw [hM1] at h2; exact h2⟩)) (fun _ => SlT.lasts2 rfl) ?_
 rintro ⟨m1A, m1n, m1c⟩ hm401
 dsimp only at hm401 ⊢
 refine mv_ rfl (wl_ov (ov_extract rfl rfl) rfl (wl_ov (ov_extract rfl rfl) rfl (sg_ rfl (sg_ rfl (nn_ (sr_ ?_))))))
 refine wl_ov (ov_loads (vs := [.slice sA sn sc, .slice cA 4 cc, .slice vA vn vc, .slice pA pn pc]) rz31 rfl (fun _ hm => (hm.fact 8 rfl).2) rfl rfl) rfl ?_
 refine mv_ rfl (mv_ rfl ?_)
 refine wl_callx (γ := Option Addr × Nat × Nat) (val := (fun g => .tuple #[.slice g.1 g.2.1 g.2.2, .int .i64 0])) (φ := (fun g => g.2.1 ≤ 40)) (Y := (fun g => fun wy => SlT evEnc 5 74 wy g.1 g.2.1 el)) rfl cb24 rfl rfl (fun wx hm => (by have h := merge40_any sl cl vl pl sA cA vA pA sn sc 4 cc vn vc pn pc lb la A2 A1 nb c2 na c1 wx (hm.fact 1 rfl).1 (hm.fact 2 rfl).1 (hm.fact 3 rfl).1 (hm.fact 4 rfl).1 hsok hcok hvok hpok (by omega) (by omega) (by omega) (by omega) (hm.fact 7 rfl).1 (hm.fact 6 rfl).1 hs2 hs1 hk2 hk1 (by omega) ht2; rw [hg2E] at h; exact h.mono fun _ _ ⟨A, n, c, he, h1, _, hg⟩ => ⟨(A, n, c), he, (h1 rfl).2, hg, by have h2 := (h1 rfl).1; rw [hM2] at h2; exact h2⟩)) (fun _ => SlT.lasts2 rfl) ?_
 rintro ⟨m2A, m2n, m2c⟩ hm402
 dsimp only at hm402 ⊢
 refine mv_ rfl (wl_ov (ov_extract rfl rfl) rfl (wl_ov (ov_extract rfl rfl) rfl (sg_ rfl (sg_ rfl (nn_ (sr_ (mv_ rfl (wl_ov (ov_eql rfl rfl) rfl ?_))))))))
 refine wl_set 79 (v' := .bool true) rfl (congrArg Value.bool (by decide)) ?_
 refine mv_ rfl (wl_guard_on rfl rfl rfl (mv_ rfl (wl_guard_on rfl rfl rfl (wl_ov (ov_eql rfl rfl) rfl ?_))))
 refine wl_set 82 (v' := .bool true) rfl (congrArg Value.bool (by decide)) ?_
 refine pt_ rfl rfl (mv_ rfl (wl_guard_on rfl rfl rfl (mv_ rfl (wl_guard_on rfl rfl rfl (mv_ rfl (wl_guard_on rfl rfl rfl ?_))))))
 refine wl_look (R := m1n = en) (fun wx hm => by have h3 := ((hm.fact 1 rfl)).len; omega) ?_
 rintro rfl
 refine wl_callv rfl cb25 rfl rfl (fun wx hm => (equal_evs el m1A eA m1n m1c ec wx (hm.fact 1 rfl) (hm.fact 6 rfl).1 (by omega))) ?_
 refine pt_ rfl rfl (mv_ rfl (wl_guard_on rfl rfl rfl (mv_ rfl (wl_guard_on rfl rfl rfl (mv_ rfl (wl_guard_on rfl rfl rfl ?_))))))
 refine wl_look (R := m2n = m1n) (fun wx hm => by have h3 := ((hm.fact 0 rfl)).len; omega) ?_
 rintro rfl
 refine wl_callv rfl cb25 rfl rfl (fun wx hm => (equal_evs el m2A eA m2n m2c ec wx (hm.fact 0 rfl) (hm.fact 6 rfl).1 (by omega))) ?_
 refine pt_ rfl rfl (mv_ rfl (wl_guard_on rfl rfl rfl ?_))
 refine wl_callv rfl cb22 rfl rfl (fun wx hm => (ready_any wx)) ?_
 refine pt_ rfl rfl (sg_ rfl (nn_ ?_))
 refine gw_ret ?_
 refine nx_ret1 rfl rfl fun wx hm => ?_
 exact ⟨rfl, law_end hg1 hsb (grow_trans (grow_trans hm_w2.g hm_w3.g) (grow_weak hm.g))⟩
end Go.Proofs.YtiendebcdicjnaaGreatDoor
