/- Several texts as one: Ya Yb Yc -/
import Derived.Test.YtjecbkgjabnmoaaGreatDoorPf
import Derived.Test.YtjecbkgjabnmoaaGreatDoorPb
import Derived.Test.YtjecbkgjabnmoaaGreatDoorPa
import Derived.Test.YtjecbkgjabnmoaaGreatDoorPd
set_option maxRecDepth 100000
set_option maxHeartbeats 4000000
namespace Go.Proofs.YtjecbkgjabnmoaaGreatDoor
open Go.RowKit
theorem far_any (x0 y0 : ByteArray) (gf gm : Nat) (F : ByteArray → Option Int) (w : World) (hk : Blk w gf 193 [.map (some gm)]) (hm0 : MapF (Value.int .i64) 0 gm F w) :
  Calls Tryz.prog 124 #[.string x0, .string y0, .pointer (some ⟨gf, 0, none⟩)] w (GotE w (cmpI ((F x0).getD 0) ((F y0).getD 0))) := by
 refine gw_enter ⟨13, w, none, []⟩ Tryz.func124 rfl Tryz.ntmps124 rfl (mem0 (X := [BlkOld w.heap.size none gf 193 [.map (some gm)], MapF (Value.int .i64) 0 gm F]) (allF_cons hk.old (allF_cons hm0 allF_nil)) (allL_cons BlkOld.lasts (allL_cons MapF.lasts2 allL_nil))) ?_
 refine sr_ (sg_ rfl (nn_ (sr_ ?_)))
 refine wl_ov (ov_load (v := .map (some gm)) sc193 rfl (fun _ hm => (hm.fact 0 rfl).2) rfl) rfl ?_
 refine mv_ rfl ?_
 refine wl_ov (ov_lookF (enc := (Value.int .i64)) (k := 9) (e := 3) 0 (by kernel_rfl) (by kernel_rfl) (by kernel_rfl) rfl rfl (fun _ hm => (hm.fact 1 rfl))) rfl ?_
 refine wl_ov (ov_load (v := .map (some gm)) sc193 rfl (fun _ hm => (hm.fact 0 rfl).2) rfl) rfl ?_
 refine mv_ rfl ?_
 refine wl_ov (ov_lookF (enc := (Value.int .i64)) (k := 9) (e := 3) 0 (by kernel_rfl) (by kernel_rfl) (by kernel_rfl) rfl rfl (fun _ hm => (hm.fact 1 rfl))) rfl ?_
 refine wl_callv rfl cb125 rfl rfl (fun wx hm => (cmp_int _ _ wx)) ?_
 refine sg_ rfl (nn_ ?_)
 refine gw_ret ?_
 refine nx_ret1 rfl rfl fun wx hm => ?_
 exact ⟨rfl, hm.g⟩
theorem ins_far (gf gm : Nat) (F : ByteArray → Option Int) (l0 : List ByteArray) (br n cap base : Nat) (w : World) (h : w.ownsRow base 9 1 (.slice (some ⟨br, 0, none⟩) n cap) n (l0.flatMap sgEnc)) (hl0 : l0.length = n) (hn : n ≤ 1000000) (hk : BlkOld w.heap.size (some br) gf 193 [.map (some gm)] w) (hm0 : MapF (Value.int .i64) 0 gm F w) :
  Calls Tryz.prog 248 #[.slice (some ⟨br, 0, none⟩) n cap, .int .i64 0, .int .i64 ((n : Nat) : Int), .func (.func 124) #[] #[.pointer (some ⟨gf, 0, none⟩)]] w (fun e w' => e = .returned (.tuple #[]) ∧ w'.ownsRow base 9 1 (.slice (some ⟨br, 0, none⟩) n cap) n ((isort (farLt F) l0).flatMap sgEnc) ∧ w.grownBy w' (some br)) := by
 obtain ⟨R, hR⟩ : ∃ z, z = isort (farLt F) l0 := ⟨_, rfl⟩
 rw [← hR]
 refine gw_enter ⟨53, w, (some br), []⟩ Tryz.func248 rfl Tryz.ntmps248 rfl (memR (X := [BlkOld w.heap.size (some br) gf 193 [.map (some gm)], MapF (Value.int .i64) 0 gm F]) h (allF_cons hk (allF_cons hm0 allF_nil)) (allL_cons BlkOld.lasts (allL_cons MapF.lasts2 allL_nil))) ?_
 refine sr_ (mv_ rfl (ad_ rfl rfl ?_))
 refine wl_set 11 (v' := .int .i64 1) rfl rfl ?_
 refine sg_ rfl (nn_ (gw_block ?_))
 refine gw_loop (γ := Nat × List ByteArray) (fun gg => (1 ≤ gg.1 ∧ gg.1 ≤ n + 1) ∧ gg.2.length = n ∧ isortF (farLt F) (n - gg.1) gg.1 gg.2 = R) (fun gg => [(0, .slice (some ⟨br, 0, none⟩) n cap), (1, .int .i64 0), (2, .int .i64 ((n : Nat) : Int)), (3, .func (.func 124) #[] #[.pointer (some ⟨gf, 0, none⟩)]), (8, .int .i64 ((gg.1 : Nat) : Int))]) (fun gg => RowK base 9 1 n cap br ((gg.2).flatMap sgEnc)) (fun gg => []) (fun gg => []) (fun gg => [BlkOld w.heap.size (some br) gf 193 [.map (some gm)], MapF (Value.int .i64) 0 gm F]) (fun gg => n + 1 - gg.1) (1, l0) ⟨⟨Nat.le_refl _, by omega⟩, hl0, by rw [hR]; unfold isort; rw [hl0]⟩ ⟨rfl, rfl, rfl, rfl, (some_int (by omega)), trivial⟩ (fun _ hm => hm.pick [] [] [0, 1] rfl rfl) ?_
 rintro ⟨i, l⟩ hinv
 replace hinv : (1 ≤ i ∧ i ≤ n + 1) ∧ l.length = n ∧ isortF (farLt F) (n - i) i l = R := hinv
 dsimp only
 refine gw_seq (sr_ ?_)
 obtain ⟨⟨hi1, hi2⟩, hl1, hR1⟩ := hinv
 refine mv_ rfl (mv_ rfl (wl_ov (ov_lss rfl rfl) rfl (nn_ ?_)))
 refine gw_cond rfl (fun hh => ?_) (fun hh => ?_)
 ·have hi : ((i : Nat) : Int) < ((n : Nat) : Int) := by simpa using hh
  clear hh
  refine gw_skip (nx_then (gw_seq (gw_block (sr_ ?_))))
  have hRi : isortF (farLt F) (n - (i + 1)) (i + 1) (sink (farLt F) i l) = R := by rw [← hR1, show n - i = (n - (i + 1)) + 1 by omega]; rfl
  obtain ⟨S, hS⟩ : ∃ z, z = sink (farLt F) i l := ⟨_, rfl⟩
  rw [← hS] at hRi
  have hSl : S.length = n := by rw [hS, sink_len]; exact hl1
  refine mv_ rfl (sg_ rfl (nn_ (gw_block ?_)))
  refine gw_loop (γ := Nat × List ByteArray) (fun gg => (gg.1 ≤ i) ∧ gg.2.length = n ∧ sink (farLt F) gg.1 gg.2 = S) (fun gg => [(0, .slice (some ⟨br, 0, none⟩) n cap), (1, .int .i64 0), (2, .int .i64 ((n : Nat) : Int)), (3, .func (.func 124) #[] #[.pointer (some ⟨gf, 0, none⟩)]), (8, .int .i64 ((i : Nat) : Int)), (9, .int .i64 ((gg.1 : Nat) : Int))]) (fun gg => RowK base 9 1 n cap br ((gg.2).flatMap sgEnc)) (fun gg => []) (fun gg => []) (fun gg => [BlkOld w.heap.size (some br) gf 193 [.map (some gm)], MapF (Value.int .i64) 0 gm F]) (fun gg => gg.1) (i, l) ⟨Nat.le_refl _, hl1, hS.symm⟩ ⟨rfl, rfl, rfl, rfl, rfl, rfl, trivial⟩ (fun _ hm => hm.pick [] [] [0, 1] rfl rfl) ?_
  rintro ⟨jj, m⟩ hinv
  replace hinv : (jj ≤ i) ∧ m.length = n ∧ sink (farLt F) jj m = S := hinv
  dsimp only
  refine gw_seq (gw_seq ?_)
  obtain ⟨hj1, hm1, hS1⟩ := hinv
  rcases jj with _ | j
  ·refine gd (fun wz => (BlkOld w.heap.size (some br) gf 193 [.map (some gm)]) wz ∧ (MapF (Value.int .i64) 0 gm F) wz ∧ True) mixed (fun _ hm => ⟨hm.fa 0, hm.fa 1, trivial⟩) fun z => ?_
   refine wt 0 17 1 rfl z (ov_move rfl) ?_
   refine wa_set 18 (v' := .int .i64 0) rfl rfl ?_
   refine wt 1 17 3 rfl z (ov_move rfl) ?_
   refine wt 2 17 7 rfl z (ov_gtr rfl rfl) ?_
   refine wa_set 20 (v' := .bool false) rfl (congrArg Value.bool (by decide)) ?_
   refine wt 3 17 15 rfl z (ov_move rfl) ?_
   refine wtf 4 17 31 rfl rfl rfl z ?_
   refine wtf 5 17 63 rfl rfl rfl z ?_
   refine wtf 6 17 127 rfl rfl rfl z ?_
   refine wtf 7 17 255 rfl rfl rfl z ?_
   refine wtf 8 17 511 rfl rfl rfl z ?_
   refine wtf 9 17 1023 rfl rfl rfl z ?_
   refine wtf 10 17 2047 rfl rfl rfl z ?_
   refine wtf 11 17 4095 rfl rfl rfl z ?_
   refine wtf 12 17 8191 rfl rfl rfl z ?_
   refine wtf 13 17 16383 rfl rfl rfl z ?_
   refine wtf 14 17 32767 rfl rfl rfl z ?_
   refine wtf 15 17 65535 rfl rfl rfl z ?_
   refine wt 16 17 131071 rfl z (ov_pick_f rfl rfl) ?_
   refine wa_done (by kernel_rfl) ?_
   refine nx_then (cf_ rfl ?_)
   refine gw_exit ?_
   refine nx_then_exit (nx_then_exit ?_)
   refine nx_blk_here ?_
   refine nx_blk_nrm (nx_then (gw_region (mv_ rfl (ad_ rfl rfl (sg_ rfl (wl_nil ?_))))))
   have hm2 : m = S := hS1
   exact nx_round (i + 1, m) ⟨⟨by dsimp only; omega, by dsimp only; omega⟩, by rw [hm2]; exact hSl, by rw [hm2]; exact hRi⟩ (by dsimp only; omega) ⟨rfl, rfl, rfl, rfl, (some_int (by omega)), trivial⟩ (fun _ hm => hm.pick [] [] [0, 1] rfl rfl)
  have hj2 : j + 1 < n := by omega
  have hin : ∀ z ∈ m, z ∈ l0 := fun z hz => mem_in hR hRi hS1 hz
  obtain ⟨x0, hx⟩ : ∃ x, m[j + 1]? = some x := ⟨_, List.getElem?_eq_getElem (by omega)⟩
  obtain ⟨y0, hy⟩ : ∃ x, m[j]? = some x := ⟨_, List.getElem?_eq_getElem (by omega)⟩
  refine gd (fun wz => (BlkOld w.heap.size (some br) gf 193 [.map (some gm)]) wz ∧ (MapF (Value.int .i64) 0 gm F) wz ∧ (RowK base 9 1 n cap br ((m).flatMap sgEnc)) wz ∧ True) mixed (fun _ hm => ⟨hm.fa 0, hm.fa 1, hm.k, trivial⟩) fun z => ?_
  refine wt 0 17 1 rfl z (ov_move rfl) ?_
  refine wt 1 17 3 rfl z (ov_move rfl) ?_
  refine wt 2 17 7 rfl z (ov_gtr rfl rfl) ?_
  refine wa_set 20 (v' := .bool true) rfl (congrArg Value.bool (decide_eq_true (by omega))) ?_
  refine wt 3 17 15 rfl z (ov_move rfl) ?_
  refine wto 4 17 31 rfl rfl rfl z (ov_move rfl) ?_
  refine wto 5 17 63 rfl rfl rfl z (ov_move rfl) ?_
  refine wto 6 17 127 rfl rfl rfl z (ov_move rfl) ?_
  refine wto 7 17 255 rfl rfl rfl z (ov_index (j := (j + 1)) es81 rfl rfl (by omega)) ?_
  refine wto 8 17 511 rfl rfl rfl z (ov_elem1 (k := 0) (v := .string x0) sc9 rfl (fun _ hm => (RowK.get (hm.2.2.1) sg_len hm1)) hx rfl rfl) ?_
  refine wto 9 17 1023 rfl rfl rfl z (ov_move rfl) ?_
  refine wto 10 17 2047 rfl rfl rfl z (ov_move rfl) ?_
  refine wto 11 17 4095 rfl rfl rfl z (ov_sub rfl rfl (by omega) (by omega)) ?_
  refine wa_set 29 (v' := .int .i64 ((j : Nat) : Int)) rfl (congrArg (Value.int .i64) (by omega)) ?_
  refine wto 12 17 8191 rfl rfl rfl z (ov_index (j := j) es81 rfl rfl (by omega)) ?_
  refine wto 13 17 16383 rfl rfl rfl z (ov_elem1 (k := 0) (v := .string y0) sc9 rfl (fun _ hm => (RowK.get (hm.2.2.1) sg_len hm1)) hy rfl rfl) ?_
  refine wa1 14 rfl ?_
  refine wl_guard_on rfl rfl rfl ?_
  refine wl_callv rfl cb124 rfl rfl (fun wx hm => (far_any x0 y0 gf gm F wx (hm.fact 0 rfl).2 (hm.fact 1 rfl))) ?_
  refine wl_nil ?_
  refine nw 17 32767 (fun _ hm => ⟨hm.fa 0, hm.fa 1, hm.k, trivial⟩) fun z => ?_
  refine wto 15 17 65535 rfl rfl rfl z (ov_lss rfl rfl) ?_
  refine wt 16 17 131071 rfl z (ov_pick_t rfl rfl) ?_
  refine wa_done (by kernel_rfl) ?_
  refine nx_then ?_
  refine gw_cond rfl (fun hh => ?_) (fun hh => ?_)
  ·have hlt : cmpI ((F x0).getD 0) ((F y0).getD 0) < 0 := by simpa using hh
   clear hh
   refine gw_skip (nx_then (gw_seq (gw_block ?_)))
   have hlt2 : (farLt F) x0 y0 = true := decide_eq_true (show cmpI ((F x0).getD 0) ((F y0).getD 0) < 0 from hlt)
   have hS2 := (sink_yes hx hy hlt2).symm.trans hS1
   refine gd (fun wz => (BlkOld w.heap.size (some br) gf 193 [.map (some gm)]) wz ∧ (MapF (Value.int .i64) 0 gm F) wz ∧ True) mixed (fun _ hm => ⟨hm.fa 0, hm.fa 1, trivial⟩) fun z => ?_
   refine wt 0 18 1 rfl z (ov_move rfl) ?_
   refine wt 1 18 3 rfl z (ov_move rfl) ?_
   refine wt 2 18 7 rfl z (ov_move rfl) ?_
   refine wt 3 18 15 rfl z (ov_move rfl) ?_
   refine wt 4 18 31 rfl z (ov_sub rfl rfl (by omega) (by omega)) ?_
   refine wa_set 41 (v' := .int .i64 ((j : Nat) : Int)) rfl (congrArg (Value.int .i64) (by omega)) ?_
   refine wt 5 18 63 rfl z (ov_move rfl) ?_
   refine wt 6 18 127 rfl z (ov_move rfl) ?_
   refine wt 7 18 255 rfl z (ov_sub rfl rfl (by omega) (by omega)) ?_
   refine wa_set 44 (v' := .int .i64 ((j : Nat) : Int)) rfl (congrArg (Value.int .i64) (by omega)) ?_
   refine wt 8 18 511 rfl z (ov_index (j := j) es81 rfl rfl (by omega)) ?_
   refine wt 10 18 1535 rfl z (ov_move rfl) ?_
   refine wt 11 18 3583 rfl z (ov_move rfl) ?_
   refine wt 12 18 7679 rfl z (ov_index (j := (j + 1)) es81 rfl rfl (by omega)) ?_
   refine wa_all [9, 13] (by kernel_rfl) rfl ⟨⟨_, rfl, ?_⟩, ⟨_, rfl, ?_⟩, trivial⟩
   ·refine wl_ov (ov_elem1 (k := 0) (v := .string y0) sc9 rfl (fun _ hm => (RowK.get hm.k sg_len hm1)) hy rfl rfl) rfl ?_
    refine wl_nil ?_
    refine nw 18 8191 (fun _ hm => ⟨hm.fa 0, hm.fa 1, trivial⟩) fun z => ?_
    refine wa1 13 rfl ?_
    refine wl_ov (ov_elem1 (k := 0) (v := .string x0) sc9 rfl (fun _ hm => (RowK.get hm.k sg_len hm1)) hx rfl rfl) rfl ?_
    refine wl_nil ?_
    refine nw 18 16383 (fun _ hm => ⟨hm.fa 0, hm.fa 1, trivial⟩) fun z => ?_
    refine wt 14 18 32767 rfl z (ov_index (j := (j + 1)) es81 rfl rfl (by omega)) ?_
    refine wa1 15 rfl ?_
    refine wl_storeRow (l := m) (j := j + 1) (r := 0) (el := x0) (el' := y0) rfl sc9 rfl rfl rfl sg_len rfl hx hm1 (by decide) rfl rfl ?_
    refine wl_nil ?_
    refine nw 18 65535 (fun _ hm => ⟨hm.fa 0, hm.fa 1, trivial⟩) fun z => ?_
    refine wt 16 18 131071 rfl z (ov_index (j := j) es81 rfl rfl (by omega)) ?_
    refine wa1 17 rfl ?_
    refine wl_storeRow (l := m.set (j + 1) y0) (j := j) (r := 0) (el := y0) (el' := x0) rfl sc9 rfl rfl rfl sg_len rfl (by rw [List.getElem?_set_ne (by omega)]; exact hy) (by rw [List.length_set]; exact hm1) (by decide) rfl rfl ?_
    refine wl_nil ?_
    refine nw 18 262143 (fun _ hm => ⟨hm.fa 0, hm.fa 1, trivial⟩) fun z => ?_
    refine wa_done (by kernel_rfl) ?_
    refine nx_blk_nrm (nx_then (gw_region (mv_ rfl ?_)))
    refine wl_ov (ov_sub rfl rfl (by omega) (by omega)) rfl ?_
    refine wl_set 36 (v' := .int .i64 ((j : Nat) : Int)) rfl (congrArg (Value.int .i64) (by omega)) ?_
    refine sg_ rfl (wl_nil ?_)
    exact nx_round (j, (m.set (j + 1) y0).set j x0) ⟨by dsimp only; omega, by simp [hm1], hS2⟩ (by dsimp only; omega) ⟨rfl, rfl, rfl, rfl, rfl, (some_int (by omega)), trivial⟩ (fun _ hm => hm.pick [] [] [0, 1] rfl rfl)
   refine wl_ov (ov_elem1 (k := 0) (v := .string x0) sc9 rfl (fun _ hm => (RowK.get hm.k sg_len hm1)) hx rfl rfl) rfl ?_
   refine wl_nil ?_
   refine nw 18 15871 (fun _ hm => ⟨hm.fa 0, hm.fa 1, trivial⟩) fun z => ?_
   refine wa1 9 rfl ?_
   refine wl_ov (ov_elem1 (k := 0) (v := .string y0) sc9 rfl (fun _ hm => (RowK.get hm.k sg_len hm1)) hy rfl rfl) rfl ?_
   refine wl_nil ?_
   refine nw 18 16383 (fun _ hm => ⟨hm.fa 0, hm.fa 1, trivial⟩) fun z => ?_
   refine wt 14 18 32767 rfl z (ov_index (j := (j + 1)) es81 rfl rfl (by omega)) ?_
   refine wa1 15 rfl ?_
   refine wl_storeRow (l := m) (j := j + 1) (r := 0) (el := x0) (el' := y0) rfl sc9 rfl rfl rfl sg_len rfl hx hm1 (by decide) rfl rfl ?_
   refine wl_nil ?_
   refine nw 18 65535 (fun _ hm => ⟨hm.fa 0, hm.fa 1, trivial⟩) fun z => ?_
   refine wt 16 18 131071 rfl z (ov_index (j := j) es81 rfl rfl (by omega)) ?_
   refine wa1 17 rfl ?_
   refine wl_storeRow (l := m.set (j + 1) y0) (j := j) (r := 0) (el := y0) (el' := x0) rfl sc9 rfl rfl rfl sg_len rfl (by rw [List.getElem?_set_ne (by omega)]; exact hy) (by rw [List.length_set]; exact hm1) (by decide) rfl rfl ?_
   refine wl_nil ?_
   refine nw 18 262143 (fun _ hm => ⟨hm.fa 0, hm.fa 1, trivial⟩) fun z => ?_
   refine wa_done (by kernel_rfl) ?_
   refine nx_blk_nrm (nx_then (gw_region (mv_ rfl ?_)))
   refine wl_ov (ov_sub rfl rfl (by omega) (by omega)) rfl ?_
   refine wl_set 36 (v' := .int .i64 ((j : Nat) : Int)) rfl (congrArg (Value.int .i64) (by omega)) ?_
   refine sg_ rfl (wl_nil ?_)
   exact nx_round (j, (m.set (j + 1) y0).set j x0) ⟨by dsimp only; omega, by simp [hm1], hS2⟩ (by dsimp only; omega) ⟨rfl, rfl, rfl, rfl, rfl, (some_int (by omega)), trivial⟩ (fun _ hm => hm.pick [] [] [0, 1] rfl rfl)
  have hlt : ¬ (cmpI ((F x0).getD 0) ((F y0).getD 0) < 0) := by simpa using hh
  clear hh
  refine gw_exit ?_
  refine nx_then_exit (nx_then_exit ?_)
  refine nx_blk_here ?_
  refine nx_blk_nrm (nx_then (gw_region ?_))
  have hlt2 : (farLt F) x0 y0 = false := decide_eq_false (show ¬ cmpI ((F x0).getD 0) ((F y0).getD 0) < 0 from hlt)
  have hS2 := (sink_no hx hy hlt2).symm.trans hS1
  refine mv_ rfl (ad_ rfl rfl (sg_ rfl (wl_nil ?_)))
  have hm2 : m = S := hS2
  exact nx_round (i + 1, m) ⟨⟨by dsimp only; omega, by dsimp only; omega⟩, by rw [hm2]; exact hSl, by rw [hm2]; exact hRi⟩ (by dsimp only; omega) ⟨rfl, rfl, rfl, rfl, (some_int (by omega)), trivial⟩ (fun _ hm => hm.pick [] [] [0, 1] rfl rfl)
 have hi : ¬ (((i : Nat) : Int) < ((n : Nat) : Int)) := by simpa using hh
 clear hh
 refine gw_exit ?_
 refine nx_then_exit (nx_then_exit ?_)
 refine nx_blk_here ?_
 obtain rfl : l = R := by rw [← hR1, show n - i = 0 by omega]; rfl
 refine nx_ret0 rfl fun wx hm => ?_
 exact ⟨rfl, fin_row hm.k hm.g⟩
theorem BlkOld.again {N g br : Nat} {T : TypeId} {cs : List Value} {w : World} (h : BlkOld N (some br) g T cs w) : BlkOld w.heap.size (some br) g T cs w := ⟨⟨h.2.lt, h.1.2⟩, h.2⟩
theorem stb_far (gf gm : Nat) (F : ByteArray → Option Int) (l0 : List ByteArray) (br n cap base : Nat) (w : World) (h : w.ownsRow base 9 1 (.slice (some ⟨br, 0, none⟩) n cap) n (l0.flatMap sgEnc)) (hl0 : l0.length = n) (hn : n ≤ 19) (hk : BlkOld w.heap.size (some br) gf 193 [.map (some gm)] w) (hm0 : MapF (Value.int .i64) 0 gm F w) :
  Calls Tryz.prog 193 #[.slice (some ⟨br, 0, none⟩) n cap, .int .i64 ((n : Nat) : Int), .func (.func 124) #[] #[.pointer (some ⟨gf, 0, none⟩)]] w (fun e w' => e = .returned (.tuple #[]) ∧ w'.ownsRow base 9 1 (.slice (some ⟨br, 0, none⟩) n cap) n ((isort (farLt F) l0).flatMap sgEnc) ∧ w.grownBy w' (some br)) := by
 refine gw_enter ⟨63, w, (some br), []⟩ Tryz.func193 rfl Tryz.ntmps193 rfl (memR (X := [BlkOld w.heap.size (some br) gf 193 [.map (some gm)], MapF (Value.int .i64) 0 gm F]) h (allF_cons hk (allF_cons hm0 allF_nil)) (allL_cons BlkOld.lasts (allL_cons MapF.lasts2 allL_nil))) ?_
 refine sr_ (sg_ rfl (nn_ (sr_ (mv_ rfl (sg_ rfl (sg_ rfl (nn_ (gw_seq (gw_block ?_)))))))))
 refine gw_rounds 1 ?_
 refine gr_next ?_
 refine gw_seq (sr_ (mv_ rfl (mv_ rfl (wl_ov (ov_leq rfl rfl) rfl ?_))))
 refine wl_set 13 (v' := .bool false) rfl (congrArg Value.bool (decide_eq_false (by omega))) ?_
 refine nn_ (cf_ rfl ?_)
 refine gw_exit ?_
 refine nx_then_exit (nx_then_exit ?_)
 refine nx_blk_here ?_
 refine nx_then (sr_ (mv_ rfl (mv_ rfl (mv_ rfl (mv_ rfl ?_)))))
 refine wl_callK rfl rfl rfl cb248 rfl rfl (fun wx hm => (ins_far gf gm F l0 br n cap base wx hm.k hl0 (by omega) (hm.fact 0 rfl).again (hm.fact 1 rfl))) ?_
 refine nn_ (gw_block ?_)
 refine gw_rounds 1 ?_
 refine gr_next ?_
 refine gw_seq (sr_ (mv_ rfl (mv_ rfl (wl_ov (ov_lss rfl rfl) rfl ?_))))
 refine wl_set 30 (v' := .bool false) rfl (congrArg Value.bool (decide_eq_false (by omega))) ?_
 refine nn_ (cf_ rfl ?_)
 refine gw_exit ?_
 refine nx_then_exit (nx_then_exit ?_)
 refine nx_blk_here ?_
 refine nx_ret0 rfl fun wx hm => ?_
 exact ⟨rfl, fin_row hm.k hm.g⟩
set_option maxRecDepth 100000 in
set_option maxHeartbeats 400000 in
theorem stable_far (gf gm : Nat) (F : ByteArray → Option Int) (l0 : List ByteArray) (br n cap base : Nat) (w : World) (h : w.ownsRow base 9 1 (.slice (some ⟨br, 0, none⟩) n cap) n (l0.flatMap sgEnc)) (hl0 : l0.length = n) (hn : n ≤ 19) (hk : BlkOld w.heap.size (some br) gf 193 [.map (some gm)] w) (hm0 : MapF (Value.int .i64) 0 gm F w) :
    Calls Tryz.prog 123 #[.slice (some ⟨br, 0, none⟩) n cap, .func (.func 124) #[] #[.pointer (some ⟨gf, 0, none⟩)]] w (fun e w' => e = .returned (.tuple #[]) ∧ w'.ownsRow base 9 1 (.slice (some ⟨br, 0, none⟩) n cap) n ((isort (farLt F) l0).flatMap sgEnc) ∧ w.grownBy w' (some br)) := by
  refine gw_enter ⟨9, w, (some br), []⟩ Tryz.func123 rfl Tryz.ntmps123 rfl (memR (X := [BlkOld w.heap.size (some br) gf 193 [.map (some gm)], MapF (Value.int .i64) 0 gm F]) h (allF_cons hk (allF_cons hm0 allF_nil)) (allL_cons BlkOld.lasts (allL_cons MapF.lasts2 allL_nil))) ?_
  refine gw_region ?_
  refine wl_ov (ov_move rfl) rfl ?_
  refine wl_ov (ov_move rfl) rfl ?_
  refine wl_ov (ov_len es81 rfl) rfl ?_
  refine wl_ov (ov_move rfl) rfl ?_
  refine wl_callK rfl rfl rfl cb193 rfl rfl (fun wx hm => (stb_far gf gm F l0 br n cap base wx hm.k hl0 (by omega) (hm.fact 0 rfl).again (hm.fact 1 rfl))) ?_
  refine wl_nil ?_
  refine nx_ret0 rfl fun wx hm => ?_
  exact ⟨rfl, fin_row hm.k hm.g⟩
theorem ins0_far (A : Option Addr) (cap gf : Nat) (w : World) : Calls Tryz.prog 248 #[.slice A 0 cap, .int .i64 0, .int .i64 0, .func (.func 124) #[] #[.pointer (some ⟨gf, 0, none⟩)]] w (fun e w' => e = .returned (.tuple #[]) ∧ w.grownBy w' none) := by
 refine gw_enter ⟨53, w, none, []⟩ Tryz.func248 rfl Tryz.ntmps248 rfl (mem0 (X := []) allF_nil allL_nil) ?_
 refine sr_ (mv_ rfl (ad_ rfl rfl ?_))
 refine wl_set 11 (v' := .int .i64 1) rfl rfl ?_
 refine sg_ rfl (nn_ (gw_block ?_))
 refine gw_rounds 1 ?_
 refine gr_next ?_
 refine gw_seq (sr_ (mv_ rfl (mv_ rfl (wl_ov (ov_lss rfl rfl) rfl ?_))))
 refine wl_set 14 (v' := .bool false) rfl (congrArg Value.bool (by decide)) ?_
 refine nn_ (cf_ rfl ?_)
 refine gw_exit ?_
 refine nx_then_exit (nx_then_exit ?_)
 refine nx_blk_here ?_
 refine nx_ret0 rfl fun wx hm => ?_
 exact ⟨rfl, hm.g⟩
theorem stb0_far (A : Option Addr) (cap gf : Nat) (w : World) : Calls Tryz.prog 193 #[.slice A 0 cap, .int .i64 0, .func (.func 124) #[] #[.pointer (some ⟨gf, 0, none⟩)]] w (fun e w' => e = .returned (.tuple #[]) ∧ w.grownBy w' none) := by
 refine gw_enter ⟨63, w, none, []⟩ Tryz.func193 rfl Tryz.ntmps193 rfl (mem0 (X := []) allF_nil allL_nil) ?_
 refine sr_ (sg_ rfl (nn_ (sr_ (mv_ rfl (sg_ rfl (sg_ rfl (nn_ (gw_seq (gw_block ?_)))))))))
 refine gw_rounds 1 ?_
 refine gr_next ?_
 refine gw_seq (sr_ (mv_ rfl (mv_ rfl (wl_ov (ov_leq rfl rfl) rfl ?_))))
 refine wl_set 13 (v' := .bool false) rfl (congrArg Value.bool (by decide)) ?_
 refine nn_ (cf_ rfl ?_)
 refine gw_exit ?_
 refine nx_then_exit (nx_then_exit ?_)
 refine nx_blk_here ?_
 refine nx_then (sr_ (mv_ rfl (mv_ rfl (mv_ rfl (mv_ rfl ?_)))))
 refine wl_callv rfl cb248 rfl rfl (fun wx hm => (ins0_far A cap gf wx)) ?_
 refine nn_ (gw_block ?_)
 refine gw_rounds 1 ?_
 refine gr_next ?_
 refine gw_seq (sr_ (mv_ rfl (mv_ rfl (wl_ov (ov_lss rfl rfl) rfl ?_))))
 refine wl_set 30 (v' := .bool false) rfl (congrArg Value.bool (by decide)) ?_
 refine nn_ (cf_ rfl ?_)
 refine gw_exit ?_
 refine nx_then_exit (nx_then_exit ?_)
 refine nx_blk_here ?_
 refine nx_ret0 rfl fun wx hm => ?_
 exact ⟨rfl, hm.g⟩
set_option maxRecDepth 100000 in
set_option maxHeartbeats 400000 in
theorem stable0_far (A : Option Addr) (cap gf : Nat) (w : World) : Calls Tryz.prog 123 #[.slice A 0 cap, .func (.func 124) #[] #[.pointer (some ⟨gf, 0, none⟩)]] w (fun e w' => e = .returned (.tuple #[]) ∧ w.grownBy w' none) := by
  refine gw_enter ⟨9, w, none, []⟩ Tryz.func123 rfl Tryz.ntmps123 rfl (mem0 (X := []) allF_nil allL_nil) ?_
  refine gw_region ?_
  refine wl_ov (ov_move rfl) rfl ?_
  refine wl_ov (ov_move rfl) rfl ?_
  refine wl_ov (ov_len es81 rfl) rfl ?_
  refine wl_set 6 (v' := .int .i64 0) rfl rfl ?_
  refine wl_ov (ov_move rfl) rfl ?_
  refine wl_callv rfl cb193 rfl rfl (fun wx hm => (stb0_far A cap gf wx)) ?_
  refine wl_nil ?_
  refine nx_ret0 rfl fun wx hm => ?_
  exact ⟨rfl, hm.g⟩
def idE (sl : List St) (cl : List Cs) (vl : List Vh) (pl : List Pl) (el : List Ev) (least mt : Int) : Int := firstE [evsE sl cl vl pl el, whenE (!inB least 0 5761440) 1, momentE mt]
theorem moment_nn {mt : Int} (h : momentE mt = 0) : 0 ≤ mt ∧ mt ≤ 5761439 := by
  unfold momentE at h
  cases hi : inB mt 0 5761439 with
  | true => exact inB_iff.1 hi
  | false => rw [hi] at h; cases h
theorem idle_any (sl : List St) (cl : List Cs) (vl : List Vh) (pl : List Pl) (sA cA vA pA : Option Addr) (sn sc cn cc vn vc pn pc : Nat) (el : List Ev) (eA : Option Addr) (en ec : Nat) (least mt : Int) (w : World) (hs : SlT stEnc 15 140 w sA sn sl) (hc : SlT csEnc 2 159 w cA cn cl) (hv : SlT vhEnc 2 77 w vA vn vl) (hp : SlT plEnc 3 143 w pA pn pl) (hsok : ∀ x ∈ sl, StOk x) (hcok : ∀ x ∈ cl, CsOk x) (hvok : ∀ x ∈ vl, VhOk x) (hpok : ∀ x ∈ pl, PlOk x) (hsn : sn ≤ 1000) (hcn : cn ≤ 1000) (hvn : vn ≤ 1000) (hpn : pn ≤ 1000) (hl : SlT evEnc 5 92 w eA en el) (heok : ∀ x ∈ el, EvOk x) (hen : en ≤ 100000) :
  Calls Tryz.prog 47 #[.agg #[.slice sA sn sc, .slice cA cn cc, .slice vA vn vc, .slice pA pn pc], .slice eA en ec, .int .i64 least, .int .i64 mt] w (fun e w' => ∃ (A : Option Addr) (k c : Nat), e = .returned (.tuple #[.slice A k c, .int .i64 (idE sl cl vl pl el least mt)]) ∧ (idE sl cl vl pl el least mt = 0 → SlT sgEnc 1 9 w' A k (idL el mt least vl) ∧ k ≤ vn) ∧ (idE sl cl vl pl el least mt ≠ 0 → A = none ∧ k = 0 ∧ c = 0) ∧ w.grownBy w' none) := by
 refine gw_enter ⟨66, w, none, []⟩ Tryz.func47 rfl Tryz.ntmps47 rfl (mem0 (X := [SlOld stEnc 15 140 w.heap.size none sA sn sl, SlOld csEnc 2 159 w.heap.size none cA cn cl, SlOld vhEnc 2 77 w.heap.size none vA vn vl, SlOld plEnc 3 143 w.heap.size none pA pn pl, SlOld evEnc 5 92 w.heap.size none eA en el]) (allF_cons hs.old (allF_cons hc.old (allF_cons hv.old (allF_cons hp.old (allF_cons hl.old allF_nil))))) (allL_cons SlOld.lasts (allL_cons SlOld.lasts (allL_cons SlOld.lasts (allL_cons SlOld.lasts (allL_cons SlOld.lasts allL_nil)))))) ?_
 refine sr_ ?_
 have hlen := hv.len
 obtain ⟨FE, hFE⟩ : ∃ z, z = evsE sl cl vl pl el := ⟨_, rfl⟩
 obtain ⟨TE, hTE⟩ : ∃ z, z = idE sl cl vl pl el least mt := ⟨_, rfl⟩
 rw [← hTE]
 have hT0 : TE = firstE [FE, whenE (!inB least 0 5761440) 1, momentE mt] := by rw [hTE, hFE]; rfl
 refine wl_box rfl rfl rfl fun g1 => ?_
 refine sg_ rfl (sg_ rfl (nn_ (gw_seq (sr_ ?_))))
 refine wl_ov (ov_loads rz31 rfl (fun _ hm => hm.blkI 0 rfl) rfl rfl) rfl ?_
 refine mv_ rfl ?_
 refine wl_callv (v := .int .i64 FE) rfl cb56 rfl rfl (fun wx hm => (by rw [hFE]; exact check2_any sl cl vl pl sA cA vA pA sn sc cn cc vn vc pn pc el eA en ec wx (hm.fact 0 rfl).1 (hm.fact 1 rfl).1 (hm.fact 2 rfl).1 (hm.fact 3 rfl).1 hsok hcok hvok hpok hsn hcn hvn hpn (hm.fact 4 rfl).1 heok hen)) ?_
 refine sg_ rfl (nn_ (sr_ (mv_ rfl (wl_ov (ov_neq rfl rfl) rfl (nn_ ?_)))))
 refine gw_cond rfl (fun hh => ?_) (fun hh => ?_)
 ·have h1 : ¬ (FE = 0) := by simpa using hh
  clear hh
  refine sr_ ?_
  have h2 : FE ≠ 0 := by simpa using h1
  have h3 : TE = FE := by rw [hT0]; exact fe_hd h2
  refine mv_ rfl (sg_ rfl (sg_ rfl (nn_ ?_)))
  refine gw_ret ?_
  refine nx_then_ret ?_
  refine nx_ret2 rfl rfl rfl fun wx hm => ?_
  exact ⟨none, 0, 0, by rw [h3], fun h => absurd h (by rw [h3]; exact h2), fun _ => ⟨rfl, rfl, rfl⟩, hm.g⟩
 have h1 : FE = 0 := by simpa using hh
 clear hh
 refine gw_skip (nx_then (gw_seq (sr_ ?_)))
 have h2 : FE = 0 := by simpa using h1
 obtain ⟨hf0, hl0⟩ := evs_ok (hFE.symm.trans h2)
 obtain ⟨hsort, _, _⟩ := log_ok hl0
 have hT1 : TE = firstE [whenE (!inB least 0 5761440) 1, momentE mt] := by rw [hT0, h2]; exact fe_tl
 refine mv_ rfl ?_
 refine wl_callw rfl cb126 rfl rfl (fun wx hm => (in_any _ _ _ wx)) ?_
 refine wl_ov (ov_un_not rfl) rfl ?_
 refine wl_callw rfl cb79 rfl rfl (fun wx hm => (when_any _ _ wx)) ?_
 refine mv_ rfl ?_
 refine wl_callw rfl cb81 rfl rfl (fun wx hm => (moment_any _ wx)) ?_
 refine wl_buildSlice (e := 35) (cs := [.int .i64 (whenE (!(inB least 0 5761440)) 1), .int .i64 (momentE mt)]) rfl (by kernel_rfl) rfl fun g2 => ?_
 refine wl_callw rfl cb78 rfl rfl (fun wx hm => (first_any [whenE (!(inB least 0 5761440)) 1, momentE mt] _ _ _ wx (hm.blkI 0 rfl) (by simp))) ?_
 refine sg_ rfl (nn_ (sr_ (mv_ rfl (wl_ov (ov_neq rfl rfl) rfl (nn_ ?_)))))
 refine gw_cond rfl (fun hh => ?_) (fun hh => ?_)
 ·have h3 : ¬ (firstE [whenE (!(inB least 0 5761440)) 1, momentE mt] = 0) := by simpa using hh
  clear hh
  refine sr_ ?_
  have h4 : TE ≠ 0 := by rw [hT1]; simpa using h3
  refine mv_ rfl (sg_ rfl (sg_ rfl (nn_ ?_)))
  refine gw_ret ?_
  refine nx_then_ret ?_
  refine nx_ret2 rfl rfl rfl fun wx hm => ?_
  exact ⟨none, 0, 0, by rw [hT1], fun h => absurd h h4, fun _ => ⟨rfl, rfl, rfl⟩, hm.g⟩
 have h3 : firstE [whenE (!(inB least 0 5761440)) 1, momentE mt] = 0 := by simpa using hh
 clear hh
 refine gw_skip (nx_then (sr_ ?_))
 have h4 : TE = 0 := by rw [hT1]; simpa using h3
 obtain ⟨hmt0, hmt1⟩ := moment_nn (fe_all (hT1.symm.trans h4) (momentE mt) (by simp))
 have hlst := fe_all (hT1.symm.trans h4) (whenE (!inB least 0 5761440) 1) (by simp)
 have hst : ∀ v, ((statesM el mt) v).getD sa0 = stateR el v mt := fun v => statesM_eq hsort hmt0
 refine mv_ rfl (mv_ rfl ?_)
 refine wl_callx (γ := Nat) (val := (fun g => .map (some g))) (φ := (fun g => True)) (Y := (fun g => fun wy => MapF encS 0 g (statesM el mt) wy)) rfl cb121 rfl rfl (fun wx hm => (states_any el eA en ec mt wx (hm.fact 4 rfl).1 hen).mono fun _ _ ⟨g, he, h1, hg⟩ => ⟨g, he, trivial, hg, h1⟩) (fun _ => MapF.lasts2) ?_
 rintro m1 hphi
 clear hphi
 refine wl_nilOwn 9 1 ?_
 refine sg_ rfl (nn_ (sr_ (sg_ rfl (nn_ (gw_seq (sr_ (fd_ fo31_2 rfl rfl (lk_ sc28 1 rfl rfl rfl (wl_ov (ov_len es28 rfl) rfl ?_)))))))))
 refine mv_ rfl (nn_ (gw_block ?_))
 refine gw_loop (γ := Nat × Nat × Option Addr × Nat) (fun g => g.1 ≤ vn ∧ g.2.1 ≤ g.1 ∧ (idL el mt least (vl.take g.1)).length = g.2.1) (fun g => [(2, .int .i64 least), (3, .int .i64 mt), (8, .slice none 0 0), (9, .int .i64 0), (12, .map (some m1)), (13, .slice g.2.2.1 g.2.1 g.2.2.2), (38, .slice vA vn vc), (39, .int .i64 ((vn : Nat) : Int)), (40, .int .i64 ((g.1 : Nat) : Int))]) (fun g => fun _ => True) (fun g => [(g2, 35, [.int .i64 (whenE (!(inB least 0 5761440)) 1), .int .i64 (momentE mt)]), (g1, 31, [.slice sA sn sc, .slice cA cn cc, .slice vA vn vc, .slice pA pn pc])]) (fun g => [⟨.slice g.2.2.1 g.2.1 g.2.2.2, 9, 1, g.2.1, (idL el mt least (vl.take g.1)).flatMap sgEnc⟩]) (fun g => [fun wy => MapF encS 0 m1 (statesM el mt) wy, SlOld stEnc 15 140 w.heap.size none sA sn sl, SlOld csEnc 2 159 w.heap.size none cA cn cl, SlOld vhEnc 2 77 w.heap.size none vA vn vl, SlOld plEnc 3 143 w.heap.size none pA pn pl, SlOld evEnc 5 92 w.heap.size none eA en el]) (fun g => vn - g.1) (0, 0, none, 0) ⟨Nat.zero_le _, Nat.le_refl _, rfl⟩ ⟨rfl, rfl, rfl, rfl, rfl, rfl, rfl, rfl, rfl, trivial⟩ (fun _ hm => hm.pick [0, 1] [0] [0, 1, 2, 3, 4, 5] rfl rfl) ?_
 rintro ⟨i, k, oA, oc⟩ hinv
 replace hinv : i ≤ vn ∧ k ≤ i ∧ (idL el mt least (vl.take i)).length = k := hinv
 dsimp only
 refine sr_ ?_
 obtain ⟨hi0, hki, hol⟩ := hinv
 refine wl_ov (ov_lss rfl rfl) rfl (nn_ (gw_seq ?_))
 refine gw_cond rfl (fun hh => ?_) (fun hh => ?_)
 ·have hi : ((i : Nat) : Int) < ((vn : Nat) : Int) := by simpa using hh
  clear hh
  refine gw_skip (nx_then (gw_seq (gw_block (sr_ ?_))))
  obtain ⟨b, off, hA, _, _⟩ := hv.get (by omega)
  subst hA
  obtain ⟨x, hx⟩ : ∃ x, vl[i]? = some x := ⟨_, List.getElem?_eq_getElem (by omega)⟩
  obtain ⟨vk, vc2⟩ := x
  have hat := id_at (el := el) (mt := mt) (least := least) hx
  have hbd := stateR_bd (v := vk) (at_ := mt) heok
  obtain ⟨S0, hS0⟩ : ∃ z, z = stateR el vk mt := ⟨_, rfl⟩
  rw [← hS0] at hbd
  obtain ⟨s0, s1, s2⟩ := S0
  dsimp only at hbd
  have hid : idB el mt least ⟨vk, vc2⟩ = (decide (s0 = 1) && decide (least ≤ mt - s2)) := by unfold idB; dsimp only; rw [← hS0]
  refine wl_ov (ov_index (j := i) es28 rfl rfl (by omega)) rfl ?_
  refine wl_ov (ov_elem (vs := [.string vk, .string vc2]) rz77 rfl (fun _ hm => (hm.fact 3 rfl).1) hx rfl rfl) rfl ?_
  refine wl_alloc zc77 rfl fun g3 => ?_
  refine wl_stores (cs' := [.string vk, .string vc2]) 0 rz77 rfl rfl rfl rfl rfl rfl rfl rfl ?_
  refine nn_ (sr_ (mv_ rfl (fd_ fo77_0 rfl rfl (lk_ sc9 0 rfl rfl rfl ?_))))
  refine wl_ov (ov_lookF (enc := encS) (k := 9) (e := 132) sa0 (by kernel_rfl) (by kernel_rfl) (by kernel_rfl) rfl rfl (fun _ hm => (hm.fact 0 rfl))) rfl ?_
  refine wl_set 47 (v' := .agg #[.int .i64 s0, .string s1, .int .i64 s2]) rfl (congrArg encS ((hst vk).trans hS0.symm)) ?_
  refine wl_alloc zc132 rfl fun g4 => ?_
  refine wl_stores (cs' := [.int .i64 s0, .string s1, .int .i64 s2]) 0 rz132 rfl rfl rfl rfl rfl rfl rfl rfl ?_
  refine nn_ (sr_ (fd_ fo132_0 rfl rfl (lk_ sc3 0 rfl rfl rfl (wl_ov (ov_eql rfl rfl) rfl (mv_ rfl ?_)))))
  rcases Bool.eq_false_or_eq_true (decide (s0 = 1)) with h0 | h0
  ·refine wl_set 51 rfl (congrArg Value.bool h0) ?_
   have h0 := of_decide_eq_true h0
   refine wl_guard_on rfl rfl rfl (mv_ rfl (wl_guard_on rfl rfl rfl (fd_ fo132_2 rfl rfl (wl_guard_on rfl rfl rfl (lk_ sc3 0 rfl rfl rfl (wl_guard_on rfl rfl rfl ?_))))))
   refine wl_ov (ov_sub rfl rfl (by omega) (by omega)) rfl ?_
   refine wl_guard_on rfl rfl rfl (mv_ rfl (wl_guard_on rfl rfl rfl ?_))
   refine wl_ov (ov_geq rfl rfl) rfl ?_
   refine pt_ rfl rfl (nn_ ?_)
   refine gw_cond rfl (fun hh => ?_) (fun hh => ?_)
   ·have hq : least ≤ mt - s2 := by simpa using hh
    clear hh
    refine gw_region ?_
    have hb : idB el mt least ⟨vk, vc2⟩ = true := by rw [hid, decide_eq_true (show s0 = 1 by omega), decide_eq_true (show least ≤ mt - s2 by omega)]; rfl
    rw [if_pos hb] at hat
    dsimp only at hat
    refine mv_ rfl (fd_ fo77_0 rfl rfl (lk_ sc9 1 rfl rfl rfl ?_))
    refine wl_buildSlice (e := 9) (cs := [.string vk]) rfl (by kernel_rfl) rfl fun g5 => ?_
    refine wl_append (news := [.string vk]) 0 0 ap81 rfl rfl rfl rfl rfl rfl rfl (by omega) (by unfold maxLen; omega) rfl rfl fun v2 hv2 => ?_
    refine wl_look (R := ∃ A cc, v2 = .slice A (k + 1) cc) (fun wx hm => own_slice (hm.ownI 0 rfl)) ?_
    rintro ⟨A3, c3, rfl⟩
    have hxs : (idL el mt least (vl.take i)).flatMap sgEnc ++ ([.string vk] : List Value) = (idL el mt least (vl.take (i + 1))).flatMap sgEnc := by rw [hat]; simp [sgEnc]
    rw [hxs]
    refine sg_ rfl (wl_nil (nx_blk_nrm (nx_then (gw_region (ad_ rfl rfl (mv_ rfl (wl_nil ?_)))))))
    exact nx_round (i + 1, k + 1, A3, c3) ⟨by dsimp only; omega, by dsimp only; omega, by dsimp only; rw [hat, List.length_append, hol]; rfl⟩ (by dsimp only; omega) ⟨rfl, rfl, rfl, rfl, rfl, rfl, rfl, rfl, (some_int (by omega)), trivial⟩ (fun _ hm => hm.pick [3, 4] [0] [0, 1, 2, 3, 4, 5] rfl rfl)
   have hq : ¬ (least ≤ mt - s2) := by simpa using hh
   clear hh
   refine gw_skip (nx_blk_nrm (nx_then (gw_region ?_)))
   have hb : idB el mt least ⟨vk, vc2⟩ = false := Bool.eq_false_iff.2 fun hc => by rw [hid, Bool.and_eq_true, decide_eq_true_eq, decide_eq_true_eq] at hc; omega
   rw [if_neg (by rw [hb]; decide), List.append_nil] at hat
   rw [← hat]
   refine ad_ rfl rfl (mv_ rfl (wl_nil ?_))
   exact nx_round (i + 1, k, oA, oc) ⟨by dsimp only; omega, by dsimp only; omega, by dsimp only; rw [hat]; exact hol⟩ (by dsimp only; omega) ⟨rfl, rfl, rfl, rfl, rfl, rfl, rfl, rfl, (some_int (by omega)), trivial⟩ (fun _ hm => hm.pick [2, 3] [0] [0, 1, 2, 3, 4, 5] rfl rfl)
  refine wl_set 51 rfl (congrArg Value.bool h0) ?_
  have h0 := of_decide_eq_false h0
  have hb : idB el mt least ⟨vk, vc2⟩ = false := Bool.eq_false_iff.2 fun hc => by rw [hid, Bool.and_eq_true, decide_eq_true_eq, decide_eq_true_eq] at hc; omega
  rw [if_neg (by rw [hb]; decide), List.append_nil] at hat
  rw [← hat]
  refine goff rfl rfl rfl (goff rfl rfl rfl (goff rfl rfl rfl (goff rfl rfl rfl (goff rfl rfl rfl (goff rfl rfl rfl (pf_ rfl rfl (nn_ (cf_ rfl (gw_skip (nx_blk_nrm (nx_then (gw_region ?_))))))))))))
  refine ad_ rfl rfl (mv_ rfl (wl_nil ?_))
  exact nx_round (i + 1, k, oA, oc) ⟨by dsimp only; omega, by dsimp only; omega, by dsimp only; rw [hat]; exact hol⟩ (by dsimp only; omega) ⟨rfl, rfl, rfl, rfl, rfl, rfl, rfl, rfl, (some_int (by omega)), trivial⟩ (fun _ hm => hm.pick [2, 3] [0] [0, 1, 2, 3, 4, 5] rfl rfl)
 have hi : ¬ (((i : Nat) : Int) < ((vn : Nat) : Int)) := by simpa using hh
 clear hh
 refine gw_exit ?_
 refine nx_then_exit (nx_then_exit ?_)
 refine nx_blk_here ?_
 refine nx_then (sr_ ?_)
 have hall : vl.take i = vl := List.take_of_length_le (by omega)
 rw [hall] at hol
 rw [hall]
 refine mv_ rfl (sg_ rfl (sg_ rfl (nn_ ?_)))
 refine gw_ret ?_
 refine nx_ret2 rfl rfl rfl fun wx hm => ?_
 exact ⟨oA, k, oc, by rw [h4], fun _ => ⟨SlT.ofOwn sg_len (hm.ownI 0 rfl) hol, by omega⟩, fun h => absurd h4 h, hm.g⟩
theorem idleOf_any (vl : List Vh) (sA cA vA pA : Option Addr) (sn sc cn cc vn vc pn pc : Nat) (el : List Ev) (eA : Option Addr) (en ec : Nat) (least mt : Int) (w : World) (hv : SlT vhEnc 2 77 w vA vn vl) (hl : SlT evEnc 5 92 w eA en el) (heok : ∀ x ∈ el, EvOk x) (hmt0 : 0 ≤ mt) (hmt1 : mt ≤ 5761439) (hen : en ≤ 100000) (hvn : vn ≤ 1000) :
  Calls Tryz.prog 52 #[.agg #[.slice sA sn sc, .slice cA cn cc, .slice vA vn vc, .slice pA pn pc], .slice eA en ec, .int .i64 least, .int .i64 mt] w (fun e w' => ∃ (A : Option Addr) (k c : Nat), e = .returned (.slice A k c) ∧ SlT sgEnc 1 9 w' A k (idL el mt least vl) ∧ w.grownBy w' none) := by
 refine gw_enter ⟨43, w, none, []⟩ Tryz.func52 rfl Tryz.ntmps52 rfl (mem0 (X := [SlOld vhEnc 2 77 w.heap.size none vA vn vl, SlOld evEnc 5 92 w.heap.size none eA en el]) (allF_cons hv.old (allF_cons hl.old allF_nil)) (allL_cons SlOld.lasts (allL_cons SlOld.lasts allL_nil))) ?_
 refine sr_ ?_
 have hlen := hv.len
 refine wl_nilOwn 9 1 ?_
 refine wl_box rfl rfl rfl fun g1 => ?_
 refine sg_ rfl (nn_ (sr_ (sg_ rfl (nn_ (gw_seq (sr_ (fd_ fo31_2 rfl rfl (lk_ sc28 0 rfl rfl rfl (wl_ov (ov_len es28 rfl) rfl ?_)))))))))
 refine mv_ rfl (nn_ (gw_block ?_))
 refine gw_loop (γ := Nat × Nat × Option Addr × Nat) (fun g => g.1 ≤ vn ∧ g.2.1 ≤ g.1 ∧ (idL el mt least (vl.take g.1)).length = g.2.1) (fun g => [(1, .slice eA en ec), (2, .int .i64 least), (3, .int .i64 mt), (8, .slice none 0 0), (9, .slice g.2.2.1 g.2.1 g.2.2.2), (14, .slice vA vn vc), (15, .int .i64 ((vn : Nat) : Int)), (16, .int .i64 ((g.1 : Nat) : Int))]) (fun g => fun _ => True) (fun g => [(g1, 31, [.slice sA sn sc, .slice cA cn cc, .slice vA vn vc, .slice pA pn pc])]) (fun g => [⟨.slice g.2.2.1 g.2.1 g.2.2.2, 9, 1, g.2.1, (idL el mt least (vl.take g.1)).flatMap sgEnc⟩]) (fun g => [SlOld vhEnc 2 77 w.heap.size none vA vn vl, SlOld evEnc 5 92 w.heap.size none eA en el]) (fun g => vn - g.1) (0, 0, none, 0) ⟨Nat.zero_le _, Nat.le_refl _, rfl⟩ ⟨rfl, rfl, rfl, rfl, rfl, rfl, rfl, rfl, trivial⟩ (fun _ hm => hm.pick [0] [0] [0, 1] rfl rfl) ?_
 rintro ⟨i, k, oA, oc⟩ hinv
 replace hinv : i ≤ vn ∧ k ≤ i ∧ (idL el mt least (vl.take i)).length = k := hinv
 dsimp only
 refine sr_ ?_
 obtain ⟨hi0, hki, hol⟩ := hinv
 refine wl_ov (ov_lss rfl rfl) rfl (nn_ (gw_seq ?_))
 refine gw_cond rfl (fun hh => ?_) (fun hh => ?_)
 ·have hi : ((i : Nat) : Int) < ((vn : Nat) : Int) := by simpa using hh
  clear hh
  refine gw_skip (nx_then (gw_seq (gw_block (sr_ ?_))))
  obtain ⟨b, off, hA, _, _⟩ := hv.get (by omega)
  subst hA
  obtain ⟨x, hx⟩ : ∃ x, vl[i]? = some x := ⟨_, List.getElem?_eq_getElem (by omega)⟩
  obtain ⟨vk, vc2⟩ := x
  have hat := id_at (el := el) (mt := mt) (least := least) hx
  have hbd := stateR_bd (v := vk) (at_ := mt) heok
  obtain ⟨S0, hS0⟩ : ∃ z, z = stateR el vk mt := ⟨_, rfl⟩
  rw [← hS0] at hbd
  obtain ⟨s0, s1, s2⟩ := S0
  dsimp only at hbd
  have hid : idB el mt least ⟨vk, vc2⟩ = (decide (s0 = 1) && decide (least ≤ mt - s2)) := by unfold idB; dsimp only; rw [← hS0]
  refine wl_ov (ov_index (j := i) es28 rfl rfl (by omega)) rfl ?_
  refine wl_ov (ov_elem (vs := [.string vk, .string vc2]) rz77 rfl (fun _ hm => (hm.fact 0 rfl).1) hx rfl rfl) rfl ?_
  refine wl_alloc zc77 rfl fun g2 => ?_
  refine wl_stores (cs' := [.string vk, .string vc2]) 0 rz77 rfl rfl rfl rfl rfl rfl rfl rfl ?_
  refine nn_ (sr_ (mv_ rfl (fd_ fo77_0 rfl rfl (lk_ sc9 0 rfl rfl rfl (mv_ rfl ?_)))))
  refine wl_callv (v := .agg #[.int .i64 s0, .string s1, .int .i64 s2]) rfl cb75 rfl rfl (fun wx hm => (by have h := rStateAt_any el eA en ec vk mt wx (hm.fact 1 rfl).1 (by omega); rw [← hS0] at h; exact h)) ?_
  refine wl_alloc zc132 rfl fun g3 => ?_
  refine wl_stores (cs' := [.int .i64 s0, .string s1, .int .i64 s2]) 0 rz132 rfl rfl rfl rfl rfl rfl rfl rfl ?_
  refine nn_ (sr_ (fd_ fo132_0 rfl rfl (lk_ sc3 0 rfl rfl rfl (wl_ov (ov_eql rfl rfl) rfl (mv_ rfl ?_)))))
  rcases Bool.eq_false_or_eq_true (decide (s0 = 1)) with h0 | h0
  ·refine wl_set 28 rfl (congrArg Value.bool h0) ?_
   have h0 := of_decide_eq_true h0
   refine wl_guard_on rfl rfl rfl (mv_ rfl (wl_guard_on rfl rfl rfl (fd_ fo132_2 rfl rfl (wl_guard_on rfl rfl rfl (lk_ sc3 0 rfl rfl rfl (wl_guard_on rfl rfl rfl ?_))))))
   refine wl_ov (ov_sub rfl rfl (by omega) (by omega)) rfl ?_
   refine wl_guard_on rfl rfl rfl (mv_ rfl (wl_guard_on rfl rfl rfl ?_))
   refine wl_ov (ov_geq rfl rfl) rfl ?_
   refine pt_ rfl rfl (nn_ ?_)
   refine gw_cond rfl (fun hh => ?_) (fun hh => ?_)
   ·have hq : least ≤ mt - s2 := by simpa using hh
    clear hh
    refine gw_region ?_
    have hb : idB el mt least ⟨vk, vc2⟩ = true := by rw [hid, decide_eq_true (show s0 = 1 by omega), decide_eq_true (show least ≤ mt - s2 by omega)]; rfl
    rw [if_pos hb] at hat
    dsimp only at hat
    refine mv_ rfl (fd_ fo77_0 rfl rfl (lk_ sc9 1 rfl rfl rfl ?_))
    refine wl_buildSlice (e := 9) (cs := [.string vk]) rfl (by kernel_rfl) rfl fun g4 => ?_
    refine wl_append (news := [.string vk]) 0 0 ap81 rfl rfl rfl rfl rfl rfl rfl (by omega) (by unfold maxLen; omega) rfl rfl fun v2 hv2 => ?_
    refine wl_look (R := ∃ A cc, v2 = .slice A (k + 1) cc) (fun wx hm => own_slice (hm.ownI 0 rfl)) ?_
    rintro ⟨A3, c3, rfl⟩
    have hxs : (idL el mt least (vl.take i)).flatMap sgEnc ++ ([.string vk] : List Value) = (idL el mt least (vl.take (i + 1))).flatMap sgEnc := by rw [hat]; simp [sgEnc]
    rw [hxs]
    refine sg_ rfl (wl_nil (nx_blk_nrm (nx_then (gw_region (ad_ rfl rfl (mv_ rfl (wl_nil ?_)))))))
    exact nx_round (i + 1, k + 1, A3, c3) ⟨by dsimp only; omega, by dsimp only; omega, by dsimp only; rw [hat, List.length_append, hol]; rfl⟩ (by dsimp only; omega) ⟨rfl, rfl, rfl, rfl, rfl, rfl, rfl, (some_int (by omega)), trivial⟩ (fun _ hm => hm.pick [3] [0] [0, 1] rfl rfl)
   have hq : ¬ (least ≤ mt - s2) := by simpa using hh
   clear hh
   refine gw_skip (nx_blk_nrm (nx_then (gw_region ?_)))
   have hb : idB el mt least ⟨vk, vc2⟩ = false := Bool.eq_false_iff.2 fun hc => by rw [hid, Bool.and_eq_true, decide_eq_true_eq, decide_eq_true_eq] at hc; omega
   rw [if_neg (by rw [hb]; decide), List.append_nil] at hat
   rw [← hat]
   refine ad_ rfl rfl (mv_ rfl (wl_nil ?_))
   exact nx_round (i + 1, k, oA, oc) ⟨by dsimp only; omega, by dsimp only; omega, by dsimp only; rw [hat]; exact hol⟩ (by dsimp only; omega) ⟨rfl, rfl, rfl, rfl, rfl, rfl, rfl, (some_int (by omega)), trivial⟩ (fun _ hm => hm.pick [2] [0] [0, 1] rfl rfl)
  refine wl_set 28 rfl (congrArg Value.bool h0) ?_
  have h0 := of_decide_eq_false h0
  have hb : idB el mt least ⟨vk, vc2⟩ = false := Bool.eq_false_iff.2 fun hc => by rw [hid, Bool.and_eq_true, decide_eq_true_eq, decide_eq_true_eq] at hc; omega
  rw [if_neg (by rw [hb]; decide), List.append_nil] at hat
  rw [← hat]
  refine goff rfl rfl rfl (goff rfl rfl rfl (goff rfl rfl rfl (goff rfl rfl rfl (goff rfl rfl rfl (goff rfl rfl rfl (pf_ rfl rfl (nn_ (cf_ rfl (gw_skip (nx_blk_nrm (nx_then (gw_region ?_))))))))))))
  refine ad_ rfl rfl (mv_ rfl (wl_nil ?_))
  exact nx_round (i + 1, k, oA, oc) ⟨by dsimp only; omega, by dsimp only; omega, by dsimp only; rw [hat]; exact hol⟩ (by dsimp only; omega) ⟨rfl, rfl, rfl, rfl, rfl, rfl, rfl, (some_int (by omega)), trivial⟩ (fun _ hm => hm.pick [2] [0] [0, 1] rfl rfl)
 have hi : ¬ (((i : Nat) : Int) < ((vn : Nat) : Int)) := by simpa using hh
 clear hh
 refine gw_exit ?_
 refine nx_then_exit (nx_then_exit ?_)
 refine nx_blk_here ?_
 refine nx_then (sr_ ?_)
 have hall : vl.take i = vl := List.take_of_length_le (by omega)
 rw [hall] at hol
 rw [hall]
 refine mv_ rfl (sg_ rfl (nn_ ?_))
 refine gw_ret ?_
 refine nx_ret1 rfl rfl fun wx hm => ?_
 exact ⟨oA, k, oc, rfl, SlT.ofOwn sg_len (hm.ownI 0 rfl) hol, hm.g⟩
end Go.Proofs.YtjecbkgjabnmoaaGreatDoor
namespace Go.Proofs.YtjecbkgjabnmoaaGreatDoor
open Go.RowKit
theorem zc193 : zeroCs Tryz.prog 193 = some [.map none] := by kernel_rfl
def rdE (sl : List St) (cl : List Cs) (vl : List Vh) (pl : List Pl) (el : List Ev) (sk ck : ByteArray) (mt : Int) : Int := firstE [evsE sl cl vl pl el, whenE (!sl.any (stP sk) || decide (ixP (csP ck) cl 0 < 0)) 8, momentE mt]
theorem class_fine {sl : List St} {cl : List Cs} {vl : List Vh} {pl : List Pl} (h : fleetE sl cl vl pl = 0) : Closed cl ∧ loopB cl cl.length = false := (classesE_ok (fe_all h (classesE cl) (by simp))).2
theorem lotReady_any (sl : List St) (cl : List Cs) (vl : List Vh) (pl : List Pl) (sA cA vA pA : Option Addr) (sn sc cn cc vn vc pn pc : Nat) (el : List Ev) (eA : Option Addr) (en ec : Nat) (sk ck : ByteArray) (mt : Int) (w : World) (hs : SlT stEnc 15 140 w sA sn sl) (hc : SlT csEnc 2 159 w cA cn cl) (hv : SlT vhEnc 2 77 w vA vn vl) (hp : SlT plEnc 3 143 w pA pn pl) (hsok : ∀ x ∈ sl, StOk x) (hcok : ∀ x ∈ cl, CsOk x) (hvok : ∀ x ∈ vl, VhOk x) (hpok : ∀ x ∈ pl, PlOk x) (hsn : sn ≤ 1000) (hcn : cn ≤ 1000) (hvn : vn ≤ 1000) (hpn : pn ≤ 1000) (hl : SlT evEnc 5 92 w eA en el) (heok : ∀ x ∈ el, EvOk x) (hen : en ≤ 100000) (hvn2 : vn ≤ 19) :
  Calls Tryz.prog 46 #[.agg #[.slice sA sn sc, .slice cA cn cc, .slice vA vn vc, .slice pA pn pc], .slice eA en ec, .string sk, .string ck, .int .i64 mt] w (fun e w' => ∃ (A : Option Addr) (k c : Nat), e = .returned (.tuple #[.slice A k c, .int .i64 (rdE sl cl vl pl el sk ck mt)]) ∧ (rdE sl cl vl pl el sk ck mt = 0 → SlT sgEnc 1 9 w' A k (rfsL cl ck el mt sk vl cl.length) ∧ k ≤ vn) ∧ (rdE sl cl vl pl el sk ck mt ≠ 0 → A = none ∧ k = 0 ∧ c = 0) ∧ w.grownBy w' none) := by
 refine gw_enter ⟨94, w, none, []⟩ Tryz.func46 rfl Tryz.ntmps46 rfl (mem0 (X := [SlOld stEnc 15 140 w.heap.size none sA sn sl, SlOld csEnc 2 159 w.heap.size none cA cn cl, SlOld vhEnc 2 77 w.heap.size none vA vn vl, SlOld plEnc 3 143 w.heap.size none pA pn pl, SlOld evEnc 5 92 w.heap.size none eA en el]) (allF_cons hs.old (allF_cons hc.old (allF_cons hv.old (allF_cons hp.old (allF_cons hl.old allF_nil))))) (allL_cons SlOld.lasts (allL_cons SlOld.lasts (allL_cons SlOld.lasts (allL_cons SlOld.lasts (allL_cons SlOld.lasts allL_nil)))))) ?_
 refine sr_ ?_
 have hlen := hv.len
 obtain ⟨FE, hFE⟩ : ∃ z, z = evsE sl cl vl pl el := ⟨_, rfl⟩
 obtain ⟨TE, hTE⟩ : ∃ z, z = rdE sl cl vl pl el sk ck mt := ⟨_, rfl⟩
 rw [← hTE]
 have hT0 : TE = firstE [FE, whenE (!sl.any (stP sk) || decide (ixP (csP ck) cl 0 < 0)) 8, momentE mt] := by rw [hTE, hFE]; rfl
 refine wl_box rfl rfl rfl fun g1 => ?_
 refine sg_ rfl (sg_ rfl (nn_ (gw_seq (sr_ ?_))))
 refine wl_ov (ov_loads rz31 rfl (fun _ hm => hm.blkI 0 rfl) rfl rfl) rfl ?_
 refine mv_ rfl ?_
 refine wl_callv (v := .int .i64 FE) rfl cb56 rfl rfl (fun wx hm => (by rw [hFE]; exact check2_any sl cl vl pl sA cA vA pA sn sc cn cc vn vc pn pc el eA en ec wx (hm.fact 0 rfl).1 (hm.fact 1 rfl).1 (hm.fact 2 rfl).1 (hm.fact 3 rfl).1 hsok hcok hvok hpok hsn hcn hvn hpn (hm.fact 4 rfl).1 heok hen)) ?_
 refine sg_ rfl (nn_ (sr_ (mv_ rfl (wl_ov (ov_neq rfl rfl) rfl (nn_ ?_)))))
 refine gw_cond rfl (fun hh => ?_) (fun hh => ?_)
 ·have h1 : ¬ (FE = 0) := by simpa using hh
  clear hh
  refine sr_ ?_
  have h2 : FE ≠ 0 := by simpa using h1
  have h3 : TE = FE := by rw [hT0]; exact fe_hd h2
  refine mv_ rfl (sg_ rfl (sg_ rfl (nn_ ?_)))
  refine gw_ret ?_
  refine nx_then_ret ?_
  refine nx_ret2 rfl rfl rfl fun wx hm => ?_
  exact ⟨none, 0, 0, by rw [h3], fun h => absurd h (by rw [h3]; exact h2), fun _ => ⟨rfl, rfl, rfl⟩, hm.g⟩
 have h1 : FE = 0 := by simpa using hh
 clear hh
 refine gw_skip (nx_then (gw_seq (sr_ ?_)))
 have h2 : FE = 0 := by simpa using h1
 obtain ⟨hf0, hl0⟩ := evs_ok (hFE.symm.trans h2)
 obtain ⟨hsort, _, _⟩ := log_ok hl0
 obtain ⟨hcl, hlo⟩ := class_fine hf0
 have hrise : Rise vl := fleet_rise hf0
 have hT1 : TE = firstE [whenE (!sl.any (stP sk) || decide (ixP (csP ck) cl 0 < 0)) 8, momentE mt] := by rw [hT0, h2]; exact fe_tl
 refine wl_ov (ov_loads rz31 rfl (fun _ hm => hm.blkI 0 rfl) rfl rfl) rfl ?_
 refine mv_ rfl ?_
 refine wl_callv rfl cb120 rfl rfl (fun wx hm => (hasStation_any sl sA cA vA pA sn sc cn cc vn vc pn pc sk wx (hm.fact 0 rfl).1 hsok (by omega))) ?_
 refine wl_ov (ov_un_not rfl) rfl (mv_ rfl ?_)
 rcases Bool.eq_false_or_eq_true (!(sl.any (stP sk))) with hg1 | hg1
 ·refine wl_set 31 rfl (congrArg Value.bool hg1) ?_
  have hT2 : TE = firstE [whenE true 8, momentE mt] := by rw [hT1, hg1, Bool.true_or]
  refine goff rfl rfl rfl (goff rfl rfl rfl (goff rfl rfl rfl (goff rfl rfl rfl (goff rfl rfl rfl (pt_ rfl rfl ?_)))))
  refine wl_callw rfl cb79 rfl rfl (fun wx hm => (when_any _ _ wx)) ?_
  refine mv_ rfl ?_
  refine wl_callw rfl cb81 rfl rfl (fun wx hm => (moment_any _ wx)) ?_
  refine wl_buildSlice (e := 35) (cs := [.int .i64 (whenE true 8), .int .i64 (momentE mt)]) rfl (by kernel_rfl) rfl fun g2 => ?_
  refine wl_callw rfl cb78 rfl rfl (fun wx hm => (first_any [whenE true 8, momentE mt] _ _ _ wx (hm.blkI 0 rfl) (by simp))) ?_
  refine sg_ rfl (nn_ (sr_ (mv_ rfl (wl_ov (ov_neq rfl rfl) rfl (nn_ ?_)))))
  refine gw_cond rfl (fun hh => ?_) (fun hh => ?_)
  ·have h3 : ¬ (firstE [whenE true 8, momentE mt] = 0) := by simpa using hh
   clear hh
   refine sr_ ?_
   have h4 : TE ≠ 0 := by rw [hT2]; simpa using h3
   refine mv_ rfl (sg_ rfl (sg_ rfl (nn_ ?_)))
   refine gw_ret ?_
   refine nx_then_ret ?_
   refine nx_ret2 rfl rfl rfl fun wx hm => ?_
   exact ⟨none, 0, 0, by rw [hT2], fun h => absurd h h4, fun _ => ⟨rfl, rfl, rfl⟩, hm.g⟩
  have h3 : firstE [whenE true 8, momentE mt] = 0 := by simpa using hh
  clear hh
  refine gw_skip (nx_then (sr_ ?_))
  have h4 : TE = 0 := by rw [hT2]; simpa using h3
  exact absurd (fe_all (hT2.symm.trans h4) (whenE true 8) (by simp)) (by decide)
 refine wl_set 31 rfl (congrArg Value.bool hg1) ?_
 have hT2 : TE = firstE [whenE (decide (ixP (csP ck) cl 0 < 0)) 8, momentE mt] := by rw [hT1, hg1, Bool.false_or]
 refine wl_guard_on rfl rfl rfl (fd_ fo31_1 rfl rfl (wl_guard_on rfl rfl rfl (lk_ sc27 0 rfl rfl rfl (wl_guard_on rfl rfl rfl (mv_ rfl (wl_guard_on rfl rfl rfl ?_))))))
 refine wl_callv rfl cb98 rfl rfl (fun wx hm => (classAt_any cl cA cn cc ck wx (hm.fact 1 rfl).1 (by omega))) ?_
 refine wl_guard_on rfl rfl rfl (wl_ov (ov_lss rfl rfl) rfl (pf_ rfl rfl ?_))
 refine wl_callw rfl cb79 rfl rfl (fun wx hm => (when_any _ _ wx)) ?_
 refine mv_ rfl ?_
 refine wl_callw rfl cb81 rfl rfl (fun wx hm => (moment_any _ wx)) ?_
 refine wl_buildSlice (e := 35) (cs := [.int .i64 (whenE (decide (ixP (csP ck) cl 0 < 0)) 8), .int .i64 (momentE mt)]) rfl (by kernel_rfl) rfl fun g3 => ?_
 refine wl_callw rfl cb78 rfl rfl (fun wx hm => (first_any [whenE (decide (ixP (csP ck) cl 0 < 0)) 8, momentE mt] _ _ _ wx (hm.blkI 0 rfl) (by simp))) ?_
 refine sg_ rfl (nn_ (sr_ (mv_ rfl (wl_ov (ov_neq rfl rfl) rfl (nn_ ?_)))))
 refine gw_cond rfl (fun hh => ?_) (fun hh => ?_)
 ·have h3 : ¬ (firstE [whenE (decide (ixP (csP ck) cl 0 < 0)) 8, momentE mt] = 0) := by simpa using hh
  clear hh
  refine sr_ ?_
  have h4 : TE ≠ 0 := by rw [hT2]; simpa using h3
  refine mv_ rfl (sg_ rfl (sg_ rfl (nn_ ?_)))
  refine gw_ret ?_
  refine nx_then_ret ?_
  refine nx_ret2 rfl rfl rfl fun wx hm => ?_
  exact ⟨none, 0, 0, by rw [hT2], fun h => absurd h h4, fun _ => ⟨rfl, rfl, rfl⟩, hm.g⟩
 have h3 : firstE [whenE (decide (ixP (csP ck) cl 0 < 0)) 8, momentE mt] = 0 := by simpa using hh
 clear hh
 refine gw_skip (nx_then (sr_ ?_))
 have h4 : TE = 0 := by rw [hT2]; simpa using h3
 obtain ⟨hmt0, hmt1⟩ := moment_nn (fe_all (hT2.symm.trans h4) (momentE mt) (by simp))
 have hck := fe_all (hT2.symm.trans h4) (whenE (decide (ixP (csP ck) cl 0 < 0)) 8) (by simp)
 have hix : 0 ≤ ixP (csP ck) cl 0 := by
  by_cases h : ixP (csP ck) cl 0 < 0
  ·rw [decide_eq_true h] at hck; cases hck
  omega
 have hst : ∀ v, ((statesM el mt) v).getD sa0 = stateR el v mt := fun v => statesM_eq hsort hmt0
 refine mv_ rfl (mv_ rfl ?_)
 refine wl_callx (γ := Nat) (val := (fun g => .map (some g))) (φ := (fun g => True)) (Y := (fun g => fun wy => MapF encS 0 g (statesM el mt) wy)) rfl cb121 rfl rfl (fun wx hm => (states_any el eA en ec mt wx (hm.fact 4 rfl).1 hen).mono fun _ _ ⟨g, he, h1, hg⟩ => ⟨g, he, trivial, hg, h1⟩) (fun _ => MapF.lasts2) ?_
 rintro m1 hphi
 clear hphi
 refine wl_nilOwn 9 1 ?_
 refine sg_ rfl (nn_ (sr_ ?_))
 refine wl_makeMapN (enc := (Value.int .i64)) 0 rfl rfl fun g4 hne_g4 => ?_
 refine wl_alloc zc193 rfl fun g5 => ?_
 refine wl_store 0 sc193 rfl rfl rfl rfl rfl rfl ?_
 refine nn_ (sr_ (sg_ rfl (nn_ (gw_seq (sr_ (fd_ fo31_2 rfl rfl (lk_ sc28 2 rfl rfl rfl (wl_ov (ov_len es28 rfl) rfl (mv_ rfl ?_)))))))))
 refine nn_ (gw_block ?_)
 refine gw_loop (γ := Nat × (ByteArray → Option Int) × Nat × Option Addr × Nat) (fun gg => gg.1 ≤ vn ∧ gg.2.2.1 ≤ gg.1 ∧ (rdL cl ck el mt sk (vl.take gg.1)).length = gg.2.2.1 ∧ FarOk cl ck el mt sk gg.2.1 (vl.take gg.1)) (fun gg => [(2, .string sk), (3, .string ck), (5, .pointer (some ⟨g1, 0, none⟩)), (10, .slice none 0 0), (11, .int .i64 0), (14, .map (some m1)), (15, .pointer (some ⟨g5, 0, none⟩)), (16, .slice gg.2.2.2.1 gg.2.2.1 gg.2.2.2.2), (51, .slice vA vn vc), (52, .int .i64 ((vn : Nat) : Int)), (53, .int .i64 ((gg.1 : Nat) : Int))]) (fun gg => fun _ => True) (fun gg => [(g5, 193, [.map (some g4)]), (g3, 35, [.int .i64 (whenE (decide (ixP (csP ck) cl 0 < 0)) 8), .int .i64 (momentE mt)]), (g1, 31, [.slice sA sn sc, .slice cA cn cc, .slice vA vn vc, .slice pA pn pc])]) (fun gg => [⟨.slice gg.2.2.2.1 gg.2.2.1 gg.2.2.2.2, 9, 1, gg.2.2.1, (rdL cl ck el mt sk (vl.take gg.1)).flatMap sgEnc⟩]) (fun gg => [MapF (Value.int .i64) w.heap.size g4 (gg.2.1), fun wy => MapF encS 0 m1 (statesM el mt) wy, SlOld stEnc 15 140 w.heap.size none sA sn sl, SlOld csEnc 2 159 w.heap.size none cA cn cl, SlOld vhEnc 2 77 w.heap.size none vA vn vl, SlOld plEnc 3 143 w.heap.size none pA pn pl, SlOld evEnc 5 92 w.heap.size none eA en el]) (fun gg => vn - gg.1) (0, fNil, 0, none, 0) ⟨Nat.zero_le _, Nat.le_refl _, rfl, (fun _ h => by cases h)⟩ ⟨rfl, rfl, rfl, rfl, rfl, rfl, rfl, rfl, rfl, rfl, rfl, trivial⟩ (fun _ hm => hm.pick [0, 1, 2] [0] [0, 1, 2, 3, 4, 5, 6] rfl rfl) ?_
 rintro ⟨i, F, k, oA, oc⟩ hinv
 replace hinv : i ≤ vn ∧ k ≤ i ∧ (rdL cl ck el mt sk (vl.take i)).length = k ∧ FarOk cl ck el mt sk F (vl.take i) := hinv
 dsimp only
 refine sr_ ?_
 obtain ⟨hi0, hki, hol, hfar⟩ := hinv
 refine wl_ov (ov_lss rfl rfl) rfl (nn_ (gw_seq ?_))
 refine gw_cond rfl (fun hh => ?_) (fun hh => ?_)
 ·have hi : ((i : Nat) : Int) < ((vn : Nat) : Int) := by simpa using hh
  clear hh
  refine gw_skip (nx_then (gw_seq (gw_block (sr_ ?_))))
  obtain ⟨b, off, hA, _, _⟩ := hv.get (by omega)
  subst hA
  obtain ⟨x, hx⟩ : ∃ x, vl[i]? = some x := ⟨_, List.getElem?_eq_getElem (by omega)⟩
  obtain ⟨vk, vc2⟩ := x
  have hat := rd_at (cl := cl) (c := ck) (el := el) (mt := mt) (st := sk) hx
  obtain ⟨S0, hS0⟩ : ∃ z, z = stateR el vk mt := ⟨_, rfl⟩
  obtain ⟨s0, s1, s2⟩ := S0
  obtain ⟨SV, hSV⟩ : ∃ z, z = stepsV cl ck vc2 := ⟨_, rfl⟩
  have hsb := stepsV_bound cl ck vc2
  rw [← hSV] at hsb
  have hcll := hc.len
  have hgd : goodV cl ck el mt sk ⟨vk, vc2⟩ = (decide (s0 = 1) && s1.toList == sk.toList && decide (0 ≤ SV)) := by unfold goodV readyB; dsimp only; rw [← hS0, ← hSV]
  refine wl_ov (ov_index (j := i) es28 rfl rfl (by omega)) rfl ?_
  refine wl_ov (ov_elem (vs := [.string vk, .string vc2]) rz77 rfl (fun _ hm => (hm.fact 4 rfl).1) hx rfl rfl) rfl ?_
  refine wl_alloc zc77 rfl fun g6 => ?_
  refine wl_stores (cs' := [.string vk, .string vc2]) 0 rz77 rfl rfl rfl rfl rfl rfl rfl rfl ?_
  refine nn_ (gw_seq ?_)
  refine gd (fun wz => Blk wz g6 77 [.string vk, .string vc2] ∧ Blk wz g5 193 [.map (some g4)] ∧ Blk wz g3 35 [.int .i64 (whenE (decide (ixP (csP ck) cl 0 < 0)) 8), .int .i64 (momentE mt)] ∧ Blk wz g1 31 [.slice sA sn sc, .slice cA cn cc, .slice (some ⟨b, off, none⟩) vn vc, .slice pA pn pc] ∧ (MapF (Value.int .i64) w.heap.size g4 (F)) wz ∧ (fun wy => MapF encS 0 m1 (statesM el mt) wy) wz ∧ (SlOld stEnc 15 140 w.heap.size none sA sn sl) wz ∧ (SlOld csEnc 2 159 w.heap.size none cA cn cl) wz ∧ (SlOld vhEnc 2 77 w.heap.size none (some ⟨b, off, none⟩) vn vl) wz ∧ (SlOld plEnc 3 143 w.heap.size none pA pn pl) wz ∧ (SlOld evEnc 5 92 w.heap.size none eA en el) wz ∧ True) mixed (fun _ hm => ⟨hm.bl 0, hm.bl 1, hm.bl 2, hm.bl 3, hm.fa 0, hm.fa 1, hm.fa 2, hm.fa 3, hm.fa 4, hm.fa 5, hm.fa 6, trivial⟩) fun z => ?_
  refine wt 0 13 1 rfl z (ov_move rfl) ?_
  refine wt 1 13 3 rfl z (ov_field fo77_0 rfl rfl) ?_
  refine wt 2 13 7 rfl z (ov_load sc9 rfl (fun _ hm => hm.1) rfl) ?_
  refine wt 3 13 15 rfl z (ov_lookF (enc := encS) (k := 9) (e := 132) sa0 (by kernel_rfl) (by kernel_rfl) (by kernel_rfl) rfl rfl (fun _ hm => (hm.2.2.2.2.2.1))) ?_
  refine wa_set 60 (v' := .agg #[.int .i64 s0, .string s1, .int .i64 s2]) rfl (congrArg encS ((hst vk).trans hS0.symm)) ?_
  refine wt 4 13 31 rfl z (ov_field fo31_1 rfl rfl) ?_
  refine wt 5 13 63 rfl z (ov_load sc27 rfl (fun _ hm => hm.2.2.2.1) rfl) ?_
  refine wt 6 13 127 rfl z (ov_move rfl) ?_
  refine wt 7 13 255 rfl z (ov_field fo77_1 rfl rfl) ?_
  refine wt 8 13 511 rfl z (ov_load sc9 rfl (fun _ hm => hm.1) rfl) ?_
  refine wa_all [9, 10] (by kernel_rfl) rfl ⟨⟨_, rfl, ?_⟩, ⟨_, rfl, ?_⟩, trivial⟩
  ·refine wl_callv (v := .int .i64 SV) rfl cb122 rfl rfl (fun wx hm => (by have h := steps_any cl cA cn cc ck vc2 wx (hm.fact 3 rfl).1 hcl hix (by omega); rw [← hSV] at h; exact h)) ?_
   refine wl_nil ?_
   refine nw 13 1023 (fun _ hm => ⟨hm.bl 0, hm.bl 1, hm.bl 2, hm.bl 3, hm.fa 0, hm.fa 1, hm.fa 2, hm.fa 3, hm.fa 4, hm.fa 5, hm.fa 6, trivial⟩) fun z => ?_
   refine wa1 10 rfl ?_
   refine wl_alloc zc132 rfl fun g7 => ?_
   refine wl_nil ?_
   refine nw 13 2047 (fun _ hm => ⟨hm.bl 1, hm.bl 2, hm.bl 3, hm.bl 4, hm.fa 0, hm.fa 1, hm.fa 2, hm.fa 3, hm.fa 4, hm.fa 5, hm.fa 6, trivial⟩) fun z => ?_
   refine wa1 11 rfl ?_
   refine wl_stores (cs' := [.int .i64 s0, .string s1, .int .i64 s2]) 0 rz132 rfl rfl rfl rfl rfl rfl rfl rfl ?_
   refine wl_nil ?_
   refine nw 13 4095 (fun _ hm => ⟨hm.bl 1, hm.bl 2, hm.bl 3, hm.bl 4, hm.fa 0, hm.fa 1, hm.fa 2, hm.fa 3, hm.fa 4, hm.fa 5, hm.fa 6, trivial⟩) fun z => ?_
   refine wt 12 13 8191 rfl z (ov_assign rfl) ?_
   refine wa_done (by kernel_rfl) ?_
   refine nx_then (sr_ (fd_ fo132_0 rfl rfl (lk_ sc3 0 rfl rfl rfl (wl_ov (ov_eql rfl rfl) rfl (mv_ rfl ?_)))))
   rcases Bool.eq_false_or_eq_true (decide (s0 = 1)) with h5 | h5
   ·refine wl_set 70 rfl (congrArg Value.bool h5) ?_
    refine wl_guard_on rfl rfl rfl (fd_ fo132_1 rfl rfl (wl_guard_on rfl rfl rfl (lk_ sc9 0 rfl rfl rfl (wl_guard_on rfl rfl rfl (mv_ rfl (wl_guard_on rfl rfl rfl (wl_ov (ov_seql rfl rfl) rfl (pt_ rfl rfl (mv_ rfl ?_)))))))))
    rcases Bool.eq_false_or_eq_true (s1.toList == sk.toList) with h6 | h6
    ·refine wl_set 76 rfl (congrArg Value.bool h6) ?_
     refine wl_guard_on rfl rfl rfl (mv_ rfl (wl_guard_on rfl rfl rfl ?_))
     refine wl_ov (ov_geq rfl rfl) rfl ?_
     refine pt_ rfl rfl (nn_ ?_)
     refine gw_cond rfl (fun hh => ?_) (fun hh => ?_)
     ·have h7 : 0 ≤ SV := by simpa using hh
      clear hh
      refine sr_ ?_
      have hb : goodV cl ck el mt sk ⟨vk, vc2⟩ = true := by rw [hgd, h5, h6, decide_eq_true (show 0 ≤ SV by omega)]; rfl
      rw [if_pos hb] at hat
      dsimp only at hat
      have hfr := far_put hfar hrise hx
      dsimp only at hfr
      rw [← hSV] at hfr
      refine lk_ sc193 2 rfl rfl rfl (fd_ fo77_0 rfl rfl (lk_ sc9 1 rfl rfl rfl (mv_ rfl ?_)))
      refine wl_mapPut (enc := (Value.int .i64)) (v := SV) (k := 9) (e := 3) (X' := [fun wy => MapF encS 0 m1 (statesM el mt) wy, SlOld stEnc 15 140 w.heap.size none sA sn sl, SlOld csEnc 2 159 w.heap.size none cA cn cl, SlOld vhEnc 2 77 w.heap.size none (some ⟨b, off, none⟩) vn vl, SlOld plEnc 3 143 w.heap.size none pA pn pl, SlOld evEnc 5 92 w.heap.size none eA en el]) 0 (by kernel_rfl) (by kernel_rfl) rfl rfl rfl rfl (far_cons (i := 1) (MapF.far hne_g4) rfl (far_cons (i := 2) SlOld.far rfl (far_cons (i := 3) SlOld.far rfl (far_cons (i := 4) SlOld.far rfl (far_cons (i := 5) SlOld.far rfl (far_cons (i := 6) SlOld.far rfl far_nil)))))) ?_
      refine nn_ (gw_region (mv_ rfl (fd_ fo77_0 rfl rfl (lk_ sc9 1 rfl rfl rfl ?_))))
      refine wl_buildSlice (e := 9) (cs := [.string vk]) rfl (by kernel_rfl) rfl fun g8 => ?_
      refine wl_append (news := [.string vk]) 0 0 ap81 rfl rfl rfl rfl rfl rfl rfl (by omega) (by unfold maxLen; omega) rfl rfl fun v2 hv2 => ?_
      refine wl_look (R := ∃ A cc, v2 = .slice A (k + 1) cc) (fun wx hm => own_slice (hm.ownI 0 rfl)) ?_
      rintro ⟨A3, c3, rfl⟩
      have hxs : (rdL cl ck el mt sk (vl.take i)).flatMap sgEnc ++ ([.string vk] : List Value) = (rdL cl ck el mt sk (vl.take (i + 1))).flatMap sgEnc := by rw [hat]; simp [sgEnc]
      rw [hxs]
      refine sg_ rfl (wl_nil (nx_blk_nrm (nx_then (gw_region (ad_ rfl rfl (mv_ rfl (wl_nil ?_)))))))
      exact nx_round (i + 1, fPut (F) vk SV, k + 1, A3, c3) ⟨by dsimp only; omega, by dsimp only; omega, by dsimp only; rw [hat, List.length_append, hol]; rfl, hfr⟩ (by dsimp only; omega) ⟨rfl, rfl, rfl, rfl, rfl, rfl, rfl, rfl, rfl, rfl, (some_int (by omega)), trivial⟩ (fun _ hm => hm.pick [3, 4, 5] [0] [0, 1, 2, 3, 4, 5, 6] rfl rfl)
     have h7 : ¬ (0 ≤ SV) := by simpa using hh
     clear hh
     refine gw_skip (nx_blk_nrm (nx_then (gw_region ?_)))
     have hb : goodV cl ck el mt sk ⟨vk, vc2⟩ = false := by rw [hgd, h5, h6, decide_eq_false (show ¬ 0 ≤ SV by omega)]; rfl
     rw [if_neg (by rw [hb]; decide), List.append_nil] at hat
     rw [← hat]
     refine ad_ rfl rfl (mv_ rfl (wl_nil ?_))
     exact nx_round (i + 1, F, k, oA, oc) ⟨by dsimp only; omega, by dsimp only; omega, by dsimp only; rw [hat]; exact hol, far_skip hfar hx hb⟩ (by dsimp only; omega) ⟨rfl, rfl, rfl, rfl, rfl, rfl, rfl, rfl, rfl, rfl, (some_int (by omega)), trivial⟩ (fun _ hm => hm.pick [2, 3, 4] [0] [0, 1, 2, 3, 4, 5, 6] rfl rfl)
    refine wl_set 76 rfl (congrArg Value.bool h6) ?_
    have hb : goodV cl ck el mt sk ⟨vk, vc2⟩ = false := by rw [hgd, h5, h6]; rfl
    rw [if_neg (by rw [hb]; decide), List.append_nil] at hat
    rw [← hat]
    refine goff rfl rfl rfl (goff rfl rfl rfl (pf_ rfl rfl (nn_ (cf_ rfl (gw_skip (nx_blk_nrm (nx_then (gw_region (ad_ rfl rfl (mv_ rfl (wl_nil ?_)))))))))))
    exact nx_round (i + 1, F, k, oA, oc) ⟨by dsimp only; omega, by dsimp only; omega, by dsimp only; rw [hat]; exact hol, far_skip hfar hx hb⟩ (by dsimp only; omega) ⟨rfl, rfl, rfl, rfl, rfl, rfl, rfl, rfl, rfl, rfl, (some_int (by omega)), trivial⟩ (fun _ hm => hm.pick [2, 3, 4] [0] [0, 1, 2, 3, 4, 5, 6] rfl rfl)
   refine wl_set 70 rfl (congrArg Value.bool h5) ?_
   have hb : goodV cl ck el mt sk ⟨vk, vc2⟩ = false := by rw [hgd, h5]; rfl
   rw [if_neg (by rw [hb]; decide), List.append_nil] at hat
   rw [← hat]
   refine goff rfl rfl rfl (goff rfl rfl rfl (goff rfl rfl rfl (goff rfl rfl rfl (pf_ rfl rfl (mv_ rfl (goff rfl rfl rfl (goff rfl rfl rfl (pf_ rfl rfl (nn_ (cf_ rfl (gw_skip (nx_blk_nrm ?_))))))))))))
   refine nx_then (gw_region (ad_ rfl rfl (mv_ rfl (wl_nil ?_))))
   exact nx_round (i + 1, F, k, oA, oc) ⟨by dsimp only; omega, by dsimp only; omega, by dsimp only; rw [hat]; exact hol, far_skip hfar hx hb⟩ (by dsimp only; omega) ⟨rfl, rfl, rfl, rfl, rfl, rfl, rfl, rfl, rfl, rfl, (some_int (by omega)), trivial⟩ (fun _ hm => hm.pick [2, 3, 4] [0] [0, 1, 2, 3, 4, 5, 6] rfl rfl)
  refine wl_alloc zc132 rfl fun g9 => ?_
  refine wl_nil ?_
  refine nw 13 1535 (fun _ hm => ⟨hm.bl 1, hm.bl 2, hm.bl 3, hm.bl 4, hm.fa 0, hm.fa 1, hm.fa 2, hm.fa 3, hm.fa 4, hm.fa 5, hm.fa 6, trivial⟩) fun z => ?_
  refine wa1 9 rfl ?_
  refine wl_callv (v := .int .i64 SV) rfl cb122 rfl rfl (fun wx hm => (by have h := steps_any cl cA cn cc ck vc2 wx (hm.fact 3 rfl).1 hcl hix (by omega); rw [← hSV] at h; exact h)) ?_
  refine wl_nil ?_
  refine nw 13 2047 (fun _ hm => ⟨hm.bl 1, hm.bl 2, hm.bl 3, hm.bl 4, hm.fa 0, hm.fa 1, hm.fa 2, hm.fa 3, hm.fa 4, hm.fa 5, hm.fa 6, trivial⟩) fun z => ?_
  refine wa1 11 rfl ?_
  refine wl_stores (cs' := [.int .i64 s0, .string s1, .int .i64 s2]) 0 rz132 rfl rfl rfl rfl rfl rfl rfl rfl ?_
  refine wl_nil ?_
  refine nw 13 4095 (fun _ hm => ⟨hm.bl 1, hm.bl 2, hm.bl 3, hm.bl 4, hm.fa 0, hm.fa 1, hm.fa 2, hm.fa 3, hm.fa 4, hm.fa 5, hm.fa 6, trivial⟩) fun z => ?_
  refine wt 12 13 8191 rfl z (ov_assign rfl) ?_
  refine wa_done (by kernel_rfl) ?_
  refine nx_then (sr_ (fd_ fo132_0 rfl rfl (lk_ sc3 0 rfl rfl rfl (wl_ov (ov_eql rfl rfl) rfl (mv_ rfl ?_)))))
  rcases Bool.eq_false_or_eq_true (decide (s0 = 1)) with h5 | h5
  ·refine wl_set 70 rfl (congrArg Value.bool h5) ?_
   refine wl_guard_on rfl rfl rfl (fd_ fo132_1 rfl rfl (wl_guard_on rfl rfl rfl (lk_ sc9 0 rfl rfl rfl (wl_guard_on rfl rfl rfl (mv_ rfl (wl_guard_on rfl rfl rfl (wl_ov (ov_seql rfl rfl) rfl (pt_ rfl rfl (mv_ rfl ?_)))))))))
   rcases Bool.eq_false_or_eq_true (s1.toList == sk.toList) with h6 | h6
   ·refine wl_set 76 rfl (congrArg Value.bool h6) ?_
    refine wl_guard_on rfl rfl rfl (mv_ rfl (wl_guard_on rfl rfl rfl ?_))
    refine wl_ov (ov_geq rfl rfl) rfl ?_
    refine pt_ rfl rfl (nn_ ?_)
    refine gw_cond rfl (fun hh => ?_) (fun hh => ?_)
    ·have h7 : 0 ≤ SV := by simpa using hh
     clear hh
     refine sr_ ?_
     have hb : goodV cl ck el mt sk ⟨vk, vc2⟩ = true := by rw [hgd, h5, h6, decide_eq_true (show 0 ≤ SV by omega)]; rfl
     rw [if_pos hb] at hat
     dsimp only at hat
     have hfr := far_put hfar hrise hx
     dsimp only at hfr
     rw [← hSV] at hfr
     refine lk_ sc193 2 rfl rfl rfl (fd_ fo77_0 rfl rfl (lk_ sc9 1 rfl rfl rfl (mv_ rfl ?_)))
     refine wl_mapPut (enc := (Value.int .i64)) (v := SV) (k := 9) (e := 3) (X' := [fun wy => MapF encS 0 m1 (statesM el mt) wy, SlOld stEnc 15 140 w.heap.size none sA sn sl, SlOld csEnc 2 159 w.heap.size none cA cn cl, SlOld vhEnc 2 77 w.heap.size none (some ⟨b, off, none⟩) vn vl, SlOld plEnc 3 143 w.heap.size none pA pn pl, SlOld evEnc 5 92 w.heap.size none eA en el]) 0 (by kernel_rfl) (by kernel_rfl) rfl rfl rfl rfl (far_cons (i := 1) (MapF.far hne_g4) rfl (far_cons (i := 2) SlOld.far rfl (far_cons (i := 3) SlOld.far rfl (far_cons (i := 4) SlOld.far rfl (far_cons (i := 5) SlOld.far rfl (far_cons (i := 6) SlOld.far rfl far_nil)))))) ?_
     refine nn_ (gw_region (mv_ rfl (fd_ fo77_0 rfl rfl (lk_ sc9 1 rfl rfl rfl ?_))))
     refine wl_buildSlice (e := 9) (cs := [.string vk]) rfl (by kernel_rfl) rfl fun g10 => ?_
     refine wl_append (news := [.string vk]) 0 0 ap81 rfl rfl rfl rfl rfl rfl rfl (by omega) (by unfold maxLen; omega) rfl rfl fun v2 hv2 => ?_
     refine wl_look (R := ∃ A cc, v2 = .slice A (k + 1) cc) (fun wx hm => own_slice (hm.ownI 0 rfl)) ?_
     rintro ⟨A3, c3, rfl⟩
     have hxs : (rdL cl ck el mt sk (vl.take i)).flatMap sgEnc ++ ([.string vk] : List Value) = (rdL cl ck el mt sk (vl.take (i + 1))).flatMap sgEnc := by rw [hat]; simp [sgEnc]
     rw [hxs]
     refine sg_ rfl (wl_nil (nx_blk_nrm (nx_then (gw_region (ad_ rfl rfl (mv_ rfl (wl_nil ?_)))))))
     exact nx_round (i + 1, fPut (F) vk SV, k + 1, A3, c3) ⟨by dsimp only; omega, by dsimp only; omega, by dsimp only; rw [hat, List.length_append, hol]; rfl, hfr⟩ (by dsimp only; omega) ⟨rfl, rfl, rfl, rfl, rfl, rfl, rfl, rfl, rfl, rfl, (some_int (by omega)), trivial⟩ (fun _ hm => hm.pick [3, 4, 5] [0] [0, 1, 2, 3, 4, 5, 6] rfl rfl)
    have h7 : ¬ (0 ≤ SV) := by simpa using hh
    clear hh
    refine gw_skip (nx_blk_nrm (nx_then (gw_region ?_)))
    have hb : goodV cl ck el mt sk ⟨vk, vc2⟩ = false := by rw [hgd, h5, h6, decide_eq_false (show ¬ 0 ≤ SV by omega)]; rfl
    rw [if_neg (by rw [hb]; decide), List.append_nil] at hat
    rw [← hat]
    refine ad_ rfl rfl (mv_ rfl (wl_nil ?_))
    exact nx_round (i + 1, F, k, oA, oc) ⟨by dsimp only; omega, by dsimp only; omega, by dsimp only; rw [hat]; exact hol, far_skip hfar hx hb⟩ (by dsimp only; omega) ⟨rfl, rfl, rfl, rfl, rfl, rfl, rfl, rfl, rfl, rfl, (some_int (by omega)), trivial⟩ (fun _ hm => hm.pick [2, 3, 4] [0] [0, 1, 2, 3, 4, 5, 6] rfl rfl)
   refine wl_set 76 rfl (congrArg Value.bool h6) ?_
   have hb : goodV cl ck el mt sk ⟨vk, vc2⟩ = false := by rw [hgd, h5, h6]; rfl
   rw [if_neg (by rw [hb]; decide), List.append_nil] at hat
   rw [← hat]
   refine goff rfl rfl rfl (goff rfl rfl rfl (pf_ rfl rfl (nn_ (cf_ rfl (gw_skip (nx_blk_nrm (nx_then (gw_region (ad_ rfl rfl (mv_ rfl (wl_nil ?_)))))))))))
   exact nx_round (i + 1, F, k, oA, oc) ⟨by dsimp only; omega, by dsimp only; omega, by dsimp only; rw [hat]; exact hol, far_skip hfar hx hb⟩ (by dsimp only; omega) ⟨rfl, rfl, rfl, rfl, rfl, rfl, rfl, rfl, rfl, rfl, (some_int (by omega)), trivial⟩ (fun _ hm => hm.pick [2, 3, 4] [0] [0, 1, 2, 3, 4, 5, 6] rfl rfl)
  refine wl_set 70 rfl (congrArg Value.bool h5) ?_
  have hb : goodV cl ck el mt sk ⟨vk, vc2⟩ = false := by rw [hgd, h5]; rfl
  rw [if_neg (by rw [hb]; decide), List.append_nil] at hat
  rw [← hat]
  refine goff rfl rfl rfl (goff rfl rfl rfl (goff rfl rfl rfl (goff rfl rfl rfl (pf_ rfl rfl (mv_ rfl (goff rfl rfl rfl (goff rfl rfl rfl (pf_ rfl rfl (nn_ (cf_ rfl (gw_skip (nx_blk_nrm ?_))))))))))))
  refine nx_then (gw_region (ad_ rfl rfl (mv_ rfl (wl_nil ?_))))
  exact nx_round (i + 1, F, k, oA, oc) ⟨by dsimp only; omega, by dsimp only; omega, by dsimp only; rw [hat]; exact hol, far_skip hfar hx hb⟩ (by dsimp only; omega) ⟨rfl, rfl, rfl, rfl, rfl, rfl, rfl, rfl, rfl, rfl, (some_int (by omega)), trivial⟩ (fun _ hm => hm.pick [2, 3, 4] [0] [0, 1, 2, 3, 4, 5, 6] rfl rfl)
 have hi : ¬ (((i : Nat) : Int) < ((vn : Nat) : Int)) := by simpa using hh
 clear hh
 refine gw_exit ?_
 refine nx_then_exit (nx_then_exit ?_)
 refine nx_blk_here ?_
 refine nx_then (sr_ ?_)
 have hall : vl.take i = vl := List.take_of_length_le (by omega)
 rw [hall] at hol hfar
 rw [hall]
 have hre := ready_eq hrise hcl hlo hix hfar
 obtain ⟨os, hos⟩ : ∃ z, z = rdL cl ck el mt sk vl := ⟨_, rfl⟩
 obtain ⟨rs, hrs⟩ : ∃ z, z = rfsL cl ck el mt sk vl cl.length := ⟨_, rfl⟩
 rw [← hos] at hol hre
 rw [← hrs] at hre
 rw [← hos]
 refine mv_ rfl (wl_ov (ov_makeFunc rfl rfl) rfl ?_)
 by_cases hk0 : k = 0
 ·subst hk0
  have hnil : rs = [] := by
   rw [← hre, List.length_eq_zero_iff.1 hol]; rfl
  refine wl_callv rfl cb123 rfl rfl (fun wx hm => (stable0_far oA oc _ wx)) ?_
  refine nn_ (sr_ (mv_ rfl (sg_ rfl (sg_ rfl (nn_ ?_)))))
  refine gw_ret ?_
  refine nx_ret2 rfl rfl rfl fun wx hm => ?_
  exact ⟨oA, 0, oc, by rw [h4], fun _ => ⟨by rw [← hrs, hnil]; exact SlT.nil_ _ _, by omega⟩, fun h => absurd h4 h, hm.g⟩
 refine wl_look (R := ∃ g, oA = some ⟨g, 0, none⟩) (fun wx hm => own_addr (hm.ownI 0 rfl) (by omega)) ?_
 rintro ⟨g5, rfl⟩
 refine wl_callr (v := .tuple #[]) (xs' := rs.flatMap sgEnc) 0 rfl rfl rfl cb123 rfl rfl (fun wx hm => (by have h := (stable_far _ _ F os g5 k oc _ wx (hm.ownI 0 rfl) hol (by omega) (hm.blkFar 0 0 rfl rfl) ((hm.fact 0 rfl).lower (Nat.zero_le _))); rw [hre] at h; exact h)) ?_
 refine nn_ (sr_ (mv_ rfl (sg_ rfl (sg_ rfl (nn_ ?_)))))
 refine gw_ret ?_
 refine nx_ret2 rfl rfl rfl fun wx hm => ?_
 exact ⟨_, k, oc, by rw [h4], fun _ => ⟨by rw [← hrs]; exact SlT.ofOwn sg_len (hm.ownI 0 rfl) (by rw [← hre, isort_len]; exact hol), by omega⟩, fun h => absurd h4 h, hm.g⟩
theorem readyOf_any (cl : List Cs) (vl : List Vh) (sA cA vA pA : Option Addr) (sn sc cn cc vn vc pn pc : Nat) (el : List Ev) (eA : Option Addr) (en ec : Nat) (sk ck : ByteArray) (mt : Int) (w : World) (hc : SlT csEnc 2 159 w cA cn cl) (hv : SlT vhEnc 2 77 w vA vn vl) (hl : SlT evEnc 5 92 w eA en el) (hcok : ∀ x ∈ cl, CsOk x) (hcl : Closed cl) (hlo : loopB cl cl.length = false) (hen : en ≤ 100000) (hcn : cn ≤ 1000) (hvn : vn ≤ 100) :
  Calls Tryz.prog 51 #[.agg #[.slice sA sn sc, .slice cA cn cc, .slice vA vn vc, .slice pA pn pc], .slice eA en ec, .string sk, .string ck, .int .i64 mt] w (fun e w' => ∃ (A : Option Addr) (k c : Nat), e = .returned (.slice A k c) ∧ SlT sgEnc 1 9 w' A k (rfsL cl ck el mt sk vl cl.length) ∧ w.grownBy w' none) := by
 refine gw_enter ⟨70, w, none, []⟩ Tryz.func51 rfl Tryz.ntmps51 rfl (mem0 (X := [SlOld csEnc 2 159 w.heap.size none cA cn cl, SlOld vhEnc 2 77 w.heap.size none vA vn vl, SlOld evEnc 5 92 w.heap.size none eA en el]) (allF_cons hc.old (allF_cons hv.old (allF_cons hl.old allF_nil))) (allL_cons SlOld.lasts (allL_cons SlOld.lasts (allL_cons SlOld.lasts allL_nil)))) ?_
 refine sr_ ?_
 have hlen := hv.len
 have hcll := hc.len
 refine wl_nilOwn 9 1 ?_
 refine wl_box rfl rfl rfl fun g1 => ?_
 refine sg_ rfl (nn_ (sr_ (sg_ rfl (nn_ (gw_seq (sr_ (fd_ fo31_1 rfl rfl (lk_ sc27 0 rfl rfl rfl (wl_ov (ov_len es27 rfl) rfl ?_)))))))))
 refine mv_ rfl (nn_ (gw_block ?_))
 refine gw_loop (γ := Nat × Nat × Option Addr × Nat) (fun g => g.1 ≤ cn ∧ g.2.1 ≤ g.1 * 100 ∧ (rfsL cl ck el mt sk vl g.1).length = g.2.1) (fun g => [(1, .slice eA en ec), (2, .string sk), (3, .string ck), (4, .int .i64 mt), (5, .pointer (some ⟨g1, 0, none⟩)), (10, .slice none 0 0), (11, .slice g.2.2.1 g.2.1 g.2.2.2), (20, .int .i64 ((cn : Nat) : Int)), (21, .int .i64 ((g.1 : Nat) : Int))]) (fun g => fun _ => True) (fun g => [(g1, 31, [.slice sA sn sc, .slice cA cn cc, .slice vA vn vc, .slice pA pn pc])]) (fun g => [⟨.slice g.2.2.1 g.2.1 g.2.2.2, 9, 1, g.2.1, (rfsL cl ck el mt sk vl g.1).flatMap sgEnc⟩]) (fun g => [SlOld csEnc 2 159 w.heap.size none cA cn cl, SlOld vhEnc 2 77 w.heap.size none vA vn vl, SlOld evEnc 5 92 w.heap.size none eA en el]) (fun g => cn - g.1) (0, 0, none, 0) ⟨Nat.zero_le _, Nat.zero_le _, rfl⟩ ⟨rfl, rfl, rfl, rfl, rfl, rfl, rfl, rfl, rfl, trivial⟩ (fun _ hm => hm.pick [0] [0] [0, 1, 2] rfl rfl) ?_
 rintro ⟨i, k, oA, oc⟩ hinv
 replace hinv : i ≤ cn ∧ k ≤ i * 100 ∧ (rfsL cl ck el mt sk vl i).length = k := hinv
 dsimp only
 refine sr_ ?_
 obtain ⟨hi0, hki, hol⟩ := hinv
 refine wl_ov (ov_lss rfl rfl) rfl (nn_ (gw_seq ?_))
 refine gw_cond rfl (fun hh => ?_) (fun hh => ?_)
 ·have hi : ((i : Nat) : Int) < ((cn : Nat) : Int) := by simpa using hh
  clear hh
  refine gw_skip (nx_then (gw_seq (gw_block (sr_ (mv_ rfl (sg_ rfl (nn_ (sr_ (fd_ fo31_2 rfl rfl (lk_ sc28 0 rfl rfl rfl ?_))))))))))
  refine wl_ov (ov_len es28 rfl) rfl (mv_ rfl (nn_ (gw_block ?_)))
  have h00 : rfsL cl ck el mt sk vl i = rfsL cl ck el mt sk vl i ++ rfL cl ck el mt sk (vl.take 0) i := (List.append_nil _).symm
  rw [h00] at hol
  rw [h00]
  refine gw_loop (γ := Nat × Nat × Option Addr × Nat) (fun gg => gg.1 ≤ vn ∧ gg.2.1 ≤ i * 100 + gg.1 ∧ (rfsL cl ck el mt sk vl i ++ rfL cl ck el mt sk (vl.take gg.1) i).length = gg.2.1) (fun gg => [(1, .slice eA en ec), (2, .string sk), (3, .string ck), (4, .int .i64 mt), (5, .pointer (some ⟨g1, 0, none⟩)), (10, .slice none 0 0), (11, .slice gg.2.2.1 gg.2.1 gg.2.2.2), (12, .int .i64 ((i : Nat) : Int)), (20, .int .i64 ((cn : Nat) : Int)), (21, .int .i64 ((i : Nat) : Int)), (25, .slice vA vn vc), (26, .int .i64 ((vn : Nat) : Int)), (27, .int .i64 ((gg.1 : Nat) : Int))]) (fun gg => fun _ => True) (fun gg => [(g1, 31, [.slice sA sn sc, .slice cA cn cc, .slice vA vn vc, .slice pA pn pc])]) (fun gg => [⟨.slice gg.2.2.1 gg.2.1 gg.2.2.2, 9, 1, gg.2.1, (rfsL cl ck el mt sk vl i ++ rfL cl ck el mt sk (vl.take gg.1) i).flatMap sgEnc⟩]) (fun gg => [SlOld csEnc 2 159 w.heap.size none cA cn cl, SlOld vhEnc 2 77 w.heap.size none vA vn vl, SlOld evEnc 5 92 w.heap.size none eA en el]) (fun gg => vn - gg.1) (0, k, oA, oc) ⟨Nat.zero_le _, by dsimp only; omega, hol⟩ ⟨rfl, rfl, rfl, rfl, rfl, rfl, rfl, rfl, rfl, rfl, rfl, rfl, rfl, trivial⟩ (fun _ hm => hm.pick [0] [0] [0, 1, 2] rfl rfl) ?_
  rintro ⟨j, kk, qA, qc⟩ hinv
  replace hinv : j ≤ vn ∧ kk ≤ i * 100 + j ∧ (rfsL cl ck el mt sk vl i ++ rfL cl ck el mt sk (vl.take j) i).length = kk := hinv
  dsimp only
  refine sr_ ?_
  obtain ⟨hj0, hkj, hql⟩ := hinv
  refine wl_ov (ov_lss rfl rfl) rfl (nn_ (gw_seq ?_))
  refine gw_cond rfl (fun hh => ?_) (fun hh => ?_)
  ·have hj : ((j : Nat) : Int) < ((vn : Nat) : Int) := by simpa using hh
   clear hh
   refine gw_skip (nx_then (gw_seq (gw_block (sr_ ?_))))
   obtain ⟨b, off, hA, _, _⟩ := hv.get (by omega)
   subst hA
   obtain ⟨x, hx⟩ : ∃ x, vl[j]? = some x := ⟨_, List.getElem?_eq_getElem (by omega)⟩
   obtain ⟨vk, vc2⟩ := x
   have hat := rf_at (cl := cl) (c := ck) (el := el) (mt := mt) (st := sk) (n := i) hx
   obtain ⟨S0, hS0⟩ : ∃ z, z = stateR el vk mt := ⟨_, rfl⟩
   obtain ⟨s0, s1, s2⟩ := S0
   obtain ⟨SV, hSV⟩ : ∃ z, z = stepsV cl ck vc2 := ⟨_, rfl⟩
   have hsb := stepsV_bound cl ck vc2
   rw [← hSV] at hsb
   have hth : thatB cl ck el mt sk i ⟨vk, vc2⟩ = (decide (SV = (i : Int)) && (decide (s0 = 1) && s1.toList == sk.toList)) := by unfold thatB readyB; dsimp only; rw [← hS0, ← hSV]
   refine wl_ov (ov_index (j := j) es28 rfl rfl (by omega)) rfl ?_
   refine wl_ov (ov_elem (vs := [.string vk, .string vc2]) rz77 rfl (fun _ hm => (hm.fact 1 rfl).1) hx rfl rfl) rfl ?_
   refine wl_alloc zc77 rfl fun g2 => ?_
   refine wl_stores (cs' := [.string vk, .string vc2]) 0 rz77 rfl rfl rfl rfl rfl rfl rfl rfl ?_
   refine nn_ (sr_ (fd_ fo31_1 rfl rfl (lk_ sc27 1 rfl rfl rfl (mv_ rfl (fd_ fo77_1 rfl rfl (lk_ sc9 0 rfl rfl rfl ?_))))))
   refine wl_callv (v := .tuple #[.int .i64 (max SV 0), .bool (decide (0 ≤ SV))]) rfl cb131 rfl rfl (fun wx hm => (by have h := stepsOf_any cl cA cn cc ck vc2 wx (hm.fact 0 rfl).1 hcok (by omega) hcl hlo; rw [← hSV] at h; exact h)) ?_
   refine mv_ rfl (wl_ov (ov_extract rfl rfl) rfl (wl_ov (ov_extract rfl rfl) rfl (sg_ rfl (sg_ rfl (nn_ (sr_ (mv_ rfl (fd_ fo77_0 rfl rfl (lk_ sc9 0 rfl rfl rfl (mv_ rfl ?_))))))))))
   refine wl_callv (v := .agg #[.int .i64 s0, .string s1, .int .i64 s2]) rfl cb75 rfl rfl (fun wx hm => (by have h := rStateAt_any el eA en ec vk mt wx (hm.fact 2 rfl).1 (by omega); rw [← hS0] at h; exact h)) ?_
   refine wl_alloc zc132 rfl fun g3 => ?_
   refine wl_stores (cs' := [.int .i64 s0, .string s1, .int .i64 s2]) 0 rz132 rfl rfl rfl rfl rfl rfl rfl rfl ?_
   refine nn_ (sr_ (mv_ rfl (mv_ rfl ?_)))
   rcases Bool.eq_false_or_eq_true (decide (0 ≤ SV)) with h5 | h5
   ·refine wl_set 46 rfl (congrArg Value.bool h5) ?_
    have h5 := of_decide_eq_true h5
    refine wl_guard_on rfl rfl rfl (mv_ rfl (wl_guard_on rfl rfl rfl (mv_ rfl (wl_guard_on rfl rfl rfl (wl_ov (ov_eql rfl rfl) rfl (pt_ rfl rfl (mv_ rfl ?_)))))))
    rcases Bool.eq_false_or_eq_true (decide (max SV 0 = ((i : Nat) : Int))) with h6 | h6
    ·refine wl_set 51 rfl (congrArg Value.bool h6) ?_
     have h6 := of_decide_eq_true h6
     refine wl_guard_on rfl rfl rfl (fd_ fo132_0 rfl rfl (wl_guard_on rfl rfl rfl (lk_ sc3 0 rfl rfl rfl (wl_guard_on rfl rfl rfl (wl_ov (ov_eql rfl rfl) rfl (pt_ rfl rfl (mv_ rfl ?_)))))))
     rcases Bool.eq_false_or_eq_true (decide (s0 = 1)) with h7 | h7
     ·refine wl_set 56 rfl (congrArg Value.bool h7) ?_
      refine wl_guard_on rfl rfl rfl (fd_ fo132_1 rfl rfl (wl_guard_on rfl rfl rfl (lk_ sc9 0 rfl rfl rfl (wl_guard_on rfl rfl rfl (mv_ rfl (wl_guard_on rfl rfl rfl (wl_ov (ov_seql rfl rfl) rfl (pt_ rfl rfl (nn_ ?_)))))))))
      refine gw_cond rfl (fun hh => ?_) (fun hh => ?_)
      ·have h8 : (s1.toList == sk.toList) = true := by simpa using hh
       clear hh
       refine gw_region ?_
       have hb : thatB cl ck el mt sk i ⟨vk, vc2⟩ = true := by rw [hth, h7, h8, decide_eq_true (show SV = (i : Int) by omega)]; rfl
       rw [if_pos hb] at hat
       dsimp only at hat
       refine mv_ rfl (fd_ fo77_0 rfl rfl (lk_ sc9 1 rfl rfl rfl ?_))
       refine wl_buildSlice (e := 9) (cs := [.string vk]) rfl (by kernel_rfl) rfl fun g4 => ?_
       refine wl_append (news := [.string vk]) 0 0 ap81 rfl rfl rfl rfl rfl rfl rfl (by omega) (by unfold maxLen; omega) rfl rfl fun v2 hv2 => ?_
       refine wl_look (R := ∃ A cc, v2 = .slice A (kk + 1) cc) (fun wx hm => own_slice (hm.ownI 0 rfl)) ?_
       rintro ⟨A3, c3, rfl⟩
       have hxs : (rfsL cl ck el mt sk vl i ++ rfL cl ck el mt sk (vl.take j) i).flatMap sgEnc ++ ([.string vk] : List Value) = (rfsL cl ck el mt sk vl i ++ rfL cl ck el mt sk (vl.take (j + 1)) i).flatMap sgEnc := by rw [hat]; simp [sgEnc]
       rw [hxs]
       refine sg_ rfl (wl_nil (nx_blk_nrm (nx_then (gw_region (ad_ rfl rfl (mv_ rfl (wl_nil ?_)))))))
       exact nx_round (j + 1, kk + 1, A3, c3) ⟨by dsimp only; omega, by dsimp only; omega, by dsimp only; rw [hat, ← List.append_assoc, List.length_append, hql]; rfl⟩ (by dsimp only; omega) ⟨rfl, rfl, rfl, rfl, rfl, rfl, rfl, rfl, rfl, rfl, rfl, rfl, (some_int (by omega)), trivial⟩ (fun _ hm => hm.pick [3] [0] [0, 1, 2] rfl rfl)
      have h8 : (s1.toList == sk.toList) = false := by simpa using hh
      clear hh
      refine gw_skip (nx_blk_nrm (nx_then (gw_region ?_)))
      have hb : thatB cl ck el mt sk i ⟨vk, vc2⟩ = false := by rw [hth, h8]; simp
      rw [if_neg (by rw [hb]; decide), List.append_nil] at hat
      rw [← hat]
      refine ad_ rfl rfl (mv_ rfl (wl_nil ?_))
      exact nx_round (j + 1, kk, qA, qc) ⟨by dsimp only; omega, by dsimp only; omega, by dsimp only; rw [hat]; exact hql⟩ (by dsimp only; omega) ⟨rfl, rfl, rfl, rfl, rfl, rfl, rfl, rfl, rfl, rfl, rfl, rfl, (some_int (by omega)), trivial⟩ (fun _ hm => hm.pick [2] [0] [0, 1, 2] rfl rfl)
     refine wl_set 56 rfl (congrArg Value.bool h7) ?_
     have hb : thatB cl ck el mt sk i ⟨vk, vc2⟩ = false := by rw [hth, h7]; simp
     rw [if_neg (by rw [hb]; decide), List.append_nil] at hat
     rw [← hat]
     refine goff rfl rfl rfl (goff rfl rfl rfl (goff rfl rfl rfl (goff rfl rfl rfl (pf_ rfl rfl (nn_ (cf_ rfl (gw_skip (nx_blk_nrm (nx_then (gw_region (ad_ rfl rfl (mv_ rfl ?_))))))))))))
     refine wl_nil ?_
     exact nx_round (j + 1, kk, qA, qc) ⟨by dsimp only; omega, by dsimp only; omega, by dsimp only; rw [hat]; exact hql⟩ (by dsimp only; omega) ⟨rfl, rfl, rfl, rfl, rfl, rfl, rfl, rfl, rfl, rfl, rfl, rfl, (some_int (by omega)), trivial⟩ (fun _ hm => hm.pick [2] [0] [0, 1, 2] rfl rfl)
    refine wl_set 51 rfl (congrArg Value.bool h6) ?_
    have h6 := of_decide_eq_false h6
    have hb : thatB cl ck el mt sk i ⟨vk, vc2⟩ = false := by rw [hth, decide_eq_false (show ¬ SV = (i : Int) by omega)]; rfl
    rw [if_neg (by rw [hb]; decide), List.append_nil] at hat
    rw [← hat]
    refine goff rfl rfl rfl (goff rfl rfl rfl (goff rfl rfl rfl (pf_ rfl rfl (mv_ rfl (goff rfl rfl rfl (goff rfl rfl rfl (goff rfl rfl rfl (goff rfl rfl rfl (pf_ rfl rfl (nn_ (cf_ rfl (gw_skip ?_))))))))))))
    refine nx_blk_nrm (nx_then (gw_region (ad_ rfl rfl (mv_ rfl (wl_nil ?_)))))
    exact nx_round (j + 1, kk, qA, qc) ⟨by dsimp only; omega, by dsimp only; omega, by dsimp only; rw [hat]; exact hql⟩ (by dsimp only; omega) ⟨rfl, rfl, rfl, rfl, rfl, rfl, rfl, rfl, rfl, rfl, rfl, rfl, (some_int (by omega)), trivial⟩ (fun _ hm => hm.pick [2] [0] [0, 1, 2] rfl rfl)
   refine wl_set 46 rfl (congrArg Value.bool h5) ?_
   have h5 := of_decide_eq_false h5
   have hb : thatB cl ck el mt sk i ⟨vk, vc2⟩ = false := by rw [hth, decide_eq_false (show ¬ SV = (i : Int) by omega)]; rfl
   rw [if_neg (by rw [hb]; decide), List.append_nil] at hat
   rw [← hat]
   refine goff rfl rfl rfl (goff rfl rfl rfl (goff rfl rfl rfl (pf_ rfl rfl (mv_ rfl (goff rfl rfl rfl (goff rfl rfl rfl (goff rfl rfl rfl (pf_ rfl rfl (mv_ rfl (goff rfl rfl rfl (goff rfl rfl rfl (goff rfl rfl rfl (goff rfl rfl rfl ?_)))))))))))))
   refine pf_ rfl rfl (nn_ (cf_ rfl (gw_skip (nx_blk_nrm (nx_then (gw_region (ad_ rfl rfl (mv_ rfl (wl_nil ?_)))))))))
   exact nx_round (j + 1, kk, qA, qc) ⟨by dsimp only; omega, by dsimp only; omega, by dsimp only; rw [hat]; exact hql⟩ (by dsimp only; omega) ⟨rfl, rfl, rfl, rfl, rfl, rfl, rfl, rfl, rfl, rfl, rfl, rfl, (some_int (by omega)), trivial⟩ (fun _ hm => hm.pick [2] [0] [0, 1, 2] rfl rfl)
  have hj : ¬ (((j : Nat) : Int) < ((vn : Nat) : Int)) := by simpa using hh
  clear hh
  refine gw_exit ?_
  refine nx_then_exit (nx_then_exit ?_)
  refine nx_blk_here ?_
  refine nx_blk_nrm (nx_then (gw_region ?_))
  have hall : vl.take j = vl := List.take_of_length_le (by omega)
  rw [hall, ← rfs_succ] at hql
  rw [hall, ← rfs_succ]
  refine ad_ rfl rfl (mv_ rfl (wl_nil ?_))
  exact nx_round (i + 1, kk, qA, qc) ⟨by dsimp only; omega, by dsimp only; omega, hql⟩ (by dsimp only; omega) ⟨rfl, rfl, rfl, rfl, rfl, rfl, rfl, rfl, (some_int (by omega)), trivial⟩ (fun _ hm => hm.pick [0] [0] [0, 1, 2] rfl rfl)
 have hi : ¬ (((i : Nat) : Int) < ((cn : Nat) : Int)) := by simpa using hh
 clear hh
 refine gw_exit ?_
 refine nx_then_exit (nx_then_exit ?_)
 refine nx_blk_here ?_
 refine nx_then (sr_ ?_)
 obtain rfl : i = cl.length := by omega
 refine mv_ rfl (sg_ rfl (nn_ ?_))
 refine gw_ret ?_
 refine nx_ret1 rfl rfl fun wx hm => ?_
 exact ⟨oA, k, oc, rfl, SlT.ofOwn sg_len (hm.ownI 0 rfl) hol, hm.g⟩
end Go.Proofs.YtjecbkgjabnmoaaGreatDoor
namespace Go.Proofs.YtjecbkgjabnmoaaGreatDoor
open Go.RowKit
theorem nany {α : Type} {p : α → Bool} {l : List α} : (!l.any p) = decide (ixP p l 0 < 0) := by
  rw [← ix_any]
  by_cases h : 0 ≤ ixP p l 0
  · rw [decide_eq_true h, decide_eq_false (by omega)]; rfl
  · rw [decide_eq_false h, decide_eq_true (by omega)]; rfl
theorem nin {x : Int} : (!inB x 0 5761440) = (decide (x < 0) || decide (5761440 < x)) := by
  unfold inB
  by_cases h1 : 0 ≤ x
  · by_cases h2 : x ≤ 5761440
    · rw [decide_eq_true h1, decide_eq_true h2, decide_eq_false (show ¬ x < 0 by omega), decide_eq_false (show ¬ 5761440 < x by omega)]; rfl
    · rw [decide_eq_true h1, decide_eq_false h2, decide_eq_false (show ¬ x < 0 by omega), decide_eq_true (show 5761440 < x by omega)]; rfl
  · rw [decide_eq_false h1, decide_eq_true (show x < 0 by omega)]; rfl
theorem gclassKeyY_any (w : World) (B sb m : Nat) (hS : Strm 25 w B sb m) (hm : m ≤ 100000000000) :
  Calls Tryz.prog 44 #[.pointer (some ⟨sb, 0, none⟩)] w (fun e w' => ∃ v : ByteArray, e = .returned (.string v) ∧ v.size ≤ 100 ∧ Strm 25 w' B sb (m + 1) ∧ w.grownBy w' (some sb)) := by
 refine gw_enter ⟨6, w, (some sb), []⟩ Tryz.func44 rfl Tryz.ntmps44 rfl (memS (X := []) hS allF_nil allL_nil) ?_
 refine sr_ (sg_ rfl (nn_ (sr_ (mv_ rfl ?_))))
 refine wl_buildSlice (e := 9) (cs := [.string ⟨#[109, 105, 110, 105]⟩, .string ⟨#[109, 105, 110, 105]⟩, .string ⟨#[109, 105, 100, 105]⟩, .string ⟨#[109, 97, 120, 105]⟩, .string ⟨#[98, 105, 103]⟩, .string ⟨#[109, 105, 110, 105]⟩, .string ⟨#[110, 111, 110, 101]⟩, .string ⟨#[]⟩, .string ⟨#[65]⟩]) rfl (by kernel_rfl) rfl fun g1 => ?_
 refine wl_got (γ := ByteArray) (val := fun v => .string v) (φ := fun v => v ∈ ([⟨#[109, 105, 110, 105]⟩, ⟨#[109, 105, 110, 105]⟩, ⟨#[109, 105, 100, 105]⟩, ⟨#[109, 97, 120, 105]⟩, ⟨#[98, 105, 103]⟩, ⟨#[109, 105, 110, 105]⟩, ⟨#[110, 111, 110, 101]⟩, ⟨#[]⟩, ⟨#[65]⟩] : List ByteArray)) rfl cb43 rfl rfl rfl rfl (fun wx hm => (some_any [⟨#[109, 105, 110, 105]⟩, ⟨#[109, 105, 110, 105]⟩, ⟨#[109, 105, 100, 105]⟩, ⟨#[109, 97, 120, 105]⟩, ⟨#[98, 105, 103]⟩, ⟨#[109, 105, 110, 105]⟩, ⟨#[110, 111, 110, 101]⟩, ⟨#[]⟩, ⟨#[65]⟩] _ _ _ wx B sb _ hm.k (by omega) (by simp) (by simp) (hm.blkI 0 rfl) (hm.neRow 0 rfl rfl))) fun s2 hs2 => ?_
 have zs2 : s2.size ≤ 100 := mem_sz hs2 (by decide)
 refine sg_ rfl (nn_ ?_)
 refine gw_ret ?_
 refine nx_ret1 rfl rfl fun wx hm => ?_
 exact ⟨s2, rfl, by omega, hm.k, hm.g⟩
theorem logReady_walk (a0 : Option Addr) (len0 cap0 : Nat) (z0 : List Int) (w : World) (hR : RowIn w a0 len0 cap0 z0) :
  Calls Tryz.prog 6 #[.slice a0 len0 cap0] w fun e w' => e = .returned (.bool true) ∧ Below w.heap.size w w' := by
 refine gw_enter ⟨138, w, none, []⟩ Tryz.func6 rfl Tryz.ntmps6 rfl (mem0 (X := []) allF_nil allL_nil) ?_
 refine sr_ (sg_ rfl (nn_ (sr_ (mv_ rfl ?_))))
 refine wl_ov (ov_build (cs := [.slice a0 len0 cap0, .int .i64 0]) rfl (by kernel_rfl)) rfl ?_
 refine wl_box rfl rfl rfl fun sb => ?_
 refine sg_ rfl (nn_ (sr_ (mv_ rfl (mv_ rfl ?_))))
 refine wl_law [140, 159, 77, 143, 92] hR 0 rfl fun w1 B hg1 hsb => ?_
 refine wl_got (γ := Int) (val := fun v => .int .i64 v) (φ := fun v => 0 ≤ v ∧ (v ≤ 14 ∨ v = 0)) rfl cb28 rfl rfl rfl rfl (fun wx hm => (range_any _ _ wx B sb _ hm.k (by omega) (by omega) (by omega) (by omega) (by omega))) fun v1 hv1 => ?_
 obtain ⟨q, hq⟩ := Int.eq_ofNat_of_zero_le (show 0 ≤ v1 by omega)
 have hq20 : q ≤ 20 := by omega
 subst hq
 refine wl_calls (γ := Option Addr × Option Addr × Option Addr × Option Addr × Nat × Nat × Nat × Nat × Nat × Nat × Nat × List St × List Cs × List Vh × List Pl × Option Addr × Nat × Nat × List Ev) (val := (fun g => .tuple #[.agg #[.slice g.1 g.2.2.2.2.1 g.2.2.2.2.2.1, .slice g.2.1 4 g.2.2.2.2.2.2.1, .slice g.2.2.1 g.2.2.2.2.2.2.2.1 g.2.2.2.2.2.2.2.2.1, .slice g.2.2.2.1 g.2.2.2.2.2.2.2.2.2.1 g.2.2.2.2.2.2.2.2.2.2.1], .slice g.2.2.2.2.2.2.2.2.2.2.2.2.2.2.2.1 g.2.2.2.2.2.2.2.2.2.2.2.2.2.2.2.2.1 g.2.2.2.2.2.2.2.2.2.2.2.2.2.2.2.2.2.1, .int .i64 (evsE g.2.2.2.2.2.2.2.2.2.2.2.1 g.2.2.2.2.2.2.2.2.2.2.2.2.1 g.2.2.2.2.2.2.2.2.2.2.2.2.2.1 g.2.2.2.2.2.2.2.2.2.2.2.2.2.2.1 g.2.2.2.2.2.2.2.2.2.2.2.2.2.2.2.2.2.2)])) (φ := (fun g => (FlOk g.2.2.2.2.2.2.2.2.2.2.2.1 g.2.2.2.2.2.2.2.2.2.2.2.2.1 g.2.2.2.2.2.2.2.2.2.2.2.2.2.1 g.2.2.2.2.2.2.2.2.2.2.2.2.2.2.1 g.2.2.2.2.1 g.2.2.2.2.2.2.2.1 g.2.2.2.2.2.2.2.2.2.1 ∧ ShapeA g.2.2.2.1 g.2.2.2.2.2.2.2.2.2.1 g.2.2.2.2.2.2.2.2.2.2.1 ∧ g.2.2.2.2.2.2.2.2.2.1 ≤ g.2.2.2.2.2.2.2.2.2.2.1) ∧ (g.2.2.2.2.2.2.2.2.2.2.2.2.2.2.2.2.2.2.length = g.2.2.2.2.2.2.2.2.2.2.2.2.2.2.2.2.1 ∧ (∀ x ∈ g.2.2.2.2.2.2.2.2.2.2.2.2.2.2.2.2.2.2, EvOk x) ∧ g.2.2.2.2.2.2.2.2.2.2.2.2.2.2.2.2.1 ≤ q) ∧ ShapeA g.2.2.2.2.2.2.2.2.2.2.2.2.2.2.2.1 g.2.2.2.2.2.2.2.2.2.2.2.2.2.2.2.2.1 g.2.2.2.2.2.2.2.2.2.2.2.2.2.2.2.2.2.1 ∧ g.2.2.2.2.2.2.2.2.2.2.2.2.2.2.2.2.1 ≤ g.2.2.2.2.2.2.2.2.2.2.2.2.2.2.2.2.2.1)) (Y := (fun g => fun wy => SlT stEnc 15 140 wy g.1 g.2.2.2.2.1 g.2.2.2.2.2.2.2.2.2.2.2.1 ∧ SlT csEnc 2 159 wy g.2.1 4 g.2.2.2.2.2.2.2.2.2.2.2.2.1 ∧ SlT vhEnc 2 77 wy g.2.2.1 g.2.2.2.2.2.2.2.1 g.2.2.2.2.2.2.2.2.2.2.2.2.2.1 ∧ SlT plEnc 3 143 wy g.2.2.2.1 g.2.2.2.2.2.2.2.2.2.1 g.2.2.2.2.2.2.2.2.2.2.2.2.2.2.1 ∧ SlT evEnc 5 92 wy g.2.2.2.2.2.2.2.2.2.2.2.2.2.2.2.1 g.2.2.2.2.2.2.2.2.2.2.2.2.2.2.2.2.1 g.2.2.2.2.2.2.2.2.2.2.2.2.2.2.2.2.2.2)) (m' := 0 + 2000) rfl cb27 rfl rfl rfl rfl (fun wx hm => (scene_any q wx B sb _ hm.k (by omega) (by omega)).mono fun _ _ ⟨sA, cA, vA, pA, sn, sc, cc, vn, vc, pn, pc, sl, cl, vl, pl, eA, en, ec, el, he, hok, hel, hS, hg, ho, h1, h2, h3, h4⟩ => ⟨(sA, cA, vA, pA, sn, sc, cc, vn, vc, pn, pc, sl, cl, vl, pl, eA, en, ec, el), he, ⟨hok, hel, own_shape ho, own_cap ho⟩, hS.more (by omega), hg, h1, h2, h3, h4, SlT.ofOwn ev_len ho hel.1⟩) (fun _ => (SlT.lasts2 rfl).and_ ((SlT.lasts2 rfl).and_ ((SlT.lasts2 rfl).and_ ((SlT.lasts2 rfl).and_ (SlT.lasts2 rfl))))) ?_
 rintro ⟨sA, cA, vA, pA, sn, sc, cc, vn, vc, pn, pc, sl, cl, vl, pl, eA, en, ec, el⟩ hsc
 dsimp only at hsc ⊢
 obtain ⟨⟨⟨⟨hsok, hsn10⟩, hcok, ⟨hvB, hvn10⟩, hpB, hpn10⟩, hsh, hpnc⟩, ⟨hell, heok, henq⟩, hesh, henc⟩ := hsc
 have hvok : ∀ x ∈ vl, VhOk x := fun x hx => vhB_ok (hvB x hx)
 have hpok : ∀ x ∈ pl, PlOk x := fun x hx => plB_ok (hpB x hx)
 refine mv_ rfl (wl_ov (ov_extract rfl rfl) rfl (wl_ov (ov_extract rfl rfl) rfl (wl_ov (ov_extract rfl rfl) rfl ?_)))
 refine wl_alloc zc31 rfl fun g2 => ?_
 refine wl_stores (cs' := [.slice sA sn sc, .slice cA 4 cc, .slice vA vn vc, .slice pA pn pc]) 0 rz31 rfl rfl rfl rfl rfl rfl rfl rfl ?_
 refine sg_ rfl (sg_ rfl (nn_ (sr_ (mv_ rfl ?_))))
 refine wl_buildSlice (e := 9) (cs := [.string ⟨#[115, 49]⟩, .string ⟨#[115, 50]⟩, .string ⟨#[115, 51]⟩, .string ⟨#[110, 111, 110, 101]⟩]) rfl (by kernel_rfl) rfl fun g3 => ?_
 refine wl_got (γ := ByteArray) (val := fun v => .string v) (φ := fun v => v ∈ ([⟨#[115, 49]⟩, ⟨#[115, 50]⟩, ⟨#[115, 51]⟩, ⟨#[110, 111, 110, 101]⟩] : List ByteArray)) rfl cb43 rfl rfl rfl rfl (fun wx hm => (some_any [⟨#[115, 49]⟩, ⟨#[115, 50]⟩, ⟨#[115, 51]⟩, ⟨#[110, 111, 110, 101]⟩] _ _ _ wx B sb _ hm.k (by omega) (by simp) (by simp) (hm.blkI 0 rfl) (hm.neRow 0 rfl rfl))) fun s4 hs4 => ?_
 have zs4 : s4.size ≤ 100 := mem_sz hs4 (by decide)
 refine mv_ rfl ?_
 refine wl_calls (γ := ByteArray) (val := (fun g => .string g)) (φ := (fun g => g.size ≤ 100)) (Y := (fun g => fun _ => True)) (m' := 0 + 2000 + 1 + 1) rfl cb44 rfl rfl rfl rfl (fun wx hm => (gclassKeyY_any wx B sb _ hm.k (by omega)).mono fun _ _ ⟨v, he, hv, hS, hg⟩ => ⟨v, he, hv, hS, hg, trivial⟩) (fun _ => Lasts2.true_) ?_
 rintro ck hck
 refine mv_ rfl ?_
 refine wl_calls (γ := Int) (val := (fun g => .int .i64 g)) (φ := (fun g => -1 ≤ g ∧ g ≤ 5761440)) (Y := (fun g => fun _ => True)) (m' := 0 + 2000 + 1 + 1 + 1) rfl cb45 rfl rfl rfl rfl (fun wx hm => (gmoment_any wx B sb _ hm.k (by omega)).mono fun _ _ ⟨v, he, h1, h2, hS, hg⟩ => ⟨v, he, ⟨h1, h2⟩, hS, hg, trivial⟩) (fun _ => Lasts2.true_) ?_
 rintro mt hmt
 refine mv_ rfl ?_
 refine wl_buildSlice (e := 3) (cs := [.int .i64 0, .int .i64 10, .int .i64 100, .int .i64 500, .int .i64 5761440, .int .i64 (-1), .int .i64 5761441]) rfl (by kernel_rfl) rfl fun g7 => ?_
 refine wl_got (γ := Int) (val := fun v => .int .i64 v) (φ := fun v => v ∈ ([0, 10, 100, 500, 5761440, -1, 5761441] : List Int)) rfl cb14 rfl rfl rfl rfl (fun wx hm => (pick_any [0, 10, 100, 500, 5761440, -1, 5761441] _ _ _ wx B sb _ hm.k (by omega) (by simp) (by simp) (hm.blkI 0 rfl) (hm.neRow 0 rfl rfl))) fun v8 hv8 => ?_
 have bv8 : -1 ≤ v8 ∧ v8 ≤ 5761441 := mem_rng hv8 (by decide)
 have bv80 := bv8.1
 have bv81 := bv8.2
 clear bv8
 refine sg_ rfl (sg_ rfl (sg_ rfl (sg_ rfl (nn_ (sr_ ?_)))))
 refine wl_ov (ov_loads rz31 rfl (fun _ hm => hm.blkI 2 rfl) rfl rfl) rfl ?_
 refine mv_ rfl (mv_ rfl (mv_ rfl (mv_ rfl ?_)))
 refine wl_nest none [9] fun w2 hm_w2 => ⟨_, _, _, _, mem0 (X := [BlkOld w2.heap.size none g7 3 [.int .i64 0, .int .i64 10, .int .i64 100, .int .i64 500, .int .i64 5761440, .int .i64 (-1), .int .i64 5761441], BlkOld w2.heap.size none g3 9 [.string ⟨#[115, 49]⟩, .string ⟨#[115, 50]⟩, .string ⟨#[115, 51]⟩, .string ⟨#[110, 111, 110, 101]⟩], BlkOld w2.heap.size none g2 31 [.slice sA sn sc, .slice cA 4 cc, .slice vA vn vc, .slice pA pn pc], SlOld stEnc 15 140 w2.heap.size none sA sn sl, SlOld csEnc 2 159 w2.heap.size none cA 4 cl, SlOld vhEnc 2 77 w2.heap.size none vA vn vl, SlOld plEnc 3 143 w2.heap.size none pA pn pl, SlOld evEnc 5 92 w2.heap.size none eA en el]) (allF_cons (hm_w2.blkI 0 rfl).old (allF_cons (hm_w2.blkI 1 rfl).old (allF_cons (hm_w2.blkI 2 rfl).old (allF_cons (SlT.old (hm_w2.fact 2 rfl).1) (allF_cons (SlT.old (hm_w2.fact 2 rfl).2.1) (allF_cons (SlT.old (hm_w2.fact 2 rfl).2.2.1) (allF_cons (SlT.old (hm_w2.fact 2 rfl).2.2.2.1) (allF_cons (SlT.old (hm_w2.fact 2 rfl).2.2.2.2) allF_nil)))))))) (allL_cons BlkOld.lasts (allL_cons BlkOld.lasts (allL_cons BlkOld.lasts (allL_cons SlOld.lasts (allL_cons SlOld.lasts (allL_cons SlOld.lasts (allL_cons SlOld.lasts (allL_cons SlOld.lasts allL_nil)))))))), ?_⟩
 obtain ⟨FE, hFE⟩ : ∃ z, z = evsE sl cl vl pl el := ⟨_, rfl⟩
 obtain ⟨E1, hE1⟩ : ∃ z, z = rdE sl cl vl pl el s4 ck mt := ⟨_, rfl⟩
 obtain ⟨E2, hE2⟩ : ∃ z, z = idE sl cl vl pl el v8 mt := ⟨_, rfl⟩
 have hone0 : E1 = firstE [FE, whenE (decide (ixP (stP s4) sl 0 < 0) || decide (ixP (csP ck) cl 0 < 0)) 8, momentE mt] := by rw [hE1, hFE, ← nany]; rfl
 have htwo0 : E2 = firstE [FE, whenE (decide (v8 < 0) || decide (5761440 < v8)) 1, momentE mt] := by rw [hE2, hFE, ← nin]; rfl
 rw [← hFE]
 by_cases h1 : FE = 0
 ·subst h1
  obtain ⟨hf0, hl0⟩ := evs_ok hFE.symm
  obtain ⟨hcl, hlo⟩ := class_fine hf0
  by_cases h2 : E1 = 0
  ·subst h2
   have hmtb := moment_nn (fe_all (hone0.symm) (momentE mt) (by simp))
   obtain ⟨hmt0, hmt1⟩ := hmtb
   by_cases h3 : E2 = 0
   ·subst h3
    refine wl_callx (γ := Option Addr × Nat × Nat) (val := (fun g => .tuple #[.slice g.1 g.2.1 g.2.2, .int .i64 0])) (φ := (fun g => g.2.1 ≤ vn)) (Y := (fun g => fun wy => SlT sgEnc 1 9 wy g.1 g.2.1 (rfsL cl ck el mt s4 vl cl.length))) rfl cb46 rfl rfl (fun wx hm => (by have h := lotReady_any sl cl vl pl sA cA vA pA sn sc 4 cc vn vc pn pc el eA en ec s4 ck mt wx (hm.fact 3 rfl).1 (hm.fact 4 rfl).1 (hm.fact 5 rfl).1 (hm.fact 6 rfl).1 hsok hcok hvok hpok (by omega) (by omega) (by omega) (by omega) (hm.fact 7 rfl).1 heok (by omega) (by omega); rw [← hE1] at h; exact h.mono fun _ _ ⟨A, k, c, he, h1, _, hg⟩ => ⟨(A, k, c), he, (h1 rfl).2, hg, (h1 rfl).1⟩)) (fun _ => SlT.lasts2 rfl) ?_
    rintro ⟨aA, ak, ac⟩ hak
    dsimp only at hak ⊢
    refine mv_ rfl (wl_ov (ov_extract rfl rfl) rfl (wl_ov (ov_extract rfl rfl) rfl (sg_ rfl (sg_ rfl (nn_ (sr_ ?_))))))
    refine wl_ov (ov_loads (vs := [.slice sA sn sc, .slice cA 4 cc, .slice vA vn vc, .slice pA pn pc]) rz31 rfl (fun _ hm => (hm.fact 3 rfl).2) rfl rfl) rfl ?_
    refine mv_ rfl (mv_ rfl (mv_ rfl ?_))
    refine wl_callx (γ := Option Addr × Nat × Nat) (val := (fun g => .tuple #[.slice g.1 g.2.1 g.2.2, .int .i64 0])) (φ := (fun g => g.2.1 ≤ vn)) (Y := (fun g => fun wy => SlT sgEnc 1 9 wy g.1 g.2.1 (idL el mt v8 vl))) rfl cb47 rfl rfl (fun wx hm => (by have h := idle_any sl cl vl pl sA cA vA pA sn sc 4 cc vn vc pn pc el eA en ec v8 mt wx (hm.fact 4 rfl).1 (hm.fact 5 rfl).1 (hm.fact 6 rfl).1 (hm.fact 7 rfl).1 hsok hcok hvok hpok (by omega) (by omega) (by omega) (by omega) (hm.fact 8 rfl).1 heok (by omega); rw [← hE2] at h; exact h.mono fun _ _ ⟨A, k, c, he, h1, _, hg⟩ => ⟨(A, k, c), he, (h1 rfl).2, hg, (h1 rfl).1⟩)) (fun _ => SlT.lasts2 rfl) ?_
    rintro ⟨bA, bk, bc⟩ hbk
    dsimp only at hbk ⊢
    refine mv_ rfl (wl_ov (ov_extract rfl rfl) rfl (wl_ov (ov_extract rfl rfl) rfl (sg_ rfl (sg_ rfl (nn_ ?_)))))
    refine gw_cut (γ := Unit) (I := (fun (uu : Unit) => True)) (S' := (fun (uu : Unit) => [(2, .bool false), (4, .pointer (some ⟨g2, 0, none⟩)), (5, .slice eA en ec), (6, .int .i64 0), (7, .string s4), (8, .string ck), (9, .int .i64 mt), (10, .int .i64 v8), (11, .slice aA ak ac), (12, .int .i64 0), (13, .slice bA bk bc), (14, .int .i64 0), (15, .int .i64 0)])) (K' := (fun (uu : Unit) => fun _ => True)) (L' := (fun (uu : Unit) => [])) (O' := (fun (uu : Unit) => [])) (X' := (fun (uu : Unit) => [fun wy => SlT sgEnc 1 9 wy bA bk (idL el mt v8 vl), fun wy => SlT sgEnc 1 9 wy aA ak (rfsL cl ck el mt s4 vl cl.length), BlkOld w2.heap.size none g7 3 [.int .i64 0, .int .i64 10, .int .i64 100, .int .i64 500, .int .i64 5761440, .int .i64 (-1), .int .i64 5761441], BlkOld w2.heap.size none g3 9 [.string ⟨#[115, 49]⟩, .string ⟨#[115, 50]⟩, .string ⟨#[115, 51]⟩, .string ⟨#[110, 111, 110, 101]⟩], BlkOld w2.heap.size none g2 31 [.slice sA sn sc, .slice cA 4 cc, .slice vA vn vc, .slice pA pn pc], SlOld stEnc 15 140 w2.heap.size none sA sn sl, SlOld csEnc 2 159 w2.heap.size none cA 4 cl, SlOld vhEnc 2 77 w2.heap.size none vA vn vl, SlOld plEnc 3 143 w2.heap.size none pA pn pl, SlOld evEnc 5 92 w2.heap.size none eA en el])) ?_ ?_
    ·refine gw_region (mv_ rfl ?_)
     refine wl_ov (ov_loads (vs := [.slice sA sn sc, .slice cA 4 cc, .slice vA vn vc, .slice pA pn pc]) rz31 rfl (fun _ hm => (hm.fact 4 rfl).2) rfl rfl) rfl ?_
     refine mv_ rfl ?_
     refine wl_callv rfl cb48 rfl rfl (fun wx hm => (rStationAt_any sl sA cA vA pA sn sc 4 cc vn vc pn pc s4 wx (hm.fact 5 rfl).1 hsok (by omega))) ?_
     refine wl_ov (ov_lss rfl rfl) rfl (mv_ rfl ?_)
     rcases Bool.eq_false_or_eq_true (decide (ixP (stP s4) sl 0 < 0)) with hgd1 | hgd1
     ·refine wl_set 60 rfl (congrArg Value.bool hgd1) ?_
      have hone := hone0
      rw [hgd1, Bool.true_or] at hone
      refine goff rfl rfl rfl (goff rfl rfl rfl (goff rfl rfl rfl (goff rfl rfl rfl (goff rfl rfl rfl (pt_ rfl rfl ?_)))))
      refine wl_callw rfl cb19 rfl rfl (fun wx hm => (rwhen_any _ _ wx)) ?_
      refine mv_ rfl ?_
      refine wl_callv rfl cb21 rfl rfl (fun wx hm => (momentFault_any _ wx)) ?_
      refine wl_buildSlice (e := 35) (cs := [.int .i64 0, .int .i64 (whenE true 8), .int .i64 (momentE mt)]) rfl (by kernel_rfl) rfl fun g13 => ?_
      refine wl_callw (v := .int .i64 0) rfl cb18 rfl rfl (fun wx hm => (by have h := errs_any [0, whenE true 8, momentE mt] g13 3 _ wx (hm.blkI 0 rfl) (by simp); rw [← hone] at h; exact h)) ?_
      refine sg_ rfl (wl_nil ?_)
      exact nx_meet () trivial ⟨rfl, rfl, rfl, rfl, rfl, rfl, rfl, rfl, rfl, rfl, rfl, rfl, rfl, trivial⟩ (fun _ hm => hm.pick [] [] [0, 1, 2, 3, 4, 5, 6, 7, 8, 9] rfl rfl)
     refine wl_set 60 rfl (congrArg Value.bool hgd1) ?_
     have hone := hone0
     rw [hgd1, Bool.false_or] at hone
     refine wl_guard_on rfl rfl rfl (fd_ fo31_1 rfl rfl (wl_guard_on rfl rfl rfl ?_))
     refine wl_ov (ov_load (v := .slice cA 4 cc) sc27 rfl (fun _ hm => (hm.fact 4 rfl).2) rfl) rfl ?_
     refine wl_guard_on rfl rfl rfl (mv_ rfl (wl_guard_on rfl rfl rfl ?_))
     refine wl_callv rfl cb49 rfl rfl (fun wx hm => (rClassAt_any cl cA 4 cc ck wx (hm.fact 6 rfl).1 (by omega))) ?_
     refine wl_guard_on rfl rfl rfl (wl_ov (ov_lss rfl rfl) rfl (pf_ rfl rfl ?_))
     refine wl_callw rfl cb19 rfl rfl (fun wx hm => (rwhen_any _ _ wx)) ?_
     refine mv_ rfl ?_
     refine wl_callv rfl cb21 rfl rfl (fun wx hm => (momentFault_any _ wx)) ?_
     refine wl_buildSlice (e := 35) (cs := [.int .i64 0, .int .i64 (whenE (decide (ixP (csP ck) cl 0 < 0)) 8), .int .i64 (momentE mt)]) rfl (by kernel_rfl) rfl fun g14 => ?_
     refine wl_callw (v := .int .i64 0) rfl cb18 rfl rfl (fun wx hm => (by have h := errs_any [0, whenE (decide (ixP (csP ck) cl 0 < 0)) 8, momentE mt] g14 3 _ wx (hm.blkI 0 rfl) (by simp); rw [← hone] at h; exact h)) ?_
     refine sg_ rfl (wl_nil ?_)
     exact nx_meet () trivial ⟨rfl, rfl, rfl, rfl, rfl, rfl, rfl, rfl, rfl, rfl, rfl, rfl, rfl, trivial⟩ (fun _ hm => hm.pick [] [] [0, 1, 2, 3, 4, 5, 6, 7, 8, 9] rfl rfl)
    intro uu hinv
    replace hinv : True := hinv
    refine gw_cut (γ := Unit) (I := (fun (uu : Unit) => True)) (S' := (fun (uu : Unit) => [(2, .bool false), (4, .pointer (some ⟨g2, 0, none⟩)), (5, .slice eA en ec), (7, .string s4), (8, .string ck), (9, .int .i64 mt), (10, .int .i64 v8), (11, .slice aA ak ac), (12, .int .i64 0), (13, .slice bA bk bc), (14, .int .i64 0), (15, .int .i64 0), (16, .int .i64 0)])) (K' := (fun (uu : Unit) => fun _ => True)) (L' := (fun (uu : Unit) => [])) (O' := (fun (uu : Unit) => [])) (X' := (fun (uu : Unit) => [fun wy => SlT sgEnc 1 9 wy bA bk (idL el mt v8 vl), fun wy => SlT sgEnc 1 9 wy aA ak (rfsL cl ck el mt s4 vl cl.length), BlkOld w2.heap.size none g7 3 [.int .i64 0, .int .i64 10, .int .i64 100, .int .i64 500, .int .i64 5761440, .int .i64 (-1), .int .i64 5761441], BlkOld w2.heap.size none g3 9 [.string ⟨#[115, 49]⟩, .string ⟨#[115, 50]⟩, .string ⟨#[115, 51]⟩, .string ⟨#[110, 111, 110, 101]⟩], BlkOld w2.heap.size none g2 31 [.slice sA sn sc, .slice cA 4 cc, .slice vA vn vc, .slice pA pn pc], SlOld stEnc 15 140 w2.heap.size none sA sn sl, SlOld csEnc 2 159 w2.heap.size none cA 4 cl, SlOld vhEnc 2 77 w2.heap.size none vA vn vl, SlOld plEnc 3 143 w2.heap.size none pA pn pl, SlOld evEnc 5 92 w2.heap.size none eA en el])) ?_ ?_
    ·refine gw_region (mv_ rfl (mv_ rfl (wl_ov (ov_lss rfl rfl) rfl (mv_ rfl ?_))))
     rcases Bool.eq_false_or_eq_true (decide (v8 < 0)) with hgd2 | hgd2
     ·refine wl_set 75 rfl (congrArg Value.bool hgd2) ?_
      have htwo := htwo0
      rw [hgd2, Bool.true_or] at htwo
      refine goff rfl rfl rfl (goff rfl rfl rfl (pt_ rfl rfl ?_))
      refine wl_callw rfl cb19 rfl rfl (fun wx hm => (rwhen_any _ _ wx)) ?_
      refine mv_ rfl ?_
      refine wl_callv rfl cb21 rfl rfl (fun wx hm => (momentFault_any _ wx)) ?_
      refine wl_buildSlice (e := 35) (cs := [.int .i64 0, .int .i64 (whenE true 1), .int .i64 (momentE mt)]) rfl (by kernel_rfl) rfl fun g15 => ?_
      refine wl_callw (v := .int .i64 0) rfl cb18 rfl rfl (fun wx hm => (by have h := errs_any [0, whenE true 1, momentE mt] g15 3 _ wx (hm.blkI 0 rfl) (by simp); rw [← htwo] at h; exact h)) ?_
      refine sg_ rfl (wl_nil ?_)
      exact nx_meet () trivial ⟨rfl, rfl, rfl, rfl, rfl, rfl, rfl, rfl, rfl, rfl, rfl, rfl, rfl, trivial⟩ (fun _ hm => hm.pick [] [] [0, 1, 2, 3, 4, 5, 6, 7, 8, 9] rfl rfl)
     refine wl_set 75 rfl (congrArg Value.bool hgd2) ?_
     have htwo := htwo0
     rw [hgd2, Bool.false_or] at htwo
     refine wl_guard_on rfl rfl rfl (mv_ rfl (wl_guard_on rfl rfl rfl ?_))
     refine wl_ov (ov_gtr rfl rfl) rfl ?_
     refine pf_ rfl rfl ?_
     refine wl_callw rfl cb19 rfl rfl (fun wx hm => (rwhen_any _ _ wx)) ?_
     refine mv_ rfl ?_
     refine wl_callv rfl cb21 rfl rfl (fun wx hm => (momentFault_any _ wx)) ?_
     refine wl_buildSlice (e := 35) (cs := [.int .i64 0, .int .i64 (whenE (decide (5761440 < v8)) 1), .int .i64 (momentE mt)]) rfl (by kernel_rfl) rfl fun g16 => ?_
     refine wl_callw (v := .int .i64 0) rfl cb18 rfl rfl (fun wx hm => (by have h := errs_any [0, whenE (decide (5761440 < v8)) 1, momentE mt] g16 3 _ wx (hm.blkI 0 rfl) (by simp); rw [← htwo] at h; exact h)) ?_
     refine sg_ rfl (wl_nil ?_)
     exact nx_meet () trivial ⟨rfl, rfl, rfl, rfl, rfl, rfl, rfl, rfl, rfl, rfl, rfl, rfl, rfl, trivial⟩ (fun _ hm => hm.pick [] [] [0, 1, 2, 3, 4, 5, 6, 7, 8, 9] rfl rfl)
    intro uu hinv
    replace hinv : True := hinv
    refine gw_seq (sr_ (mv_ rfl (mv_ rfl (wl_ov (ov_neq rfl rfl) rfl ?_))))
    refine wl_set 86 (v' := .bool false) rfl (congrArg Value.bool (by decide)) ?_
    refine mv_ rfl (wl_guard_on rfl rfl rfl (mv_ rfl (wl_guard_on rfl rfl rfl (mv_ rfl (wl_guard_on rfl rfl rfl (wl_ov (ov_neq rfl rfl) rfl ?_))))))
    refine wl_set 90 (v' := .bool false) rfl (congrArg Value.bool (by decide)) ?_
    refine pf_ rfl rfl (mv_ rfl (wl_guard_on rfl rfl rfl (mv_ rfl (wl_guard_on rfl rfl rfl (wl_ov (ov_neq rfl rfl) rfl ?_)))))
    refine wl_set 94 (v' := .bool false) rfl (congrArg Value.bool (by decide)) ?_
    refine wl_guard_on rfl rfl rfl (mv_ rfl (goff rfl rfl rfl (goff rfl rfl rfl (goff rfl rfl rfl (wl_guard_on rfl rfl rfl (pf_ rfl rfl (pf_ rfl rfl (mv_ rfl (wl_guard_on rfl rfl rfl (mv_ rfl (wl_guard_on rfl rfl rfl (wl_ov (ov_neq rfl rfl) rfl ?_))))))))))))
    refine wl_set 103 (v' := .bool false) rfl (congrArg Value.bool (by decide)) ?_
    refine wl_guard_on rfl rfl rfl (mv_ rfl (goff rfl rfl rfl (goff rfl rfl rfl (goff rfl rfl rfl (wl_guard_on rfl rfl rfl (pf_ rfl rfl (pf_ rfl rfl (nn_ (cf_ rfl (gw_skip (nx_then (gw_seq ?_))))))))))))
    refine gw_region (mv_ rfl (wl_ov (ov_neq rfl rfl) rfl ?_))
    refine wl_set 111 (v' := .bool false) rfl (congrArg Value.bool (by decide)) ?_
    refine mv_ rfl (wl_guard_on rfl rfl rfl (mv_ rfl (wl_guard_on rfl rfl rfl ?_)))
    refine wl_ov (ov_loads (vs := [.slice sA sn sc, .slice cA 4 cc, .slice vA vn vc, .slice pA pn pc]) rz31 rfl (fun _ hm => (hm.fact 4 rfl).2) rfl rfl) rfl ?_
    refine wl_guard_on rfl rfl rfl (mv_ rfl (wl_guard_on rfl rfl rfl (mv_ rfl (wl_guard_on rfl rfl rfl (mv_ rfl (wl_guard_on rfl rfl rfl (mv_ rfl (wl_guard_on rfl rfl rfl ?_))))))))
    refine wl_callx (γ := Option Addr × Nat × Nat) (val := (fun g => .slice g.1 g.2.1 g.2.2)) (φ := (fun g => True)) (Y := (fun g => fun wy => SlT sgEnc 1 9 wy g.1 g.2.1 (rfsL cl ck el mt s4 vl cl.length))) rfl cb51 rfl rfl (fun wx hm => (readyOf_any cl vl sA cA vA pA sn sc 4 cc vn vc pn pc el eA en ec s4 ck mt wx (hm.fact 6 rfl).1 (hm.fact 7 rfl).1 (hm.fact 9 rfl).1 hcok hcl hlo (by omega) (by omega) (by omega)).mono fun _ _ ⟨A, k, c, he, h1, hg⟩ => ⟨(A, k, c), he, trivial, hg, h1⟩) (fun _ => SlT.lasts2 rfl) ?_
    rintro ⟨cA2, ck2, cc2⟩ hphi
    dsimp only
    clear hphi
    refine wl_guard_on rfl rfl rfl ?_
    refine wl_look (R := ak = ck2) (fun wx hm => by have h3 := ((hm.fact 2 rfl)).len; have h4 := ((hm.fact 0 rfl)).len; omega) ?_
    intro hbd
    subst hbd
    refine wl_callv rfl cb50 rfl rfl (fun wx hm => (equal_strs (rfsL cl ck el mt s4 vl cl.length) aA cA2 ak ac cc2 wx (hm.fact 2 rfl) (hm.fact 0 rfl) (by omega))) ?_
    refine pf_ rfl rfl (mv_ rfl (wl_guard_on rfl rfl rfl (mv_ rfl (wl_guard_on rfl rfl rfl (wl_ov (ov_neq rfl rfl) rfl ?_)))))
    refine wl_set 124 (v' := .bool false) rfl (congrArg Value.bool (by decide)) ?_
    refine wl_guard_on rfl rfl rfl (mv_ rfl (wl_guard_on rfl rfl rfl (mv_ rfl (wl_guard_on rfl rfl rfl ?_))))
    refine wl_ov (ov_loads (vs := [.slice sA sn sc, .slice cA 4 cc, .slice vA vn vc, .slice pA pn pc]) rz31 rfl (fun _ hm => (hm.fact 5 rfl).2) rfl rfl) rfl ?_
    refine wl_guard_on rfl rfl rfl (mv_ rfl (wl_guard_on rfl rfl rfl (mv_ rfl (wl_guard_on rfl rfl rfl (mv_ rfl (wl_guard_on rfl rfl rfl ?_))))))
    refine wl_callx (γ := Option Addr × Nat × Nat) (val := (fun g => .slice g.1 g.2.1 g.2.2)) (φ := (fun g => True)) (Y := (fun g => fun wy => SlT sgEnc 1 9 wy g.1 g.2.1 (idL el mt v8 vl))) rfl cb52 rfl rfl (fun wx hm => (idleOf_any vl sA cA vA pA sn sc 4 cc vn vc pn pc el eA en ec v8 mt wx (hm.fact 8 rfl).1 (hm.fact 10 rfl).1 heok hmt0 hmt1 (by omega) (by omega)).mono fun _ _ ⟨A, k, c, he, h1, hg⟩ => ⟨(A, k, c), he, trivial, hg, h1⟩) (fun _ => SlT.lasts2 rfl) ?_
    rintro ⟨dA, dk, dc⟩ hphi
    dsimp only
    clear hphi
    refine wl_guard_on rfl rfl rfl ?_
    refine wl_look (R := bk = dk) (fun wx hm => by have h3 := ((hm.fact 2 rfl)).len; have h4 := ((hm.fact 0 rfl)).len; omega) ?_
    intro hbd
    subst hbd
    refine wl_callv rfl cb50 rfl rfl (fun wx hm => (equal_strs (idL el mt v8 vl) bA dA bk bc dc wx (hm.fact 2 rfl) (hm.fact 0 rfl) (by omega))) ?_
    refine wl_guard_on rfl rfl rfl (pf_ rfl rfl (pt_ rfl rfl (mv_ rfl (wl_guard_on rfl rfl rfl ?_))))
    refine wl_callv rfl cb26 rfl rfl (fun wx hm => (lots_any wx)) ?_
    refine pt_ rfl rfl (sg_ rfl (nn_ ?_))
    refine gw_ret ?_
    refine nx_ret1 rfl rfl fun wx hm => ?_
    exact ⟨rfl, law_end hg1 hsb (grow_trans hm_w2.g (grow_weak hm.g))⟩
   refine wl_callx (γ := Option Addr × Nat × Nat) (val := (fun g => .tuple #[.slice g.1 g.2.1 g.2.2, .int .i64 0])) (φ := (fun g => g.2.1 ≤ vn)) (Y := (fun g => fun wy => SlT sgEnc 1 9 wy g.1 g.2.1 (rfsL cl ck el mt s4 vl cl.length))) rfl cb46 rfl rfl (fun wx hm => (by have h := lotReady_any sl cl vl pl sA cA vA pA sn sc 4 cc vn vc pn pc el eA en ec s4 ck mt wx (hm.fact 3 rfl).1 (hm.fact 4 rfl).1 (hm.fact 5 rfl).1 (hm.fact 6 rfl).1 hsok hcok hvok hpok (by omega) (by omega) (by omega) (by omega) (hm.fact 7 rfl).1 heok (by omega) (by omega); rw [← hE1] at h; exact h.mono fun _ _ ⟨A, k, c, he, h1, _, hg⟩ => ⟨(A, k, c), he, (h1 rfl).2, hg, (h1 rfl).1⟩)) (fun _ => SlT.lasts2 rfl) ?_
   rintro ⟨aA, ak, ac⟩ hak
   dsimp only at hak ⊢
   refine mv_ rfl (wl_ov (ov_extract rfl rfl) rfl (wl_ov (ov_extract rfl rfl) rfl (sg_ rfl (sg_ rfl (nn_ (sr_ ?_))))))
   refine wl_ov (ov_loads (vs := [.slice sA sn sc, .slice cA 4 cc, .slice vA vn vc, .slice pA pn pc]) rz31 rfl (fun _ hm => (hm.fact 3 rfl).2) rfl rfl) rfl ?_
   refine mv_ rfl (mv_ rfl (mv_ rfl ?_))
   refine wl_callv (v := .tuple #[.slice none 0 0, .int .i64 E2]) rfl cb47 rfl rfl (fun wx hm => (by have h := idle_any sl cl vl pl sA cA vA pA sn sc 4 cc vn vc pn pc el eA en ec v8 mt wx (hm.fact 4 rfl).1 (hm.fact 5 rfl).1 (hm.fact 6 rfl).1 (hm.fact 7 rfl).1 hsok hcok hvok hpok (by omega) (by omega) (by omega) (by omega) (hm.fact 8 rfl).1 heok (by omega); rw [← hE2] at h; refine h.mono ?_; rintro e w3 ⟨A, n, c, rfl, _, h4, hg⟩; obtain ⟨rfl, rfl, rfl⟩ := h4 h3; exact ⟨rfl, hg⟩)) ?_
   refine mv_ rfl (wl_ov (ov_extract rfl rfl) rfl (wl_ov (ov_extract rfl rfl) rfl (sg_ rfl (sg_ rfl (nn_ ?_)))))
   refine gw_cut (γ := Unit) (I := (fun (uu : Unit) => True)) (S' := (fun (uu : Unit) => [(2, .bool false), (4, .pointer (some ⟨g2, 0, none⟩)), (5, .slice eA en ec), (6, .int .i64 0), (7, .string s4), (8, .string ck), (9, .int .i64 mt), (10, .int .i64 v8), (11, .slice aA ak ac), (12, .int .i64 0), (13, .slice none 0 0), (14, .int .i64 E2), (15, .int .i64 0)])) (K' := (fun (uu : Unit) => fun _ => True)) (L' := (fun (uu : Unit) => [])) (O' := (fun (uu : Unit) => [])) (X' := (fun (uu : Unit) => [fun wy => SlT sgEnc 1 9 wy aA ak (rfsL cl ck el mt s4 vl cl.length), BlkOld w2.heap.size none g7 3 [.int .i64 0, .int .i64 10, .int .i64 100, .int .i64 500, .int .i64 5761440, .int .i64 (-1), .int .i64 5761441], BlkOld w2.heap.size none g3 9 [.string ⟨#[115, 49]⟩, .string ⟨#[115, 50]⟩, .string ⟨#[115, 51]⟩, .string ⟨#[110, 111, 110, 101]⟩], BlkOld w2.heap.size none g2 31 [.slice sA sn sc, .slice cA 4 cc, .slice vA vn vc, .slice pA pn pc], SlOld stEnc 15 140 w2.heap.size none sA sn sl, SlOld csEnc 2 159 w2.heap.size none cA 4 cl, SlOld vhEnc 2 77 w2.heap.size none vA vn vl, SlOld plEnc 3 143 w2.heap.size none pA pn pl, SlOld evEnc 5 92 w2.heap.size none eA en el])) ?_ ?_
   ·refine gw_region (mv_ rfl ?_)
    refine wl_ov (ov_loads (vs := [.slice sA sn sc, .slice cA 4 cc, .slice vA vn vc, .slice pA pn pc]) rz31 rfl (fun _ hm => (hm.fact 3 rfl).2) rfl rfl) rfl ?_
    refine mv_ rfl ?_
    refine wl_callv rfl cb48 rfl rfl (fun wx hm => (rStationAt_any sl sA cA vA pA sn sc 4 cc vn vc pn pc s4 wx (hm.fact 4 rfl).1 hsok (by omega))) ?_
    refine wl_ov (ov_lss rfl rfl) rfl (mv_ rfl ?_)
    rcases Bool.eq_false_or_eq_true (decide (ixP (stP s4) sl 0 < 0)) with hgd1 | hgd1
    ·refine wl_set 60 rfl (congrArg Value.bool hgd1) ?_
     have hone := hone0
     rw [hgd1, Bool.true_or] at hone
     refine goff rfl rfl rfl (goff rfl rfl rfl (goff rfl rfl rfl (goff rfl rfl rfl (goff rfl rfl rfl (pt_ rfl rfl ?_)))))
     refine wl_callw rfl cb19 rfl rfl (fun wx hm => (rwhen_any _ _ wx)) ?_
     refine mv_ rfl ?_
     refine wl_callv rfl cb21 rfl rfl (fun wx hm => (momentFault_any _ wx)) ?_
     refine wl_buildSlice (e := 35) (cs := [.int .i64 0, .int .i64 (whenE true 8), .int .i64 (momentE mt)]) rfl (by kernel_rfl) rfl fun g17 => ?_
     refine wl_callw (v := .int .i64 0) rfl cb18 rfl rfl (fun wx hm => (by have h := errs_any [0, whenE true 8, momentE mt] g17 3 _ wx (hm.blkI 0 rfl) (by simp); rw [← hone] at h; exact h)) ?_
     refine sg_ rfl (wl_nil ?_)
     exact nx_meet () trivial ⟨rfl, rfl, rfl, rfl, rfl, rfl, rfl, rfl, rfl, rfl, rfl, rfl, rfl, trivial⟩ (fun _ hm => hm.pick [] [] [0, 1, 2, 3, 4, 5, 6, 7, 8] rfl rfl)
    refine wl_set 60 rfl (congrArg Value.bool hgd1) ?_
    have hone := hone0
    rw [hgd1, Bool.false_or] at hone
    refine wl_guard_on rfl rfl rfl (fd_ fo31_1 rfl rfl (wl_guard_on rfl rfl rfl ?_))
    refine wl_ov (ov_load (v := .slice cA 4 cc) sc27 rfl (fun _ hm => (hm.fact 3 rfl).2) rfl) rfl ?_
    refine wl_guard_on rfl rfl rfl (mv_ rfl (wl_guard_on rfl rfl rfl ?_))
    refine wl_callv rfl cb49 rfl rfl (fun wx hm => (rClassAt_any cl cA 4 cc ck wx (hm.fact 5 rfl).1 (by omega))) ?_
    refine wl_guard_on rfl rfl rfl (wl_ov (ov_lss rfl rfl) rfl (pf_ rfl rfl ?_))
    refine wl_callw rfl cb19 rfl rfl (fun wx hm => (rwhen_any _ _ wx)) ?_
    refine mv_ rfl ?_
    refine wl_callv rfl cb21 rfl rfl (fun wx hm => (momentFault_any _ wx)) ?_
    refine wl_buildSlice (e := 35) (cs := [.int .i64 0, .int .i64 (whenE (decide (ixP (csP ck) cl 0 < 0)) 8), .int .i64 (momentE mt)]) rfl (by kernel_rfl) rfl fun g18 => ?_
    refine wl_callw (v := .int .i64 0) rfl cb18 rfl rfl (fun wx hm => (by have h := errs_any [0, whenE (decide (ixP (csP ck) cl 0 < 0)) 8, momentE mt] g18 3 _ wx (hm.blkI 0 rfl) (by simp); rw [← hone] at h; exact h)) ?_
    refine sg_ rfl (wl_nil ?_)
    exact nx_meet () trivial ⟨rfl, rfl, rfl, rfl, rfl, rfl, rfl, rfl, rfl, rfl, rfl, rfl, rfl, trivial⟩ (fun _ hm => hm.pick [] [] [0, 1, 2, 3, 4, 5, 6, 7, 8] rfl rfl)
   intro uu hinv
   replace hinv : True := hinv
   refine gw_cut (γ := Unit) (I := (fun (uu : Unit) => True)) (S' := (fun (uu : Unit) => [(2, .bool false), (4, .pointer (some ⟨g2, 0, none⟩)), (5, .slice eA en ec), (7, .string s4), (8, .string ck), (9, .int .i64 mt), (10, .int .i64 v8), (11, .slice aA ak ac), (12, .int .i64 0), (13, .slice none 0 0), (14, .int .i64 E2), (15, .int .i64 0), (16, .int .i64 E2)])) (K' := (fun (uu : Unit) => fun _ => True)) (L' := (fun (uu : Unit) => [])) (O' := (fun (uu : Unit) => [])) (X' := (fun (uu : Unit) => [fun wy => SlT sgEnc 1 9 wy aA ak (rfsL cl ck el mt s4 vl cl.length), BlkOld w2.heap.size none g7 3 [.int .i64 0, .int .i64 10, .int .i64 100, .int .i64 500, .int .i64 5761440, .int .i64 (-1), .int .i64 5761441], BlkOld w2.heap.size none g3 9 [.string ⟨#[115, 49]⟩, .string ⟨#[115, 50]⟩, .string ⟨#[115, 51]⟩, .string ⟨#[110, 111, 110, 101]⟩], BlkOld w2.heap.size none g2 31 [.slice sA sn sc, .slice cA 4 cc, .slice vA vn vc, .slice pA pn pc], SlOld stEnc 15 140 w2.heap.size none sA sn sl, SlOld csEnc 2 159 w2.heap.size none cA 4 cl, SlOld vhEnc 2 77 w2.heap.size none vA vn vl, SlOld plEnc 3 143 w2.heap.size none pA pn pl, SlOld evEnc 5 92 w2.heap.size none eA en el])) ?_ ?_
   ·refine gw_region (mv_ rfl (mv_ rfl (wl_ov (ov_lss rfl rfl) rfl (mv_ rfl ?_))))
    rcases Bool.eq_false_or_eq_true (decide (v8 < 0)) with hgd2 | hgd2
    ·refine wl_set 75 rfl (congrArg Value.bool hgd2) ?_
     have htwo := htwo0
     rw [hgd2, Bool.true_or] at htwo
     refine goff rfl rfl rfl (goff rfl rfl rfl (pt_ rfl rfl ?_))
     refine wl_callw rfl cb19 rfl rfl (fun wx hm => (rwhen_any _ _ wx)) ?_
     refine mv_ rfl ?_
     refine wl_callv rfl cb21 rfl rfl (fun wx hm => (momentFault_any _ wx)) ?_
     refine wl_buildSlice (e := 35) (cs := [.int .i64 0, .int .i64 (whenE true 1), .int .i64 (momentE mt)]) rfl (by kernel_rfl) rfl fun g19 => ?_
     refine wl_callw (v := .int .i64 E2) rfl cb18 rfl rfl (fun wx hm => (by have h := errs_any [0, whenE true 1, momentE mt] g19 3 _ wx (hm.blkI 0 rfl) (by simp); rw [← htwo] at h; exact h)) ?_
     refine sg_ rfl (wl_nil ?_)
     exact nx_meet () trivial ⟨rfl, rfl, rfl, rfl, rfl, rfl, rfl, rfl, rfl, rfl, rfl, rfl, rfl, trivial⟩ (fun _ hm => hm.pick [] [] [0, 1, 2, 3, 4, 5, 6, 7, 8] rfl rfl)
    refine wl_set 75 rfl (congrArg Value.bool hgd2) ?_
    have htwo := htwo0
    rw [hgd2, Bool.false_or] at htwo
    refine wl_guard_on rfl rfl rfl (mv_ rfl (wl_guard_on rfl rfl rfl ?_))
    refine wl_ov (ov_gtr rfl rfl) rfl ?_
    refine pf_ rfl rfl ?_
    refine wl_callw rfl cb19 rfl rfl (fun wx hm => (rwhen_any _ _ wx)) ?_
    refine mv_ rfl ?_
    refine wl_callv rfl cb21 rfl rfl (fun wx hm => (momentFault_any _ wx)) ?_
    refine wl_buildSlice (e := 35) (cs := [.int .i64 0, .int .i64 (whenE (decide (5761440 < v8)) 1), .int .i64 (momentE mt)]) rfl (by kernel_rfl) rfl fun g20 => ?_
    refine wl_callw (v := .int .i64 E2) rfl cb18 rfl rfl (fun wx hm => (by have h := errs_any [0, whenE (decide (5761440 < v8)) 1, momentE mt] g20 3 _ wx (hm.blkI 0 rfl) (by simp); rw [← htwo] at h; exact h)) ?_
    refine sg_ rfl (wl_nil ?_)
    exact nx_meet () trivial ⟨rfl, rfl, rfl, rfl, rfl, rfl, rfl, rfl, rfl, rfl, rfl, rfl, rfl, trivial⟩ (fun _ hm => hm.pick [] [] [0, 1, 2, 3, 4, 5, 6, 7, 8] rfl rfl)
   intro uu hinv
   replace hinv : True := hinv
   refine gw_seq (sr_ (mv_ rfl (mv_ rfl (wl_ov (ov_neq rfl rfl) rfl ?_))))
   refine wl_set 86 (v' := .bool false) rfl (congrArg Value.bool (by decide)) ?_
   refine mv_ rfl (wl_guard_on rfl rfl rfl (mv_ rfl (wl_guard_on rfl rfl rfl (mv_ rfl (wl_guard_on rfl rfl rfl (wl_ov (ov_neq rfl rfl) rfl ?_))))))
   refine wl_set 90 (v' := .bool false) rfl (congrArg Value.bool (by simp)) ?_
   refine pf_ rfl rfl (mv_ rfl (wl_guard_on rfl rfl rfl (mv_ rfl (wl_guard_on rfl rfl rfl (wl_ov (ov_neq rfl rfl) rfl ?_)))))
   refine wl_set 94 (v' := .bool false) rfl (congrArg Value.bool (by decide)) ?_
   refine wl_guard_on rfl rfl rfl (mv_ rfl (goff rfl rfl rfl (goff rfl rfl rfl (goff rfl rfl rfl (wl_guard_on rfl rfl rfl (pf_ rfl rfl (pf_ rfl rfl (mv_ rfl (wl_guard_on rfl rfl rfl (mv_ rfl (wl_guard_on rfl rfl rfl (wl_ov (ov_neq rfl rfl) rfl ?_))))))))))))
   refine wl_set 103 (v' := .bool true) rfl (congrArg Value.bool (by rw [decide_eq_false h3]; rfl)) ?_
   refine wl_guard_on rfl rfl rfl (mv_ rfl (wl_guard_on rfl rfl rfl (mv_ rfl (wl_guard_on rfl rfl rfl (wl_ov (ov_len es81 rfl) rfl ?_)))))
   refine wl_set 106 (v' := .int .i64 0) rfl rfl ?_
   refine wl_guard_on rfl rfl rfl ?_
   refine wl_ov (ov_gtr rfl rfl) rfl ?_
   refine wl_set 107 (v' := .bool false) rfl (congrArg Value.bool (by decide)) ?_
   refine wl_guard_on rfl rfl rfl (pt_ rfl rfl (pf_ rfl rfl (nn_ (cf_ rfl (gw_skip (nx_then (sr_ (mv_ rfl (wl_ov (ov_neq rfl rfl) rfl ?_)))))))))
   refine wl_set 111 (v' := .bool false) rfl (congrArg Value.bool (by decide)) ?_
   refine mv_ rfl (wl_guard_on rfl rfl rfl (mv_ rfl (wl_guard_on rfl rfl rfl ?_)))
   refine wl_ov (ov_loads (vs := [.slice sA sn sc, .slice cA 4 cc, .slice vA vn vc, .slice pA pn pc]) rz31 rfl (fun _ hm => (hm.fact 3 rfl).2) rfl rfl) rfl ?_
   refine wl_guard_on rfl rfl rfl (mv_ rfl (wl_guard_on rfl rfl rfl (mv_ rfl (wl_guard_on rfl rfl rfl (mv_ rfl (wl_guard_on rfl rfl rfl (mv_ rfl (wl_guard_on rfl rfl rfl ?_))))))))
   refine wl_callx (γ := Option Addr × Nat × Nat) (val := (fun g => .slice g.1 g.2.1 g.2.2)) (φ := (fun g => True)) (Y := (fun g => fun wy => SlT sgEnc 1 9 wy g.1 g.2.1 (rfsL cl ck el mt s4 vl cl.length))) rfl cb51 rfl rfl (fun wx hm => (readyOf_any cl vl sA cA vA pA sn sc 4 cc vn vc pn pc el eA en ec s4 ck mt wx (hm.fact 5 rfl).1 (hm.fact 6 rfl).1 (hm.fact 8 rfl).1 hcok hcl hlo (by omega) (by omega) (by omega)).mono fun _ _ ⟨A, k, c, he, h1, hg⟩ => ⟨(A, k, c), he, trivial, hg, h1⟩) (fun _ => SlT.lasts2 rfl) ?_
   rintro ⟨cA2, ck2, cc2⟩ hphi
   dsimp only
   clear hphi
   refine wl_guard_on rfl rfl rfl ?_
   refine wl_look (R := ak = ck2) (fun wx hm => by have h3 := ((hm.fact 1 rfl)).len; have h4 := ((hm.fact 0 rfl)).len; omega) ?_
   intro hbd
   subst hbd
   refine wl_callv rfl cb50 rfl rfl (fun wx hm => (equal_strs (rfsL cl ck el mt s4 vl cl.length) aA cA2 ak ac cc2 wx (hm.fact 1 rfl) (hm.fact 0 rfl) (by omega))) ?_
   refine pf_ rfl rfl (mv_ rfl (wl_guard_on rfl rfl rfl (mv_ rfl (wl_guard_on rfl rfl rfl (wl_ov (ov_neq rfl rfl) rfl ?_)))))
   refine wl_set 124 (v' := .bool true) rfl (congrArg Value.bool (by rw [decide_eq_false h3]; rfl)) ?_
   refine wl_guard_on rfl rfl rfl (mv_ rfl (goff rfl rfl rfl (goff rfl rfl rfl (goff rfl rfl rfl (goff rfl rfl rfl (goff rfl rfl rfl (goff rfl rfl rfl (goff rfl rfl rfl (wl_guard_on rfl rfl rfl (pt_ rfl rfl (pt_ rfl rfl (mv_ rfl (wl_guard_on rfl rfl rfl ?_)))))))))))))
   refine wl_callv rfl cb26 rfl rfl (fun wx hm => (lots_any wx)) ?_
   refine pt_ rfl rfl (sg_ rfl (nn_ ?_))
   refine gw_ret ?_
   refine nx_ret1 rfl rfl fun wx hm => ?_
   exact ⟨rfl, law_end hg1 hsb (grow_trans hm_w2.g (grow_weak hm.g))⟩
  by_cases h3 : E2 = 0
  ·subst h3
   have hmtb := moment_nn (fe_all (htwo0.symm) (momentE mt) (by simp))
   obtain ⟨hmt0, hmt1⟩ := hmtb
   refine wl_callv (v := .tuple #[.slice none 0 0, .int .i64 E1]) rfl cb46 rfl rfl (fun wx hm => (by have h := lotReady_any sl cl vl pl sA cA vA pA sn sc 4 cc vn vc pn pc el eA en ec s4 ck mt wx (hm.fact 3 rfl).1 (hm.fact 4 rfl).1 (hm.fact 5 rfl).1 (hm.fact 6 rfl).1 hsok hcok hvok hpok (by omega) (by omega) (by omega) (by omega) (hm.fact 7 rfl).1 heok (by omega) (by omega); rw [← hE1] at h; refine h.mono ?_; rintro e w3 ⟨A, n, c, rfl, _, h4, hg⟩; obtain ⟨rfl, rfl, rfl⟩ := h4 h2; exact ⟨rfl, hg⟩)) ?_
   refine mv_ rfl (wl_ov (ov_extract rfl rfl) rfl (wl_ov (ov_extract rfl rfl) rfl (sg_ rfl (sg_ rfl (nn_ (sr_ ?_))))))
   refine wl_ov (ov_loads (vs := [.slice sA sn sc, .slice cA 4 cc, .slice vA vn vc, .slice pA pn pc]) rz31 rfl (fun _ hm => (hm.fact 2 rfl).2) rfl rfl) rfl ?_
   refine mv_ rfl (mv_ rfl (mv_ rfl ?_))
   refine wl_callx (γ := Option Addr × Nat × Nat) (val := (fun g => .tuple #[.slice g.1 g.2.1 g.2.2, .int .i64 0])) (φ := (fun g => g.2.1 ≤ vn)) (Y := (fun g => fun wy => SlT sgEnc 1 9 wy g.1 g.2.1 (idL el mt v8 vl))) rfl cb47 rfl rfl (fun wx hm => (by have h := idle_any sl cl vl pl sA cA vA pA sn sc 4 cc vn vc pn pc el eA en ec v8 mt wx (hm.fact 3 rfl).1 (hm.fact 4 rfl).1 (hm.fact 5 rfl).1 (hm.fact 6 rfl).1 hsok hcok hvok hpok (by omega) (by omega) (by omega) (by omega) (hm.fact 7 rfl).1 heok (by omega); rw [← hE2] at h; exact h.mono fun _ _ ⟨A, k, c, he, h1, _, hg⟩ => ⟨(A, k, c), he, (h1 rfl).2, hg, (h1 rfl).1⟩)) (fun _ => SlT.lasts2 rfl) ?_
   rintro ⟨bA, bk, bc⟩ hbk
   dsimp only at hbk ⊢
   refine mv_ rfl (wl_ov (ov_extract rfl rfl) rfl (wl_ov (ov_extract rfl rfl) rfl (sg_ rfl (sg_ rfl (nn_ ?_)))))
   refine gw_cut (γ := Unit) (I := (fun (uu : Unit) => True)) (S' := (fun (uu : Unit) => [(2, .bool false), (4, .pointer (some ⟨g2, 0, none⟩)), (5, .slice eA en ec), (6, .int .i64 0), (7, .string s4), (8, .string ck), (9, .int .i64 mt), (10, .int .i64 v8), (11, .slice none 0 0), (12, .int .i64 E1), (13, .slice bA bk bc), (14, .int .i64 0), (15, .int .i64 E1)])) (K' := (fun (uu : Unit) => fun _ => True)) (L' := (fun (uu : Unit) => [])) (O' := (fun (uu : Unit) => [])) (X' := (fun (uu : Unit) => [fun wy => SlT sgEnc 1 9 wy bA bk (idL el mt v8 vl), BlkOld w2.heap.size none g7 3 [.int .i64 0, .int .i64 10, .int .i64 100, .int .i64 500, .int .i64 5761440, .int .i64 (-1), .int .i64 5761441], BlkOld w2.heap.size none g3 9 [.string ⟨#[115, 49]⟩, .string ⟨#[115, 50]⟩, .string ⟨#[115, 51]⟩, .string ⟨#[110, 111, 110, 101]⟩], BlkOld w2.heap.size none g2 31 [.slice sA sn sc, .slice cA 4 cc, .slice vA vn vc, .slice pA pn pc], SlOld stEnc 15 140 w2.heap.size none sA sn sl, SlOld csEnc 2 159 w2.heap.size none cA 4 cl, SlOld vhEnc 2 77 w2.heap.size none vA vn vl, SlOld plEnc 3 143 w2.heap.size none pA pn pl, SlOld evEnc 5 92 w2.heap.size none eA en el])) ?_ ?_
   ·refine gw_region (mv_ rfl ?_)
    refine wl_ov (ov_loads (vs := [.slice sA sn sc, .slice cA 4 cc, .slice vA vn vc, .slice pA pn pc]) rz31 rfl (fun _ hm => (hm.fact 3 rfl).2) rfl rfl) rfl ?_
    refine mv_ rfl ?_
    refine wl_callv rfl cb48 rfl rfl (fun wx hm => (rStationAt_any sl sA cA vA pA sn sc 4 cc vn vc pn pc s4 wx (hm.fact 4 rfl).1 hsok (by omega))) ?_
    refine wl_ov (ov_lss rfl rfl) rfl (mv_ rfl ?_)
    rcases Bool.eq_false_or_eq_true (decide (ixP (stP s4) sl 0 < 0)) with hgd1 | hgd1
    ·refine wl_set 60 rfl (congrArg Value.bool hgd1) ?_
     have hone := hone0
     rw [hgd1, Bool.true_or] at hone
     refine goff rfl rfl rfl (goff rfl rfl rfl (goff rfl rfl rfl (goff rfl rfl rfl (goff rfl rfl rfl (pt_ rfl rfl ?_)))))
     refine wl_callw rfl cb19 rfl rfl (fun wx hm => (rwhen_any _ _ wx)) ?_
     refine mv_ rfl ?_
     refine wl_callv rfl cb21 rfl rfl (fun wx hm => (momentFault_any _ wx)) ?_
     refine wl_buildSlice (e := 35) (cs := [.int .i64 0, .int .i64 (whenE true 8), .int .i64 (momentE mt)]) rfl (by kernel_rfl) rfl fun g21 => ?_
     refine wl_callw (v := .int .i64 E1) rfl cb18 rfl rfl (fun wx hm => (by have h := errs_any [0, whenE true 8, momentE mt] g21 3 _ wx (hm.blkI 0 rfl) (by simp); rw [← hone] at h; exact h)) ?_
     refine sg_ rfl (wl_nil ?_)
     exact nx_meet () trivial ⟨rfl, rfl, rfl, rfl, rfl, rfl, rfl, rfl, rfl, rfl, rfl, rfl, rfl, trivial⟩ (fun _ hm => hm.pick [] [] [0, 1, 2, 3, 4, 5, 6, 7, 8] rfl rfl)
    refine wl_set 60 rfl (congrArg Value.bool hgd1) ?_
    have hone := hone0
    rw [hgd1, Bool.false_or] at hone
    refine wl_guard_on rfl rfl rfl (fd_ fo31_1 rfl rfl (wl_guard_on rfl rfl rfl ?_))
    refine wl_ov (ov_load (v := .slice cA 4 cc) sc27 rfl (fun _ hm => (hm.fact 3 rfl).2) rfl) rfl ?_
    refine wl_guard_on rfl rfl rfl (mv_ rfl (wl_guard_on rfl rfl rfl ?_))
    refine wl_callv rfl cb49 rfl rfl (fun wx hm => (rClassAt_any cl cA 4 cc ck wx (hm.fact 5 rfl).1 (by omega))) ?_
    refine wl_guard_on rfl rfl rfl (wl_ov (ov_lss rfl rfl) rfl (pf_ rfl rfl ?_))
    refine wl_callw rfl cb19 rfl rfl (fun wx hm => (rwhen_any _ _ wx)) ?_
    refine mv_ rfl ?_
    refine wl_callv rfl cb21 rfl rfl (fun wx hm => (momentFault_any _ wx)) ?_
    refine wl_buildSlice (e := 35) (cs := [.int .i64 0, .int .i64 (whenE (decide (ixP (csP ck) cl 0 < 0)) 8), .int .i64 (momentE mt)]) rfl (by kernel_rfl) rfl fun g22 => ?_
    refine wl_callw (v := .int .i64 E1) rfl cb18 rfl rfl (fun wx hm => (by have h := errs_any [0, whenE (decide (ixP (csP ck) cl 0 < 0)) 8, momentE mt] g22 3 _ wx (hm.blkI 0 rfl) (by simp); rw [← hone] at h; exact h)) ?_
    refine sg_ rfl (wl_nil ?_)
    exact nx_meet () trivial ⟨rfl, rfl, rfl, rfl, rfl, rfl, rfl, rfl, rfl, rfl, rfl, rfl, rfl, trivial⟩ (fun _ hm => hm.pick [] [] [0, 1, 2, 3, 4, 5, 6, 7, 8] rfl rfl)
   intro uu hinv
   replace hinv : True := hinv
   refine gw_cut (γ := Unit) (I := (fun (uu : Unit) => True)) (S' := (fun (uu : Unit) => [(2, .bool false), (4, .pointer (some ⟨g2, 0, none⟩)), (5, .slice eA en ec), (7, .string s4), (8, .string ck), (9, .int .i64 mt), (10, .int .i64 v8), (11, .slice none 0 0), (12, .int .i64 E1), (13, .slice bA bk bc), (14, .int .i64 0), (15, .int .i64 E1), (16, .int .i64 0)])) (K' := (fun (uu : Unit) => fun _ => True)) (L' := (fun (uu : Unit) => [])) (O' := (fun (uu : Unit) => [])) (X' := (fun (uu : Unit) => [fun wy => SlT sgEnc 1 9 wy bA bk (idL el mt v8 vl), BlkOld w2.heap.size none g7 3 [.int .i64 0, .int .i64 10, .int .i64 100, .int .i64 500, .int .i64 5761440, .int .i64 (-1), .int .i64 5761441], BlkOld w2.heap.size none g3 9 [.string ⟨#[115, 49]⟩, .string ⟨#[115, 50]⟩, .string ⟨#[115, 51]⟩, .string ⟨#[110, 111, 110, 101]⟩], BlkOld w2.heap.size none g2 31 [.slice sA sn sc, .slice cA 4 cc, .slice vA vn vc, .slice pA pn pc], SlOld stEnc 15 140 w2.heap.size none sA sn sl, SlOld csEnc 2 159 w2.heap.size none cA 4 cl, SlOld vhEnc 2 77 w2.heap.size none vA vn vl, SlOld plEnc 3 143 w2.heap.size none pA pn pl, SlOld evEnc 5 92 w2.heap.size none eA en el])) ?_ ?_
   ·refine gw_region (mv_ rfl (mv_ rfl (wl_ov (ov_lss rfl rfl) rfl (mv_ rfl ?_))))
    rcases Bool.eq_false_or_eq_true (decide (v8 < 0)) with hgd2 | hgd2
    ·refine wl_set 75 rfl (congrArg Value.bool hgd2) ?_
     have htwo := htwo0
     rw [hgd2, Bool.true_or] at htwo
     refine goff rfl rfl rfl (goff rfl rfl rfl (pt_ rfl rfl ?_))
     refine wl_callw rfl cb19 rfl rfl (fun wx hm => (rwhen_any _ _ wx)) ?_
     refine mv_ rfl ?_
     refine wl_callv rfl cb21 rfl rfl (fun wx hm => (momentFault_any _ wx)) ?_
     refine wl_buildSlice (e := 35) (cs := [.int .i64 0, .int .i64 (whenE true 1), .int .i64 (momentE mt)]) rfl (by kernel_rfl) rfl fun g23 => ?_
     refine wl_callw (v := .int .i64 0) rfl cb18 rfl rfl (fun wx hm => (by have h := errs_any [0, whenE true 1, momentE mt] g23 3 _ wx (hm.blkI 0 rfl) (by simp); rw [← htwo] at h; exact h)) ?_
     refine sg_ rfl (wl_nil ?_)
     exact nx_meet () trivial ⟨rfl, rfl, rfl, rfl, rfl, rfl, rfl, rfl, rfl, rfl, rfl, rfl, rfl, trivial⟩ (fun _ hm => hm.pick [] [] [0, 1, 2, 3, 4, 5, 6, 7, 8] rfl rfl)
    refine wl_set 75 rfl (congrArg Value.bool hgd2) ?_
    have htwo := htwo0
    rw [hgd2, Bool.false_or] at htwo
    refine wl_guard_on rfl rfl rfl (mv_ rfl (wl_guard_on rfl rfl rfl ?_))
    refine wl_ov (ov_gtr rfl rfl) rfl ?_
    refine pf_ rfl rfl ?_
    refine wl_callw rfl cb19 rfl rfl (fun wx hm => (rwhen_any _ _ wx)) ?_
    refine mv_ rfl ?_
    refine wl_callv rfl cb21 rfl rfl (fun wx hm => (momentFault_any _ wx)) ?_
    refine wl_buildSlice (e := 35) (cs := [.int .i64 0, .int .i64 (whenE (decide (5761440 < v8)) 1), .int .i64 (momentE mt)]) rfl (by kernel_rfl) rfl fun g24 => ?_
    refine wl_callw (v := .int .i64 0) rfl cb18 rfl rfl (fun wx hm => (by have h := errs_any [0, whenE (decide (5761440 < v8)) 1, momentE mt] g24 3 _ wx (hm.blkI 0 rfl) (by simp); rw [← htwo] at h; exact h)) ?_
    refine sg_ rfl (wl_nil ?_)
    exact nx_meet () trivial ⟨rfl, rfl, rfl, rfl, rfl, rfl, rfl, rfl, rfl, rfl, rfl, rfl, rfl, trivial⟩ (fun _ hm => hm.pick [] [] [0, 1, 2, 3, 4, 5, 6, 7, 8] rfl rfl)
   intro uu hinv
   replace hinv : True := hinv
   refine gw_seq (sr_ (mv_ rfl (mv_ rfl (wl_ov (ov_neq rfl rfl) rfl ?_))))
   refine wl_set 86 (v' := .bool false) rfl (congrArg Value.bool (by simp)) ?_
   refine mv_ rfl (wl_guard_on rfl rfl rfl (mv_ rfl (wl_guard_on rfl rfl rfl (mv_ rfl (wl_guard_on rfl rfl rfl (wl_ov (ov_neq rfl rfl) rfl ?_))))))
   refine wl_set 90 (v' := .bool false) rfl (congrArg Value.bool (by decide)) ?_
   refine pf_ rfl rfl (mv_ rfl (wl_guard_on rfl rfl rfl (mv_ rfl (wl_guard_on rfl rfl rfl (wl_ov (ov_neq rfl rfl) rfl ?_)))))
   refine wl_set 94 (v' := .bool true) rfl (congrArg Value.bool (by rw [decide_eq_false h2]; rfl)) ?_
   refine wl_guard_on rfl rfl rfl (mv_ rfl (wl_guard_on rfl rfl rfl (mv_ rfl (wl_guard_on rfl rfl rfl (wl_ov (ov_len es81 rfl) rfl ?_)))))
   refine wl_set 97 (v' := .int .i64 0) rfl rfl ?_
   refine wl_guard_on rfl rfl rfl ?_
   refine wl_ov (ov_gtr rfl rfl) rfl ?_
   refine wl_set 98 (v' := .bool false) rfl (congrArg Value.bool (by decide)) ?_
   refine wl_guard_on rfl rfl rfl (pt_ rfl rfl (pf_ rfl rfl (mv_ rfl (wl_guard_on rfl rfl rfl (mv_ rfl (wl_guard_on rfl rfl rfl (wl_ov (ov_neq rfl rfl) rfl ?_)))))))
   refine wl_set 103 (v' := .bool false) rfl (congrArg Value.bool (by decide)) ?_
   refine wl_guard_on rfl rfl rfl (mv_ rfl (goff rfl rfl rfl (goff rfl rfl rfl (goff rfl rfl rfl (wl_guard_on rfl rfl rfl (pf_ rfl rfl (pf_ rfl rfl (nn_ (cf_ rfl (gw_skip (nx_then (gw_seq ?_))))))))))))
   refine gw_region (mv_ rfl (wl_ov (ov_neq rfl rfl) rfl ?_))
   refine wl_set 111 (v' := .bool true) rfl (congrArg Value.bool (by rw [decide_eq_false h2]; rfl)) ?_
   refine mv_ rfl (goff rfl rfl rfl (goff rfl rfl rfl (goff rfl rfl rfl (goff rfl rfl rfl (goff rfl rfl rfl (goff rfl rfl rfl (goff rfl rfl rfl (goff rfl rfl rfl (pt_ rfl rfl (mv_ rfl (wl_guard_on rfl rfl rfl (mv_ rfl (wl_guard_on rfl rfl rfl ?_)))))))))))))
   refine wl_ov (ov_neq rfl rfl) rfl ?_
   refine wl_set 124 (v' := .bool false) rfl (congrArg Value.bool (by decide)) ?_
   refine wl_guard_on rfl rfl rfl (mv_ rfl (wl_guard_on rfl rfl rfl (mv_ rfl (wl_guard_on rfl rfl rfl ?_))))
   refine wl_ov (ov_loads (vs := [.slice sA sn sc, .slice cA 4 cc, .slice vA vn vc, .slice pA pn pc]) rz31 rfl (fun _ hm => (hm.fact 3 rfl).2) rfl rfl) rfl ?_
   refine wl_guard_on rfl rfl rfl (mv_ rfl (wl_guard_on rfl rfl rfl (mv_ rfl (wl_guard_on rfl rfl rfl (mv_ rfl (wl_guard_on rfl rfl rfl ?_))))))
   refine wl_callx (γ := Option Addr × Nat × Nat) (val := (fun g => .slice g.1 g.2.1 g.2.2)) (φ := (fun g => True)) (Y := (fun g => fun wy => SlT sgEnc 1 9 wy g.1 g.2.1 (idL el mt v8 vl))) rfl cb52 rfl rfl (fun wx hm => (idleOf_any vl sA cA vA pA sn sc 4 cc vn vc pn pc el eA en ec v8 mt wx (hm.fact 6 rfl).1 (hm.fact 8 rfl).1 heok hmt0 hmt1 (by omega) (by omega)).mono fun _ _ ⟨A, k, c, he, h1, hg⟩ => ⟨(A, k, c), he, trivial, hg, h1⟩) (fun _ => SlT.lasts2 rfl) ?_
   rintro ⟨dA, dk, dc⟩ hphi
   dsimp only
   clear hphi
   refine wl_guard_on rfl rfl rfl ?_
   refine wl_look (R := bk = dk) (fun wx hm => by have h3 := ((hm.fact 1 rfl)).len; have h4 := ((hm.fact 0 rfl)).len; omega) ?_
   intro hbd
   subst hbd
   refine wl_callv rfl cb50 rfl rfl (fun wx hm => (equal_strs (idL el mt v8 vl) bA dA bk bc dc wx (hm.fact 1 rfl) (hm.fact 0 rfl) (by omega))) ?_
   refine wl_guard_on rfl rfl rfl (pf_ rfl rfl (pt_ rfl rfl (mv_ rfl (wl_guard_on rfl rfl rfl ?_))))
   refine wl_callv rfl cb26 rfl rfl (fun wx hm => (lots_any wx)) ?_
   refine pt_ rfl rfl (sg_ rfl (nn_ ?_))
   refine gw_ret ?_
   refine nx_ret1 rfl rfl fun wx hm => ?_
   exact ⟨rfl, law_end hg1 hsb (grow_trans hm_w2.g (grow_weak hm.g))⟩
  refine wl_callv (v := .tuple #[.slice none 0 0, .int .i64 E1]) rfl cb46 rfl rfl (fun wx hm => (by have h := lotReady_any sl cl vl pl sA cA vA pA sn sc 4 cc vn vc pn pc el eA en ec s4 ck mt wx (hm.fact 3 rfl).1 (hm.fact 4 rfl).1 (hm.fact 5 rfl).1 (hm.fact 6 rfl).1 hsok hcok hvok hpok (by omega) (by omega) (by omega) (by omega) (hm.fact 7 rfl).1 heok (by omega) (by omega); rw [← hE1] at h; refine h.mono ?_; rintro e w3 ⟨A, n, c, rfl, _, h4, hg⟩; obtain ⟨rfl, rfl, rfl⟩ := h4 h2; exact ⟨rfl, hg⟩)) ?_
  refine mv_ rfl (wl_ov (ov_extract rfl rfl) rfl (wl_ov (ov_extract rfl rfl) rfl (sg_ rfl (sg_ rfl (nn_ (sr_ ?_))))))
  refine wl_ov (ov_loads (vs := [.slice sA sn sc, .slice cA 4 cc, .slice vA vn vc, .slice pA pn pc]) rz31 rfl (fun _ hm => (hm.fact 2 rfl).2) rfl rfl) rfl ?_
  refine mv_ rfl (mv_ rfl (mv_ rfl ?_))
  refine wl_callv (v := .tuple #[.slice none 0 0, .int .i64 E2]) rfl cb47 rfl rfl (fun wx hm => (by have h := idle_any sl cl vl pl sA cA vA pA sn sc 4 cc vn vc pn pc el eA en ec v8 mt wx (hm.fact 3 rfl).1 (hm.fact 4 rfl).1 (hm.fact 5 rfl).1 (hm.fact 6 rfl).1 hsok hcok hvok hpok (by omega) (by omega) (by omega) (by omega) (hm.fact 7 rfl).1 heok (by omega); rw [← hE2] at h; refine h.mono ?_; rintro e w3 ⟨A, n, c, rfl, _, h4, hg⟩; obtain ⟨rfl, rfl, rfl⟩ := h4 h3; exact ⟨rfl, hg⟩)) ?_
  refine mv_ rfl (wl_ov (ov_extract rfl rfl) rfl (wl_ov (ov_extract rfl rfl) rfl (sg_ rfl (sg_ rfl (nn_ ?_)))))
  refine gw_cut (γ := Unit) (I := (fun (uu : Unit) => True)) (S' := (fun (uu : Unit) => [(2, .bool false), (4, .pointer (some ⟨g2, 0, none⟩)), (5, .slice eA en ec), (6, .int .i64 0), (7, .string s4), (8, .string ck), (9, .int .i64 mt), (10, .int .i64 v8), (11, .slice none 0 0), (12, .int .i64 E1), (13, .slice none 0 0), (14, .int .i64 E2), (15, .int .i64 E1)])) (K' := (fun (uu : Unit) => fun _ => True)) (L' := (fun (uu : Unit) => [])) (O' := (fun (uu : Unit) => [])) (X' := (fun (uu : Unit) => [BlkOld w2.heap.size none g7 3 [.int .i64 0, .int .i64 10, .int .i64 100, .int .i64 500, .int .i64 5761440, .int .i64 (-1), .int .i64 5761441], BlkOld w2.heap.size none g3 9 [.string ⟨#[115, 49]⟩, .string ⟨#[115, 50]⟩, .string ⟨#[115, 51]⟩, .string ⟨#[110, 111, 110, 101]⟩], BlkOld w2.heap.size none g2 31 [.slice sA sn sc, .slice cA 4 cc, .slice vA vn vc, .slice pA pn pc], SlOld stEnc 15 140 w2.heap.size none sA sn sl, SlOld csEnc 2 159 w2.heap.size none cA 4 cl, SlOld vhEnc 2 77 w2.heap.size none vA vn vl, SlOld plEnc 3 143 w2.heap.size none pA pn pl, SlOld evEnc 5 92 w2.heap.size none eA en el])) ?_ ?_
  ·refine gw_region (mv_ rfl ?_)
   refine wl_ov (ov_loads (vs := [.slice sA sn sc, .slice cA 4 cc, .slice vA vn vc, .slice pA pn pc]) rz31 rfl (fun _ hm => (hm.fact 2 rfl).2) rfl rfl) rfl ?_
   refine mv_ rfl ?_
   refine wl_callv rfl cb48 rfl rfl (fun wx hm => (rStationAt_any sl sA cA vA pA sn sc 4 cc vn vc pn pc s4 wx (hm.fact 3 rfl).1 hsok (by omega))) ?_
   refine wl_ov (ov_lss rfl rfl) rfl (mv_ rfl ?_)
   rcases Bool.eq_false_or_eq_true (decide (ixP (stP s4) sl 0 < 0)) with hgd1 | hgd1
   ·refine wl_set 60 rfl (congrArg Value.bool hgd1) ?_
    have hone := hone0
    rw [hgd1, Bool.true_or] at hone
    refine goff rfl rfl rfl (goff rfl rfl rfl (goff rfl rfl rfl (goff rfl rfl rfl (goff rfl rfl rfl (pt_ rfl rfl ?_)))))
    refine wl_callw rfl cb19 rfl rfl (fun wx hm => (rwhen_any _ _ wx)) ?_
    refine mv_ rfl ?_
    refine wl_callv rfl cb21 rfl rfl (fun wx hm => (momentFault_any _ wx)) ?_
    refine wl_buildSlice (e := 35) (cs := [.int .i64 0, .int .i64 (whenE true 8), .int .i64 (momentE mt)]) rfl (by kernel_rfl) rfl fun g25 => ?_
    refine wl_callw (v := .int .i64 E1) rfl cb18 rfl rfl (fun wx hm => (by have h := errs_any [0, whenE true 8, momentE mt] g25 3 _ wx (hm.blkI 0 rfl) (by simp); rw [← hone] at h; exact h)) ?_
    refine sg_ rfl (wl_nil ?_)
    exact nx_meet () trivial ⟨rfl, rfl, rfl, rfl, rfl, rfl, rfl, rfl, rfl, rfl, rfl, rfl, rfl, trivial⟩ (fun _ hm => hm.pick [] [] [0, 1, 2, 3, 4, 5, 6, 7] rfl rfl)
   refine wl_set 60 rfl (congrArg Value.bool hgd1) ?_
   have hone := hone0
   rw [hgd1, Bool.false_or] at hone
   refine wl_guard_on rfl rfl rfl (fd_ fo31_1 rfl rfl (wl_guard_on rfl rfl rfl ?_))
   refine wl_ov (ov_load (v := .slice cA 4 cc) sc27 rfl (fun _ hm => (hm.fact 2 rfl).2) rfl) rfl ?_
   refine wl_guard_on rfl rfl rfl (mv_ rfl (wl_guard_on rfl rfl rfl ?_))
   refine wl_callv rfl cb49 rfl rfl (fun wx hm => (rClassAt_any cl cA 4 cc ck wx (hm.fact 4 rfl).1 (by omega))) ?_
   refine wl_guard_on rfl rfl rfl (wl_ov (ov_lss rfl rfl) rfl (pf_ rfl rfl ?_))
   refine wl_callw rfl cb19 rfl rfl (fun wx hm => (rwhen_any _ _ wx)) ?_
   refine mv_ rfl ?_
   refine wl_callv rfl cb21 rfl rfl (fun wx hm => (momentFault_any _ wx)) ?_
   refine wl_buildSlice (e := 35) (cs := [.int .i64 0, .int .i64 (whenE (decide (ixP (csP ck) cl 0 < 0)) 8), .int .i64 (momentE mt)]) rfl (by kernel_rfl) rfl fun g26 => ?_
   refine wl_callw (v := .int .i64 E1) rfl cb18 rfl rfl (fun wx hm => (by have h := errs_any [0, whenE (decide (ixP (csP ck) cl 0 < 0)) 8, momentE mt] g26 3 _ wx (hm.blkI 0 rfl) (by simp); rw [← hone] at h; exact h)) ?_
   refine sg_ rfl (wl_nil ?_)
   exact nx_meet () trivial ⟨rfl, rfl, rfl, rfl, rfl, rfl, rfl, rfl, rfl, rfl, rfl, rfl, rfl, trivial⟩ (fun _ hm => hm.pick [] [] [0, 1, 2, 3, 4, 5, 6, 7] rfl rfl)
  intro uu hinv
  replace hinv : True := hinv
  refine gw_cut (γ := Unit) (I := (fun (uu : Unit) => True)) (S' := (fun (uu : Unit) => [(2, .bool false), (4, .pointer (some ⟨g2, 0, none⟩)), (5, .slice eA en ec), (7, .string s4), (8, .string ck), (9, .int .i64 mt), (10, .int .i64 v8), (11, .slice none 0 0), (12, .int .i64 E1), (13, .slice none 0 0), (14, .int .i64 E2), (15, .int .i64 E1), (16, .int .i64 E2)])) (K' := (fun (uu : Unit) => fun _ => True)) (L' := (fun (uu : Unit) => [])) (O' := (fun (uu : Unit) => [])) (X' := (fun (uu : Unit) => [BlkOld w2.heap.size none g7 3 [.int .i64 0, .int .i64 10, .int .i64 100, .int .i64 500, .int .i64 5761440, .int .i64 (-1), .int .i64 5761441], BlkOld w2.heap.size none g3 9 [.string ⟨#[115, 49]⟩, .string ⟨#[115, 50]⟩, .string ⟨#[115, 51]⟩, .string ⟨#[110, 111, 110, 101]⟩], BlkOld w2.heap.size none g2 31 [.slice sA sn sc, .slice cA 4 cc, .slice vA vn vc, .slice pA pn pc], SlOld stEnc 15 140 w2.heap.size none sA sn sl, SlOld csEnc 2 159 w2.heap.size none cA 4 cl, SlOld vhEnc 2 77 w2.heap.size none vA vn vl, SlOld plEnc 3 143 w2.heap.size none pA pn pl, SlOld evEnc 5 92 w2.heap.size none eA en el])) ?_ ?_
  ·refine gw_region (mv_ rfl (mv_ rfl (wl_ov (ov_lss rfl rfl) rfl (mv_ rfl ?_))))
   rcases Bool.eq_false_or_eq_true (decide (v8 < 0)) with hgd2 | hgd2
   ·refine wl_set 75 rfl (congrArg Value.bool hgd2) ?_
    have htwo := htwo0
    rw [hgd2, Bool.true_or] at htwo
    refine goff rfl rfl rfl (goff rfl rfl rfl (pt_ rfl rfl ?_))
    refine wl_callw rfl cb19 rfl rfl (fun wx hm => (rwhen_any _ _ wx)) ?_
    refine mv_ rfl ?_
    refine wl_callv rfl cb21 rfl rfl (fun wx hm => (momentFault_any _ wx)) ?_
    refine wl_buildSlice (e := 35) (cs := [.int .i64 0, .int .i64 (whenE true 1), .int .i64 (momentE mt)]) rfl (by kernel_rfl) rfl fun g27 => ?_
    refine wl_callw (v := .int .i64 E2) rfl cb18 rfl rfl (fun wx hm => (by have h := errs_any [0, whenE true 1, momentE mt] g27 3 _ wx (hm.blkI 0 rfl) (by simp); rw [← htwo] at h; exact h)) ?_
    refine sg_ rfl (wl_nil ?_)
    exact nx_meet () trivial ⟨rfl, rfl, rfl, rfl, rfl, rfl, rfl, rfl, rfl, rfl, rfl, rfl, rfl, trivial⟩ (fun _ hm => hm.pick [] [] [0, 1, 2, 3, 4, 5, 6, 7] rfl rfl)
   refine wl_set 75 rfl (congrArg Value.bool hgd2) ?_
   have htwo := htwo0
   rw [hgd2, Bool.false_or] at htwo
   refine wl_guard_on rfl rfl rfl (mv_ rfl (wl_guard_on rfl rfl rfl ?_))
   refine wl_ov (ov_gtr rfl rfl) rfl ?_
   refine pf_ rfl rfl ?_
   refine wl_callw rfl cb19 rfl rfl (fun wx hm => (rwhen_any _ _ wx)) ?_
   refine mv_ rfl ?_
   refine wl_callv rfl cb21 rfl rfl (fun wx hm => (momentFault_any _ wx)) ?_
   refine wl_buildSlice (e := 35) (cs := [.int .i64 0, .int .i64 (whenE (decide (5761440 < v8)) 1), .int .i64 (momentE mt)]) rfl (by kernel_rfl) rfl fun g28 => ?_
   refine wl_callw (v := .int .i64 E2) rfl cb18 rfl rfl (fun wx hm => (by have h := errs_any [0, whenE (decide (5761440 < v8)) 1, momentE mt] g28 3 _ wx (hm.blkI 0 rfl) (by simp); rw [← htwo] at h; exact h)) ?_
   refine sg_ rfl (wl_nil ?_)
   exact nx_meet () trivial ⟨rfl, rfl, rfl, rfl, rfl, rfl, rfl, rfl, rfl, rfl, rfl, rfl, rfl, trivial⟩ (fun _ hm => hm.pick [] [] [0, 1, 2, 3, 4, 5, 6, 7] rfl rfl)
  intro uu hinv
  replace hinv : True := hinv
  refine gw_seq (sr_ (mv_ rfl (mv_ rfl (wl_ov (ov_neq rfl rfl) rfl ?_))))
  refine wl_set 86 (v' := .bool false) rfl (congrArg Value.bool (by simp)) ?_
  refine mv_ rfl (wl_guard_on rfl rfl rfl (mv_ rfl (wl_guard_on rfl rfl rfl (mv_ rfl (wl_guard_on rfl rfl rfl (wl_ov (ov_neq rfl rfl) rfl ?_))))))
  refine wl_set 90 (v' := .bool false) rfl (congrArg Value.bool (by simp)) ?_
  refine pf_ rfl rfl (mv_ rfl (wl_guard_on rfl rfl rfl (mv_ rfl (wl_guard_on rfl rfl rfl (wl_ov (ov_neq rfl rfl) rfl ?_)))))
  refine wl_set 94 (v' := .bool true) rfl (congrArg Value.bool (by rw [decide_eq_false h2]; rfl)) ?_
  refine wl_guard_on rfl rfl rfl (mv_ rfl (wl_guard_on rfl rfl rfl (mv_ rfl (wl_guard_on rfl rfl rfl (wl_ov (ov_len es81 rfl) rfl ?_)))))
  refine wl_set 97 (v' := .int .i64 0) rfl rfl ?_
  refine wl_guard_on rfl rfl rfl ?_
  refine wl_ov (ov_gtr rfl rfl) rfl ?_
  refine wl_set 98 (v' := .bool false) rfl (congrArg Value.bool (by decide)) ?_
  refine wl_guard_on rfl rfl rfl (pt_ rfl rfl (pf_ rfl rfl (mv_ rfl (wl_guard_on rfl rfl rfl (mv_ rfl (wl_guard_on rfl rfl rfl (wl_ov (ov_neq rfl rfl) rfl ?_)))))))
  refine wl_set 103 (v' := .bool true) rfl (congrArg Value.bool (by rw [decide_eq_false h3]; rfl)) ?_
  refine wl_guard_on rfl rfl rfl (mv_ rfl (wl_guard_on rfl rfl rfl (mv_ rfl (wl_guard_on rfl rfl rfl (wl_ov (ov_len es81 rfl) rfl ?_)))))
  refine wl_set 106 (v' := .int .i64 0) rfl rfl ?_
  refine wl_guard_on rfl rfl rfl ?_
  refine wl_ov (ov_gtr rfl rfl) rfl ?_
  refine wl_set 107 (v' := .bool false) rfl (congrArg Value.bool (by decide)) ?_
  refine wl_guard_on rfl rfl rfl (pt_ rfl rfl (pf_ rfl rfl (nn_ (cf_ rfl (gw_skip (nx_then (sr_ (mv_ rfl (wl_ov (ov_neq rfl rfl) rfl ?_)))))))))
  refine wl_set 111 (v' := .bool true) rfl (congrArg Value.bool (by rw [decide_eq_false h2]; rfl)) ?_
  refine mv_ rfl (goff rfl rfl rfl (goff rfl rfl rfl (goff rfl rfl rfl (goff rfl rfl rfl (goff rfl rfl rfl (goff rfl rfl rfl (goff rfl rfl rfl (goff rfl rfl rfl (pt_ rfl rfl (mv_ rfl (wl_guard_on rfl rfl rfl (mv_ rfl (wl_guard_on rfl rfl rfl ?_)))))))))))))
  refine wl_ov (ov_neq rfl rfl) rfl ?_
  refine wl_set 124 (v' := .bool true) rfl (congrArg Value.bool (by rw [decide_eq_false h3]; rfl)) ?_
  refine wl_guard_on rfl rfl rfl (mv_ rfl (goff rfl rfl rfl (goff rfl rfl rfl (goff rfl rfl rfl (goff rfl rfl rfl (goff rfl rfl rfl (goff rfl rfl rfl (goff rfl rfl rfl (wl_guard_on rfl rfl rfl (pt_ rfl rfl (pt_ rfl rfl (mv_ rfl (wl_guard_on rfl rfl rfl ?_)))))))))))))
  refine wl_callv rfl cb26 rfl rfl (fun wx hm => (lots_any wx)) ?_
  refine pt_ rfl rfl (sg_ rfl (nn_ ?_))
  refine gw_ret ?_
  refine nx_ret1 rfl rfl fun wx hm => ?_
  exact ⟨rfl, law_end hg1 hsb (grow_trans hm_w2.g (grow_weak hm.g))⟩
 have h2 : E1 ≠ 0 := by rw [hone0, fe_hd h1]; exact h1
 have h3 : E2 ≠ 0 := by rw [htwo0, fe_hd h1]; exact h1
 refine wl_callv (v := .tuple #[.slice none 0 0, .int .i64 E1]) rfl cb46 rfl rfl (fun wx hm => (by have h := lotReady_any sl cl vl pl sA cA vA pA sn sc 4 cc vn vc pn pc el eA en ec s4 ck mt wx (hm.fact 3 rfl).1 (hm.fact 4 rfl).1 (hm.fact 5 rfl).1 (hm.fact 6 rfl).1 hsok hcok hvok hpok (by omega) (by omega) (by omega) (by omega) (hm.fact 7 rfl).1 heok (by omega) (by omega); rw [← hE1] at h; refine h.mono ?_; rintro e w3 ⟨A, n, c, rfl, _, h4, hg⟩; obtain ⟨rfl, rfl, rfl⟩ := h4 h2; exact ⟨rfl, hg⟩)) ?_
 refine mv_ rfl (wl_ov (ov_extract rfl rfl) rfl (wl_ov (ov_extract rfl rfl) rfl (sg_ rfl (sg_ rfl (nn_ (sr_ ?_))))))
 refine wl_ov (ov_loads (vs := [.slice sA sn sc, .slice cA 4 cc, .slice vA vn vc, .slice pA pn pc]) rz31 rfl (fun _ hm => (hm.fact 2 rfl).2) rfl rfl) rfl ?_
 refine mv_ rfl (mv_ rfl (mv_ rfl ?_))
 refine wl_callv (v := .tuple #[.slice none 0 0, .int .i64 E2]) rfl cb47 rfl rfl (fun wx hm => (by have h := idle_any sl cl vl pl sA cA vA pA sn sc 4 cc vn vc pn pc el eA en ec v8 mt wx (hm.fact 3 rfl).1 (hm.fact 4 rfl).1 (hm.fact 5 rfl).1 (hm.fact 6 rfl).1 hsok hcok hvok hpok (by omega) (by omega) (by omega) (by omega) (hm.fact 7 rfl).1 heok (by omega); rw [← hE2] at h; refine h.mono ?_; rintro e w3 ⟨A, n, c, rfl, _, h4, hg⟩; obtain ⟨rfl, rfl, rfl⟩ := h4 h3; exact ⟨rfl, hg⟩)) ?_
 refine mv_ rfl (wl_ov (ov_extract rfl rfl) rfl (wl_ov (ov_extract rfl rfl) rfl (sg_ rfl (sg_ rfl (nn_ ?_)))))
 refine gw_cut (γ := Unit) (I := (fun (uu : Unit) => True)) (S' := (fun (uu : Unit) => [(2, .bool false), (4, .pointer (some ⟨g2, 0, none⟩)), (5, .slice eA en ec), (6, .int .i64 FE), (7, .string s4), (8, .string ck), (9, .int .i64 mt), (10, .int .i64 v8), (11, .slice none 0 0), (12, .int .i64 E1), (13, .slice none 0 0), (14, .int .i64 E2), (15, .int .i64 E1)])) (K' := (fun (uu : Unit) => fun _ => True)) (L' := (fun (uu : Unit) => [])) (O' := (fun (uu : Unit) => [])) (X' := (fun (uu : Unit) => [BlkOld w2.heap.size none g7 3 [.int .i64 0, .int .i64 10, .int .i64 100, .int .i64 500, .int .i64 5761440, .int .i64 (-1), .int .i64 5761441], BlkOld w2.heap.size none g3 9 [.string ⟨#[115, 49]⟩, .string ⟨#[115, 50]⟩, .string ⟨#[115, 51]⟩, .string ⟨#[110, 111, 110, 101]⟩], BlkOld w2.heap.size none g2 31 [.slice sA sn sc, .slice cA 4 cc, .slice vA vn vc, .slice pA pn pc], SlOld stEnc 15 140 w2.heap.size none sA sn sl, SlOld csEnc 2 159 w2.heap.size none cA 4 cl, SlOld vhEnc 2 77 w2.heap.size none vA vn vl, SlOld plEnc 3 143 w2.heap.size none pA pn pl, SlOld evEnc 5 92 w2.heap.size none eA en el])) ?_ ?_
 ·refine gw_region (mv_ rfl ?_)
  refine wl_ov (ov_loads (vs := [.slice sA sn sc, .slice cA 4 cc, .slice vA vn vc, .slice pA pn pc]) rz31 rfl (fun _ hm => (hm.fact 2 rfl).2) rfl rfl) rfl ?_
  refine mv_ rfl ?_
  refine wl_callv rfl cb48 rfl rfl (fun wx hm => (rStationAt_any sl sA cA vA pA sn sc 4 cc vn vc pn pc s4 wx (hm.fact 3 rfl).1 hsok (by omega))) ?_
  refine wl_ov (ov_lss rfl rfl) rfl (mv_ rfl ?_)
  rcases Bool.eq_false_or_eq_true (decide (ixP (stP s4) sl 0 < 0)) with hgd1 | hgd1
  ·refine wl_set 60 rfl (congrArg Value.bool hgd1) ?_
   have hone := hone0
   rw [hgd1, Bool.true_or] at hone
   refine goff rfl rfl rfl (goff rfl rfl rfl (goff rfl rfl rfl (goff rfl rfl rfl (goff rfl rfl rfl (pt_ rfl rfl ?_)))))
   refine wl_callw rfl cb19 rfl rfl (fun wx hm => (rwhen_any _ _ wx)) ?_
   refine mv_ rfl ?_
   refine wl_callv rfl cb21 rfl rfl (fun wx hm => (momentFault_any _ wx)) ?_
   refine wl_buildSlice (e := 35) (cs := [.int .i64 FE, .int .i64 (whenE true 8), .int .i64 (momentE mt)]) rfl (by kernel_rfl) rfl fun g9 => ?_
   refine wl_callw (v := .int .i64 E1) rfl cb18 rfl rfl (fun wx hm => (by have h := errs_any [FE, whenE true 8, momentE mt] g9 3 _ wx (hm.blkI 0 rfl) (by simp); rw [← hone] at h; exact h)) ?_
   refine sg_ rfl (wl_nil ?_)
   exact nx_meet () trivial ⟨rfl, rfl, rfl, rfl, rfl, rfl, rfl, rfl, rfl, rfl, rfl, rfl, rfl, trivial⟩ (fun _ hm => hm.pick [] [] [0, 1, 2, 3, 4, 5, 6, 7] rfl rfl)
  refine wl_set 60 rfl (congrArg Value.bool hgd1) ?_
  have hone := hone0
  rw [hgd1, Bool.false_or] at hone
  refine wl_guard_on rfl rfl rfl (fd_ fo31_1 rfl rfl (wl_guard_on rfl rfl rfl ?_))
  refine wl_ov (ov_load (v := .slice cA 4 cc) sc27 rfl (fun _ hm => (hm.fact 2 rfl).2) rfl) rfl ?_
  refine wl_guard_on rfl rfl rfl (mv_ rfl (wl_guard_on rfl rfl rfl ?_))
  refine wl_callv rfl cb49 rfl rfl (fun wx hm => (rClassAt_any cl cA 4 cc ck wx (hm.fact 4 rfl).1 (by omega))) ?_
  refine wl_guard_on rfl rfl rfl (wl_ov (ov_lss rfl rfl) rfl (pf_ rfl rfl ?_))
  refine wl_callw rfl cb19 rfl rfl (fun wx hm => (rwhen_any _ _ wx)) ?_
  refine mv_ rfl ?_
  refine wl_callv rfl cb21 rfl rfl (fun wx hm => (momentFault_any _ wx)) ?_
  refine wl_buildSlice (e := 35) (cs := [.int .i64 FE, .int .i64 (whenE (decide (ixP (csP ck) cl 0 < 0)) 8), .int .i64 (momentE mt)]) rfl (by kernel_rfl) rfl fun g10 => ?_
  refine wl_callw (v := .int .i64 E1) rfl cb18 rfl rfl (fun wx hm => (by have h := errs_any [FE, whenE (decide (ixP (csP ck) cl 0 < 0)) 8, momentE mt] g10 3 _ wx (hm.blkI 0 rfl) (by simp); rw [← hone] at h; exact h)) ?_
  refine sg_ rfl (wl_nil ?_)
  exact nx_meet () trivial ⟨rfl, rfl, rfl, rfl, rfl, rfl, rfl, rfl, rfl, rfl, rfl, rfl, rfl, trivial⟩ (fun _ hm => hm.pick [] [] [0, 1, 2, 3, 4, 5, 6, 7] rfl rfl)
 intro uu hinv
 replace hinv : True := hinv
 refine gw_cut (γ := Unit) (I := (fun (uu : Unit) => True)) (S' := (fun (uu : Unit) => [(2, .bool false), (4, .pointer (some ⟨g2, 0, none⟩)), (5, .slice eA en ec), (7, .string s4), (8, .string ck), (9, .int .i64 mt), (10, .int .i64 v8), (11, .slice none 0 0), (12, .int .i64 E1), (13, .slice none 0 0), (14, .int .i64 E2), (15, .int .i64 E1), (16, .int .i64 E2)])) (K' := (fun (uu : Unit) => fun _ => True)) (L' := (fun (uu : Unit) => [])) (O' := (fun (uu : Unit) => [])) (X' := (fun (uu : Unit) => [BlkOld w2.heap.size none g7 3 [.int .i64 0, .int .i64 10, .int .i64 100, .int .i64 500, .int .i64 5761440, .int .i64 (-1), .int .i64 5761441], BlkOld w2.heap.size none g3 9 [.string ⟨#[115, 49]⟩, .string ⟨#[115, 50]⟩, .string ⟨#[115, 51]⟩, .string ⟨#[110, 111, 110, 101]⟩], BlkOld w2.heap.size none g2 31 [.slice sA sn sc, .slice cA 4 cc, .slice vA vn vc, .slice pA pn pc], SlOld stEnc 15 140 w2.heap.size none sA sn sl, SlOld csEnc 2 159 w2.heap.size none cA 4 cl, SlOld vhEnc 2 77 w2.heap.size none vA vn vl, SlOld plEnc 3 143 w2.heap.size none pA pn pl, SlOld evEnc 5 92 w2.heap.size none eA en el])) ?_ ?_
 ·refine gw_region (mv_ rfl (mv_ rfl (wl_ov (ov_lss rfl rfl) rfl (mv_ rfl ?_))))
  rcases Bool.eq_false_or_eq_true (decide (v8 < 0)) with hgd2 | hgd2
  ·refine wl_set 75 rfl (congrArg Value.bool hgd2) ?_
   have htwo := htwo0
   rw [hgd2, Bool.true_or] at htwo
   refine goff rfl rfl rfl (goff rfl rfl rfl (pt_ rfl rfl ?_))
   refine wl_callw rfl cb19 rfl rfl (fun wx hm => (rwhen_any _ _ wx)) ?_
   refine mv_ rfl ?_
   refine wl_callv rfl cb21 rfl rfl (fun wx hm => (momentFault_any _ wx)) ?_
   refine wl_buildSlice (e := 35) (cs := [.int .i64 FE, .int .i64 (whenE true 1), .int .i64 (momentE mt)]) rfl (by kernel_rfl) rfl fun g11 => ?_
   refine wl_callw (v := .int .i64 E2) rfl cb18 rfl rfl (fun wx hm => (by have h := errs_any [FE, whenE true 1, momentE mt] g11 3 _ wx (hm.blkI 0 rfl) (by simp); rw [← htwo] at h; exact h)) ?_
   refine sg_ rfl (wl_nil ?_)
   exact nx_meet () trivial ⟨rfl, rfl, rfl, rfl, rfl, rfl, rfl, rfl, rfl, rfl, rfl, rfl, rfl, trivial⟩ (fun _ hm => hm.pick [] [] [0, 1, 2, 3, 4, 5, 6, 7] rfl rfl)
  refine wl_set 75 rfl (congrArg Value.bool hgd2) ?_
  have htwo := htwo0
  rw [hgd2, Bool.false_or] at htwo
  refine wl_guard_on rfl rfl rfl (mv_ rfl (wl_guard_on rfl rfl rfl ?_))
  refine wl_ov (ov_gtr rfl rfl) rfl ?_
  refine pf_ rfl rfl ?_
  refine wl_callw rfl cb19 rfl rfl (fun wx hm => (rwhen_any _ _ wx)) ?_
  refine mv_ rfl ?_
  refine wl_callv rfl cb21 rfl rfl (fun wx hm => (momentFault_any _ wx)) ?_
  refine wl_buildSlice (e := 35) (cs := [.int .i64 FE, .int .i64 (whenE (decide (5761440 < v8)) 1), .int .i64 (momentE mt)]) rfl (by kernel_rfl) rfl fun g12 => ?_
  refine wl_callw (v := .int .i64 E2) rfl cb18 rfl rfl (fun wx hm => (by have h := errs_any [FE, whenE (decide (5761440 < v8)) 1, momentE mt] g12 3 _ wx (hm.blkI 0 rfl) (by simp); rw [← htwo] at h; exact h)) ?_
  refine sg_ rfl (wl_nil ?_)
  exact nx_meet () trivial ⟨rfl, rfl, rfl, rfl, rfl, rfl, rfl, rfl, rfl, rfl, rfl, rfl, rfl, trivial⟩ (fun _ hm => hm.pick [] [] [0, 1, 2, 3, 4, 5, 6, 7] rfl rfl)
 intro uu hinv
 replace hinv : True := hinv
 refine gw_seq (sr_ (mv_ rfl (mv_ rfl (wl_ov (ov_neq rfl rfl) rfl ?_))))
 refine wl_set 86 (v' := .bool false) rfl (congrArg Value.bool (by simp)) ?_
 refine mv_ rfl (wl_guard_on rfl rfl rfl (mv_ rfl (wl_guard_on rfl rfl rfl (mv_ rfl (wl_guard_on rfl rfl rfl (wl_ov (ov_neq rfl rfl) rfl ?_))))))
 refine wl_set 90 (v' := .bool false) rfl (congrArg Value.bool (by simp)) ?_
 refine pf_ rfl rfl (mv_ rfl (wl_guard_on rfl rfl rfl (mv_ rfl (wl_guard_on rfl rfl rfl (wl_ov (ov_neq rfl rfl) rfl ?_)))))
 refine wl_set 94 (v' := .bool true) rfl (congrArg Value.bool (by rw [decide_eq_false h2]; rfl)) ?_
 refine wl_guard_on rfl rfl rfl (mv_ rfl (wl_guard_on rfl rfl rfl (mv_ rfl (wl_guard_on rfl rfl rfl (wl_ov (ov_len es81 rfl) rfl ?_)))))
 refine wl_set 97 (v' := .int .i64 0) rfl rfl ?_
 refine wl_guard_on rfl rfl rfl ?_
 refine wl_ov (ov_gtr rfl rfl) rfl ?_
 refine wl_set 98 (v' := .bool false) rfl (congrArg Value.bool (by decide)) ?_
 refine wl_guard_on rfl rfl rfl (pt_ rfl rfl (pf_ rfl rfl (mv_ rfl (wl_guard_on rfl rfl rfl (mv_ rfl (wl_guard_on rfl rfl rfl (wl_ov (ov_neq rfl rfl) rfl ?_)))))))
 refine wl_set 103 (v' := .bool true) rfl (congrArg Value.bool (by rw [decide_eq_false h3]; rfl)) ?_
 refine wl_guard_on rfl rfl rfl (mv_ rfl (wl_guard_on rfl rfl rfl (mv_ rfl (wl_guard_on rfl rfl rfl (wl_ov (ov_len es81 rfl) rfl ?_)))))
 refine wl_set 106 (v' := .int .i64 0) rfl rfl ?_
 refine wl_guard_on rfl rfl rfl ?_
 refine wl_ov (ov_gtr rfl rfl) rfl ?_
 refine wl_set 107 (v' := .bool false) rfl (congrArg Value.bool (by decide)) ?_
 refine wl_guard_on rfl rfl rfl (pt_ rfl rfl (pf_ rfl rfl (nn_ (cf_ rfl (gw_skip (nx_then (sr_ (mv_ rfl (wl_ov (ov_neq rfl rfl) rfl ?_)))))))))
 refine wl_set 111 (v' := .bool true) rfl (congrArg Value.bool (by rw [decide_eq_false h2]; rfl)) ?_
 refine mv_ rfl (goff rfl rfl rfl (goff rfl rfl rfl (goff rfl rfl rfl (goff rfl rfl rfl (goff rfl rfl rfl (goff rfl rfl rfl (goff rfl rfl rfl (goff rfl rfl rfl (pt_ rfl rfl (mv_ rfl (wl_guard_on rfl rfl rfl (mv_ rfl (wl_guard_on rfl rfl rfl ?_)))))))))))))
 refine wl_ov (ov_neq rfl rfl) rfl ?_
 refine wl_set 124 (v' := .bool true) rfl (congrArg Value.bool (by rw [decide_eq_false h3]; rfl)) ?_
 refine wl_guard_on rfl rfl rfl (mv_ rfl (goff rfl rfl rfl (goff rfl rfl rfl (goff rfl rfl rfl (goff rfl rfl rfl (goff rfl rfl rfl (goff rfl rfl rfl (goff rfl rfl rfl (wl_guard_on rfl rfl rfl (pt_ rfl rfl (pt_ rfl rfl (mv_ rfl (wl_guard_on rfl rfl rfl ?_)))))))))))))
 refine wl_callv rfl cb26 rfl rfl (fun wx hm => (lots_any wx)) ?_
 refine pt_ rfl rfl (sg_ rfl (nn_ ?_))
 refine gw_ret ?_
 refine nx_ret1 rfl rfl fun wx hm => ?_
 exact ⟨rfl, law_end hg1 hsb (grow_trans hm_w2.g (grow_weak hm.g))⟩
end Go.Proofs.YtjecbkgjabnmoaaGreatDoor
