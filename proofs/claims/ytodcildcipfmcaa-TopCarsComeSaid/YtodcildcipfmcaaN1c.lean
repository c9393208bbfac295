/- Several texts as one: Ya Yb Pfl Pfw Pfa Pfk Pfm Pla Mk Plb Pfp Pls Plt -/
import Derived.Test.YtodcildcipfmcaaN1b
import Derived.Test.YtodcildcipfmcaaN1a
import Derived.Laws.StructEq
set_option maxRecDepth 100000
set_option maxHeartbeats 4000000
namespace Go.Proofs.Ytodcildcipfmcaa
open Go.RowKit
theorem far_any (x0 y0 : ByteArray) (gf gm : Nat) (F : ByteArray → Option Int) (w : World) (hk : Blk w gf 91 [.map (some gm)]) (hm0 : MapF (Value.int .i64) 0 gm F w) :
  Calls Try.prog 28 #[.string x0, .string y0, .pointer (some ⟨gf, 0, none⟩)] w (GotE w (cmpI ((F x0).getD 0) ((F y0).getD 0))) := by
 refine gw_enter ⟨13, w, none, []⟩ Try.func28 rfl Try.ntmps28 rfl (mem0 (X := [BlkOld w.heap.size none gf 91 [.map (some gm)], MapF (Value.int .i64) 0 gm F]) (allF_cons hk.old (allF_cons hm0 allF_nil)) (allL_cons BlkOld.lasts (allL_cons MapF.lasts2 allL_nil))) ?_
 refine sr_ (sg_ rfl (nn_ (sr_ ?_)))
 refine wl_ov (ov_load (v := .map (some gm)) sc91 rfl (fun _ hm => (hm.fact 0 rfl).2) rfl) rfl ?_
 refine mv_ rfl ?_
 refine wl_ov (ov_lookF (enc := (Value.int .i64)) (k := 9) (e := 3) 0 (by kernel_rfl) (by kernel_rfl) (by kernel_rfl) rfl rfl (fun _ hm => (hm.fact 1 rfl))) rfl ?_
 refine wl_ov (ov_load (v := .map (some gm)) sc91 rfl (fun _ hm => (hm.fact 0 rfl).2) rfl) rfl ?_
 refine mv_ rfl ?_
 refine wl_ov (ov_lookF (enc := (Value.int .i64)) (k := 9) (e := 3) 0 (by kernel_rfl) (by kernel_rfl) (by kernel_rfl) rfl rfl (fun _ hm => (hm.fact 1 rfl))) rfl ?_
 refine wl_callv rfl cb29 rfl rfl (fun wx hm => (cmp_int _ _ wx)) ?_
 refine sg_ rfl (nn_ ?_)
 refine gw_ret ?_
 refine nx_ret1 rfl rfl fun wx hm => ?_
 exact ⟨rfl, hm.g⟩
theorem ins_far (gf gm : Nat) (F : ByteArray → Option Int) (l0 : List ByteArray) (br n cap base : Nat) (w : World) (h : w.ownsRow base 9 1 (.slice (some ⟨br, 0, none⟩) n cap) n (l0.flatMap sgEnc)) (hl0 : l0.length = n) (hn : n ≤ 1000000) (hk : BlkOld w.heap.size (some br) gf 91 [.map (some gm)] w) (hm0 : MapF (Value.int .i64) 0 gm F w) :
  Calls Try.prog 63 #[.slice (some ⟨br, 0, none⟩) n cap, .int .i64 0, .int .i64 ((n : Nat) : Int), .func (.func 28) #[] #[.pointer (some ⟨gf, 0, none⟩)]] w (fun e w' => e = .returned (.tuple #[]) ∧ w'.ownsRow base 9 1 (.slice (some ⟨br, 0, none⟩) n cap) n ((isort (farLt F) l0).flatMap sgEnc) ∧ w.grownBy w' (some br)) := by
 obtain ⟨R, hR⟩ : ∃ z, z = isort (farLt F) l0 := ⟨_, rfl⟩
 rw [← hR]
 refine gw_enter ⟨53, w, (some br), []⟩ Try.func63 rfl Try.ntmps63 rfl (memR (X := [BlkOld w.heap.size (some br) gf 91 [.map (some gm)], MapF (Value.int .i64) 0 gm F]) h (allF_cons hk (allF_cons hm0 allF_nil)) (allL_cons BlkOld.lasts (allL_cons MapF.lasts2 allL_nil))) ?_
 refine sr_ (mv_ rfl (ad_ rfl rfl ?_))
 refine wl_set 11 (v' := .int .i64 1) rfl rfl ?_
 refine sg_ rfl (nn_ (gw_block ?_))
 refine gw_loop (γ := Nat × List ByteArray) (fun gg => (1 ≤ gg.1 ∧ gg.1 ≤ n + 1) ∧ gg.2.length = n ∧ isortF (farLt F) (n - gg.1) gg.1 gg.2 = R) (fun gg => [(0, .slice (some ⟨br, 0, none⟩) n cap), (1, .int .i64 0), (2, .int .i64 ((n : Nat) : Int)), (3, .func (.func 28) #[] #[.pointer (some ⟨gf, 0, none⟩)]), (8, .int .i64 ((gg.1 : Nat) : Int))]) (fun gg => RowK base 9 1 n cap br ((gg.2).flatMap sgEnc)) (fun gg => []) (fun gg => []) (fun gg => [BlkOld w.heap.size (some br) gf 91 [.map (some gm)], MapF (Value.int .i64) 0 gm F]) (fun gg => n + 1 - gg.1) (1, l0) ⟨⟨Nat.le_refl _, by omega⟩, hl0, by rw [hR]; unfold isort; rw [hl0]⟩ ⟨rfl, rfl, rfl, rfl, (some_int (by omega)), trivial⟩ (fun _ hm => hm.pick [] [] [0, 1] rfl rfl) ?_
 rintro ⟨i, l⟩ hinv
 replace hinv : (1 ≤ i ∧ i ≤ n + 1) ∧ l.length = n ∧ isortF (farLt F) (n - i) i l = R := hinv
 dsimp only
 refine gw_seq (sr_ ?_)
 obtain ⟨⟨hi1, hi2⟩, hl1, hR1⟩ := hinv
 refine mv_ rfl (mv_ rfl (wl_ov (ov_lss rfl rfl) rfl (nn_ ?_)))
 refine gw_cond rfl (fun hh => ?_) (fun hh => ?_)
 ·have hi : ((i : Nat) : Int) < ((n : Nat) : Int) := by simpa using hh
  clear hh
  refine gw_skip (nx_then (gw_seq (gw_block (sr_ ?_))))
  have hRi : isortF (farLt F) (n - (i + 1)) (i + 1) (sink (farLt F) i l) = R := by rw [← hR1, show n - i = (n - (i + 1)) + 1 by omega]; rfl
  obtain ⟨S, hS⟩ : ∃ z, z = sink (farLt F) i l := ⟨_, rfl⟩
  rw [← hS] at hRi
  have hSl : S.length = n := by rw [hS, sink_len]; exact hl1
  refine mv_ rfl (sg_ rfl (nn_ (gw_block ?_)))
  refine gw_loop (γ := Nat × List ByteArray) (fun gg => (gg.1 ≤ i) ∧ gg.2.length = n ∧ sink (farLt F) gg.1 gg.2 = S) (fun gg => [(0, .slice (some ⟨br, 0, none⟩) n cap), (1, .int .i64 0), (2, .int .i64 ((n : Nat) : Int)), (3, .func (.func 28) #[] #[.pointer (some ⟨gf, 0, none⟩)]), (8, .int .i64 ((i : Nat) : Int)), (9, .int .i64 ((gg.1 : Nat) : Int))]) (fun gg => RowK base 9 1 n cap br ((gg.2).flatMap sgEnc)) (fun gg => []) (fun gg => []) (fun gg => [BlkOld w.heap.size (some br) gf 91 [.map (some gm)], MapF (Value.int .i64) 0 gm F]) (fun gg => gg.1) (i, l) ⟨Nat.le_refl _, hl1, hS.symm⟩ ⟨rfl, rfl, rfl, rfl, rfl, rfl, trivial⟩ (fun _ hm => hm.pick [] [] [0, 1] rfl rfl) ?_
  rintro ⟨jj, m⟩ hinv
  replace hinv : (jj ≤ i) ∧ m.length = n ∧ sink (farLt F) jj m = S := hinv
  dsimp only
  refine gw_seq (gw_seq ?_)
  obtain ⟨hj1, hm1, hS1⟩ := hinv
  rcases jj with _ | j
  ·refine gd (fun wz => (BlkOld w.heap.size (some br) gf 91 [.map (some gm)]) wz ∧ (MapF (Value.int .i64) 0 gm F) wz ∧ True) mixed (fun _ hm => ⟨hm.fa 0, hm.fa 1, trivial⟩) fun z => ?_
   refine wt 0 17 1 rfl z (ov_move rfl) ?_
   refine wa_set 18 (v' := .int .i64 0) rfl rfl ?_
   refine wt 1 17 3 rfl z (ov_move rfl) ?_
   refine wt 2 17 7 rfl z (ov_gtr rfl rfl) ?_
   refine wa_set 20 (v' := .bool false) rfl (congrArg Value.bool (by decide)) ?_
   refine wt 3 17 15 rfl z (ov_move rfl) ?_
   refine wtf 4 17 31 rfl rfl rfl z ?_
   refine wtf 5 17 63 rfl rfl rfl z ?_
   refine wtf 6 17 127 rfl rfl rfl z ?_
   refine wtf 7 17 255 rfl rfl rfl z ?_
   refine wtf 8 17 511 rfl rfl rfl z ?_
   refine wtf 9 17 1023 rfl rfl rfl z ?_
   refine wtf 10 17 2047 rfl rfl rfl z ?_
   refine wtf 11 17 4095 rfl rfl rfl z ?_
   refine wtf 12 17 8191 rfl rfl rfl z ?_
   refine wtf 13 17 16383 rfl rfl rfl z ?_
   refine wtf 14 17 32767 rfl rfl rfl z ?_
   refine wtf 15 17 65535 rfl rfl rfl z ?_
   refine wt 16 17 131071 rfl z (ov_pick_f rfl rfl) ?_
   refine wa_done (by kernel_rfl) ?_
   refine nx_then (cf_ rfl ?_)
   refine gw_exit ?_
   refine nx_then_exit (nx_then_exit ?_)
   refine nx_blk_here ?_
   refine nx_blk_nrm (nx_then (gw_region (mv_ rfl (ad_ rfl rfl (sg_ rfl (wl_nil ?_))))))
   have hm2 : m = S := hS1
   exact nx_round (i + 1, m) ⟨⟨by dsimp only; omega, by dsimp only; omega⟩, by rw [hm2]; exact hSl, by rw [hm2]; exact hRi⟩ (by dsimp only; omega) ⟨rfl, rfl, rfl, rfl, (some_int (by omega)), trivial⟩ (fun _ hm => hm.pick [] [] [0, 1] rfl rfl)
  have hj2 : j + 1 < n := by omega
  have hin : ∀ z ∈ m, z ∈ l0 := fun z hz => mem_in hR hRi hS1 hz
  obtain ⟨x0, hx⟩ : ∃ x, m[j + 1]? = some x := ⟨_, List.getElem?_eq_getElem (by omega)⟩
  obtain ⟨y0, hy⟩ : ∃ x, m[j]? = some x := ⟨_, List.getElem?_eq_getElem (by omega)⟩
  refine gd (fun wz => (BlkOld w.heap.size (some br) gf 91 [.map (some gm)]) wz ∧ (MapF (Value.int .i64) 0 gm F) wz ∧ (RowK base 9 1 n cap br ((m).flatMap sgEnc)) wz ∧ True) mixed (fun _ hm => ⟨hm.fa 0, hm.fa 1, hm.k, trivial⟩) fun z => ?_
  refine wt 0 17 1 rfl z (ov_move rfl) ?_
  refine wt 1 17 3 rfl z (ov_move rfl) ?_
  refine wt 2 17 7 rfl z (ov_gtr rfl rfl) ?_
  refine wa_set 20 (v' := .bool true) rfl (congrArg Value.bool (decide_eq_true (by omega))) ?_
  refine wt 3 17 15 rfl z (ov_move rfl) ?_
  refine wto 4 17 31 rfl rfl rfl z (ov_move rfl) ?_
  refine wto 5 17 63 rfl rfl rfl z (ov_move rfl) ?_
  refine wto 6 17 127 rfl rfl rfl z (ov_move rfl) ?_
  refine wto 7 17 255 rfl rfl rfl z (ov_index (j := (j + 1)) es36 rfl rfl (by omega)) ?_
  refine wto 8 17 511 rfl rfl rfl z (ov_elem1 (k := 0) (v := .string x0) sc9 rfl (fun _ hm => (RowK.get (hm.2.2.1) sg_len hm1)) hx rfl rfl) ?_
  refine wto 9 17 1023 rfl rfl rfl z (ov_move rfl) ?_
  refine wto 10 17 2047 rfl rfl rfl z (ov_move rfl) ?_
  refine wto 11 17 4095 rfl rfl rfl z (ov_sub rfl rfl (by omega) (by omega)) ?_
  refine wa_set 29 (v' := .int .i64 ((j : Nat) : Int)) rfl (congrArg (Value.int .i64) (by omega)) ?_
  refine wto 12 17 8191 rfl rfl rfl z (ov_index (j := j) es36 rfl rfl (by omega)) ?_
  refine wto 13 17 16383 rfl rfl rfl z (ov_elem1 (k := 0) (v := .string y0) sc9 rfl (fun _ hm => (RowK.get (hm.2.2.1) sg_len hm1)) hy rfl rfl) ?_
  refine wa1 14 rfl ?_
  refine wl_guard_on rfl rfl rfl ?_
  refine wl_callv rfl cb28 rfl rfl (fun wx hm => (far_any x0 y0 gf gm F wx (hm.fact 0 rfl).2 (hm.fact 1 rfl))) ?_
  refine wl_nil ?_
  refine nw 17 32767 (fun _ hm => ⟨hm.fa 0, hm.fa 1, hm.k, trivial⟩) fun z => ?_
  refine wto 15 17 65535 rfl rfl rfl z (ov_lss rfl rfl) ?_
  refine wt 16 17 131071 rfl z (ov_pick_t rfl rfl) ?_
  refine wa_done (by kernel_rfl) ?_
  refine nx_then ?_
  refine gw_cond rfl (fun hh => ?_) (fun hh => ?_)
  ·have hlt : cmpI ((F x0).getD 0) ((F y0).getD 0) < 0 := by simpa using hh
   clear hh
   refine gw_skip (nx_then (gw_seq (gw_block ?_)))
   have hlt2 : (farLt F) x0 y0 = true := decide_eq_true (show cmpI ((F x0).getD 0) ((F y0).getD 0) < 0 from hlt)
   have hS2 := (sink_yes hx hy hlt2).symm.trans hS1
   refine gd (fun wz => (BlkOld w.heap.size (some br) gf 91 [.map (some gm)]) wz ∧ (MapF (Value.int .i64) 0 gm F) wz ∧ True) mixed (fun _ hm => ⟨hm.fa 0, hm.fa 1, trivial⟩) fun z => ?_
   refine wt 0 18 1 rfl z (ov_move rfl) ?_
   refine wt 1 18 3 rfl z (ov_move rfl) ?_
   refine wt 2 18 7 rfl z (ov_move rfl) ?_
   refine wt 3 18 15 rfl z (ov_move rfl) ?_
   refine wt 4 18 31 rfl z (ov_sub rfl rfl (by omega) (by omega)) ?_
   refine wa_set 41 (v' := .int .i64 ((j : Nat) : Int)) rfl (congrArg (Value.int .i64) (by omega)) ?_
   refine wt 5 18 63 rfl z (ov_move rfl) ?_
   refine wt 6 18 127 rfl z (ov_move rfl) ?_
   refine wt 7 18 255 rfl z (ov_sub rfl rfl (by omega) (by omega)) ?_
   refine wa_set 44 (v' := .int .i64 ((j : Nat) : Int)) rfl (congrArg (Value.int .i64) (by omega)) ?_
   refine wt 8 18 511 rfl z (ov_index (j := j) es36 rfl rfl (by omega)) ?_
   refine wt 10 18 1535 rfl z (ov_move rfl) ?_
   refine wt 11 18 3583 rfl z (ov_move rfl) ?_
   refine wt 12 18 7679 rfl z (ov_index (j := (j + 1)) es36 rfl rfl (by omega)) ?_
   refine wa_all [9, 13] (by kernel_rfl) rfl ⟨⟨_, rfl, ?_⟩, ⟨_, rfl, ?_⟩, trivial⟩
   ·refine wl_ov (ov_elem1 (k := 0) (v := .string y0) sc9 rfl (fun _ hm => (RowK.get hm.k sg_len hm1)) hy rfl rfl) rfl ?_
    refine wl_nil ?_
    refine nw 18 8191 (fun _ hm => ⟨hm.fa 0, hm.fa 1, trivial⟩) fun z => ?_
    refine wa1 13 rfl ?_
    refine wl_ov (ov_elem1 (k := 0) (v := .string x0) sc9 rfl (fun _ hm => (RowK.get hm.k sg_len hm1)) hx rfl rfl) rfl ?_
    refine wl_nil ?_
    refine nw 18 16383 (fun _ hm => ⟨hm.fa 0, hm.fa 1, trivial⟩) fun z => ?_
    refine wt 14 18 32767 rfl z (ov_index (j := (j + 1)) es36 rfl rfl (by omega)) ?_
    refine wa1 15 rfl ?_
    refine wl_storeRow (l := m) (j := j + 1) (r := 0) (el := x0) (el' := y0) rfl sc9 rfl rfl rfl sg_len rfl hx hm1 (by decide) rfl rfl ?_
    refine wl_nil ?_
    refine nw 18 65535 (fun _ hm => ⟨hm.fa 0, hm.fa 1, trivial⟩) fun z => ?_
    refine wt 16 18 131071 rfl z (ov_index (j := j) es36 rfl rfl (by omega)) ?_
    refine wa1 17 rfl ?_
    refine wl_storeRow (l := m.set (j + 1) y0) (j := j) (r := 0) (el := y0) (el' := x0) rfl sc9 rfl rfl rfl sg_len rfl (by rw [List.getElem?_set_ne (by omega)]; exact hy) (by rw [List.length_set]; exact hm1) (by decide) rfl rfl ?_
    refine wl_nil ?_
    refine nw 18 262143 (fun _ hm => ⟨hm.fa 0, hm.fa 1, trivial⟩) fun z => ?_
    refine wa_done (by kernel_rfl) ?_
    refine nx_blk_nrm (nx_then (gw_region (mv_ rfl ?_)))
    refine wl_ov (ov_sub rfl rfl (by omega) (by omega)) rfl ?_
    refine wl_set 36 (v' := .int .i64 ((j : Nat) : Int)) rfl (congrArg (Value.int .i64) (by omega)) ?_
    refine sg_ rfl (wl_nil ?_)
    exact nx_round (j, (m.set (j + 1) y0).set j x0) ⟨by dsimp only; omega, by simp [hm1], hS2⟩ (by dsimp only; omega) ⟨rfl, rfl, rfl, rfl, rfl, (some_int (by omega)), trivial⟩ (fun _ hm => hm.pick [] [] [0, 1] rfl rfl)
   refine wl_ov (ov_elem1 (k := 0) (v := .string x0) sc9 rfl (fun _ hm => (RowK.get hm.k sg_len hm1)) hx rfl rfl) rfl ?_
   refine wl_nil ?_
   refine nw 18 15871 (fun _ hm => ⟨hm.fa 0, hm.fa 1, trivial⟩) fun z => ?_
   refine wa1 9 rfl ?_
   refine wl_ov (ov_elem1 (k := 0) (v := .string y0) sc9 rfl (fun _ hm => (RowK.get hm.k sg_len hm1)) hy rfl rfl) rfl ?_
   refine wl_nil ?_
   refine nw 18 16383 (fun _ hm => ⟨hm.fa 0, hm.fa 1, trivial⟩) fun z => ?_
   refine wt 14 18 32767 rfl z (ov_index (j := (j + 1)) es36 rfl rfl (by omega)) ?_
   refine wa1 15 rfl ?_
   refine wl_storeRow (l := m) (j := j + 1) (r := 0) (el := x0) (el' := y0) rfl sc9 rfl rfl rfl sg_len rfl hx hm1 (by decide) rfl rfl ?_
   refine wl_nil ?_
   refine nw 18 65535 (fun _ hm => ⟨hm.fa 0, hm.fa 1, trivial⟩) fun z => ?_
   refine wt 16 18 131071 rfl z (ov_index (j := j) es36 rfl rfl (by omega)) ?_
   refine wa1 17 rfl ?_
   refine wl_storeRow (l := m.set (j + 1) y0) (j := j) (r := 0) (el := y0) (el' := x0) rfl sc9 rfl rfl rfl sg_len rfl (by rw [List.getElem?_set_ne (by omega)]; exact hy) (by rw [List.length_set]; exact hm1) (by decide) rfl rfl ?_
   refine wl_nil ?_
   refine nw 18 262143 (fun _ hm => ⟨hm.fa 0, hm.fa 1, trivial⟩) fun z => ?_
   refine wa_done (by kernel_rfl) ?_
   refine nx_blk_nrm (nx_then (gw_region (mv_ rfl ?_)))
   refine wl_ov (ov_sub rfl rfl (by omega) (by omega)) rfl ?_
   refine wl_set 36 (v' := .int .i64 ((j : Nat) : Int)) rfl (congrArg (Value.int .i64) (by omega)) ?_
   refine sg_ rfl (wl_nil ?_)
   exact nx_round (j, (m.set (j + 1) y0).set j x0) ⟨by dsimp only; omega, by simp [hm1], hS2⟩ (by dsimp only; omega) ⟨rfl, rfl, rfl, rfl, rfl, (some_int (by omega)), trivial⟩ (fun _ hm => hm.pick [] [] [0, 1] rfl rfl)
  have hlt : ¬ (cmpI ((F x0).getD 0) ((F y0).getD 0) < 0) := by simpa using hh
  clear hh
  refine gw_exit ?_
  refine nx_then_exit (nx_then_exit ?_)
  refine nx_blk_here ?_
  refine nx_blk_nrm (nx_then (gw_region ?_))
  have hlt2 : (farLt F) x0 y0 = false := decide_eq_false (show ¬ cmpI ((F x0).getD 0) ((F y0).getD 0) < 0 from hlt)
  have hS2 := (sink_no hx hy hlt2).symm.trans hS1
  refine mv_ rfl (ad_ rfl rfl (sg_ rfl (wl_nil ?_)))
  have hm2 : m = S := hS2
  exact nx_round (i + 1, m) ⟨⟨by dsimp only; omega, by dsimp only; omega⟩, by rw [hm2]; exact hSl, by rw [hm2]; exact hRi⟩ (by dsimp only; omega) ⟨rfl, rfl, rfl, rfl, (some_int (by omega)), trivial⟩ (fun _ hm => hm.pick [] [] [0, 1] rfl rfl)
 have hi : ¬ (((i : Nat) : Int) < ((n : Nat) : Int)) := by simpa using hh
 clear hh
 refine gw_exit ?_
 refine nx_then_exit (nx_then_exit ?_)
 refine nx_blk_here ?_
 obtain rfl : l = R := by rw [← hR1, show n - i = 0 by omega]; rfl
 refine nx_ret0 rfl fun wx hm => ?_
 exact ⟨rfl, fin_row hm.k hm.g⟩
theorem BlkOld.again {N g br : Nat} {T : TypeId} {cs : List Value} {w : World} (h : BlkOld N (some br) g T cs w) : BlkOld w.heap.size (some br) g T cs w := ⟨⟨h.2.lt, h.1.2⟩, h.2⟩
theorem stb_far (gf gm : Nat) (F : ByteArray → Option Int) (l0 : List ByteArray) (br n cap base : Nat) (w : World) (h : w.ownsRow base 9 1 (.slice (some ⟨br, 0, none⟩) n cap) n (l0.flatMap sgEnc)) (hl0 : l0.length = n) (hn : n ≤ 19) (hk : BlkOld w.heap.size (some br) gf 91 [.map (some gm)] w) (hm0 : MapF (Value.int .i64) 0 gm F w) :
  Calls Try.prog 52 #[.slice (some ⟨br, 0, none⟩) n cap, .int .i64 ((n : Nat) : Int), .func (.func 28) #[] #[.pointer (some ⟨gf, 0, none⟩)]] w (fun e w' => e = .returned (.tuple #[]) ∧ w'.ownsRow base 9 1 (.slice (some ⟨br, 0, none⟩) n cap) n ((isort (farLt F) l0).flatMap sgEnc) ∧ w.grownBy w' (some br)) := by
 refine gw_enter ⟨63, w, (some br), []⟩ Try.func52 rfl Try.ntmps52 rfl (memR (X := [BlkOld w.heap.size (some br) gf 91 [.map (some gm)], MapF (Value.int .i64) 0 gm F]) h (allF_cons hk (allF_cons hm0 allF_nil)) (allL_cons BlkOld.lasts (allL_cons MapF.lasts2 allL_nil))) ?_
 refine sr_ (sg_ rfl (nn_ (sr_ (mv_ rfl (sg_ rfl (sg_ rfl (nn_ (gw_seq (gw_block ?_)))))))))
 refine gw_rounds 1 ?_
 refine gr_next ?_
 refine gw_seq (sr_ (mv_ rfl (mv_ rfl (wl_ov (ov_leq rfl rfl) rfl ?_))))
 refine wl_set 13 (v' := .bool false) rfl (congrArg Value.bool (decide_eq_false (by omega))) ?_
 refine nn_ (cf_ rfl ?_)
 refine gw_exit ?_
 refine nx_then_exit (nx_then_exit ?_)
 refine nx_blk_here ?_
 refine nx_then (sr_ (mv_ rfl (mv_ rfl (mv_ rfl (mv_ rfl ?_)))))
 refine wl_callK rfl rfl rfl cb63 rfl rfl (fun wx hm => (ins_far gf gm F l0 br n cap base wx hm.k hl0 (by omega) (hm.fact 0 rfl).again (hm.fact 1 rfl))) ?_
 refine nn_ (gw_block ?_)
 refine gw_rounds 1 ?_
 refine gr_next ?_
 refine gw_seq (sr_ (mv_ rfl (mv_ rfl (wl_ov (ov_lss rfl rfl) rfl ?_))))
 refine wl_set 30 (v' := .bool false) rfl (congrArg Value.bool (decide_eq_false (by omega))) ?_
 refine nn_ (cf_ rfl ?_)
 refine gw_exit ?_
 refine nx_then_exit (nx_then_exit ?_)
 refine nx_blk_here ?_
 refine nx_ret0 rfl fun wx hm => ?_
 exact ⟨rfl, fin_row hm.k hm.g⟩
set_option maxRecDepth 100000 in
set_option maxHeartbeats 400000 in
theorem stable_far (gf gm : Nat) (F : ByteArray → Option Int) (l0 : List ByteArray) (br n cap base : Nat) (w : World) (h : w.ownsRow base 9 1 (.slice (some ⟨br, 0, none⟩) n cap) n (l0.flatMap sgEnc)) (hl0 : l0.length = n) (hn : n ≤ 19) (hk : BlkOld w.heap.size (some br) gf 91 [.map (some gm)] w) (hm0 : MapF (Value.int .i64) 0 gm F w) :
    Calls Try.prog 27 #[.slice (some ⟨br, 0, none⟩) n cap, .func (.func 28) #[] #[.pointer (some ⟨gf, 0, none⟩)]] w (fun e w' => e = .returned (.tuple #[]) ∧ w'.ownsRow base 9 1 (.slice (some ⟨br, 0, none⟩) n cap) n ((isort (farLt F) l0).flatMap sgEnc) ∧ w.grownBy w' (some br)) := by
  refine gw_enter ⟨9, w, (some br), []⟩ Try.func27 rfl Try.ntmps27 rfl (memR (X := [BlkOld w.heap.size (some br) gf 91 [.map (some gm)], MapF (Value.int .i64) 0 gm F]) h (allF_cons hk (allF_cons hm0 allF_nil)) (allL_cons BlkOld.lasts (allL_cons MapF.lasts2 allL_nil))) ?_
  refine gw_region ?_
  refine wl_ov (ov_move rfl) rfl ?_
  refine wl_ov (ov_move rfl) rfl ?_
  refine wl_ov (ov_len es36 rfl) rfl ?_
  refine wl_ov (ov_move rfl) rfl ?_
  refine wl_callK rfl rfl rfl cb52 rfl rfl (fun wx hm => (stb_far gf gm F l0 br n cap base wx hm.k hl0 (by omega) (hm.fact 0 rfl).again (hm.fact 1 rfl))) ?_
  refine wl_nil ?_
  refine nx_ret0 rfl fun wx hm => ?_
  exact ⟨rfl, fin_row hm.k hm.g⟩
theorem ins0_far (A : Option Addr) (cap gf : Nat) (w : World) : Calls Try.prog 63 #[.slice A 0 cap, .int .i64 0, .int .i64 0, .func (.func 28) #[] #[.pointer (some ⟨gf, 0, none⟩)]] w (fun e w' => e = .returned (.tuple #[]) ∧ w.grownBy w' none) := by
 refine gw_enter ⟨53, w, none, []⟩ Try.func63 rfl Try.ntmps63 rfl (mem0 (X := []) allF_nil allL_nil) ?_
 refine sr_ (mv_ rfl (ad_ rfl rfl ?_))
 refine wl_set 11 (v' := .int .i64 1) rfl rfl ?_
 refine sg_ rfl (nn_ (gw_block ?_))
 refine gw_rounds 1 ?_
 refine gr_next ?_
 refine gw_seq (sr_ (mv_ rfl (mv_ rfl (wl_ov (ov_lss rfl rfl) rfl ?_))))
 refine wl_set 14 (v' := .bool false) rfl (congrArg Value.bool (by decide)) ?_
 refine nn_ (cf_ rfl ?_)
 refine gw_exit ?_
 refine nx_then_exit (nx_then_exit ?_)
 refine nx_blk_here ?_
 refine nx_ret0 rfl fun wx hm => ?_
 exact ⟨rfl, hm.g⟩
theorem stb0_far (A : Option Addr) (cap gf : Nat) (w : World) : Calls Try.prog 52 #[.slice A 0 cap, .int .i64 0, .func (.func 28) #[] #[.pointer (some ⟨gf, 0, none⟩)]] w (fun e w' => e = .returned (.tuple #[]) ∧ w.grownBy w' none) := by
 refine gw_enter ⟨63, w, none, []⟩ Try.func52 rfl Try.ntmps52 rfl (mem0 (X := []) allF_nil allL_nil) ?_
 refine sr_ (sg_ rfl (nn_ (sr_ (mv_ rfl (sg_ rfl (sg_ rfl (nn_ (gw_seq (gw_block ?_)))))))))
 refine gw_rounds 1 ?_
 refine gr_next ?_
 refine gw_seq (sr_ (mv_ rfl (mv_ rfl (wl_ov (ov_leq rfl rfl) rfl ?_))))
 refine wl_set 13 (v' := .bool false) rfl (congrArg Value.bool (by decide)) ?_
 refine nn_ (cf_ rfl ?_)
 refine gw_exit ?_
 refine nx_then_exit (nx_then_exit ?_)
 refine nx_blk_here ?_
 refine nx_then (sr_ (mv_ rfl (mv_ rfl (mv_ rfl (mv_ rfl ?_)))))
 refine wl_callv rfl cb63 rfl rfl (fun wx hm => (ins0_far A cap gf wx)) ?_
 refine nn_ (gw_block ?_)
 refine gw_rounds 1 ?_
 refine gr_next ?_
 refine gw_seq (sr_ (mv_ rfl (mv_ rfl (wl_ov (ov_lss rfl rfl) rfl ?_))))
 refine wl_set 30 (v' := .bool false) rfl (congrArg Value.bool (by decide)) ?_
 refine nn_ (cf_ rfl ?_)
 refine gw_exit ?_
 refine nx_then_exit (nx_then_exit ?_)
 refine nx_blk_here ?_
 refine nx_ret0 rfl fun wx hm => ?_
 exact ⟨rfl, hm.g⟩
set_option maxRecDepth 100000 in
set_option maxHeartbeats 400000 in
theorem stable0_far (A : Option Addr) (cap gf : Nat) (w : World) : Calls Try.prog 27 #[.slice A 0 cap, .func (.func 28) #[] #[.pointer (some ⟨gf, 0, none⟩)]] w (fun e w' => e = .returned (.tuple #[]) ∧ w.grownBy w' none) := by
  refine gw_enter ⟨9, w, none, []⟩ Try.func27 rfl Try.ntmps27 rfl (mem0 (X := []) allF_nil allL_nil) ?_
  refine gw_region ?_
  refine wl_ov (ov_move rfl) rfl ?_
  refine wl_ov (ov_move rfl) rfl ?_
  refine wl_ov (ov_len es36 rfl) rfl ?_
  refine wl_set 6 (v' := .int .i64 0) rfl rfl ?_
  refine wl_ov (ov_move rfl) rfl ?_
  refine wl_callv rfl cb52 rfl rfl (fun wx hm => (stb0_far A cap gf wx)) ?_
  refine wl_nil ?_
  refine nx_ret0 rfl fun wx hm => ?_
  exact ⟨rfl, hm.g⟩
theorem moment_nn {mt : Int} (h : momentE mt = 0) : 0 ≤ mt ∧ mt ≤ 5761439 := by
  unfold momentE at h
  cases hi : inB mt 0 5761439 with
  | true => exact inB_iff.1 hi
  | false => rw [hi] at h; cases h
end Go.Proofs.Ytodcildcipfmcaa
namespace Go.Proofs.Ytodcildcipfmcaa
open Go.RowKit
theorem zc91 : zeroCs Try.prog 91 = some [.map none] := by kernel_rfl
def rdE (sl : List St) (cl : List Cs) (vl : List Vh) (pl : List Pl) (el : List Ev) (sk ck : ByteArray) (mt : Int) : Int := firstE [evsE sl cl vl pl el, whenE (!sl.any (stP sk) || decide (ixP (csP ck) cl 0 < 0)) 8, momentE mt]
theorem class_fine {sl : List St} {cl : List Cs} {vl : List Vh} {pl : List Pl} (h : fleetE sl cl vl pl = 0) : Closed cl ∧ loopB cl cl.length = false := (classesE_ok (fe_all h (classesE cl) (by simp))).2
theorem lotReady_anyC (sl : List St) (cl : List Cs) (vl : List Vh) (pl : List Pl) (sA cA vA pA : Option Addr) (sn sc cn cc vn vc pn pc : Nat) (el : List Ev) (eA : Option Addr) (en ec : Nat) (sk ck : ByteArray) (mt : Int) (w : World) (hs : SlT stEnc 15 41 w sA sn sl) (hc : SlT csEnc 2 27 w cA cn cl) (hv : SlT vhEnc 2 46 w vA vn vl) (hp : SlT plEnc 3 139 w pA pn pl) (hsok : ∀ x ∈ sl, StOk x) (hcok : ∀ x ∈ cl, CsOk x) (hvok : ∀ x ∈ vl, VhOk x) (hpok : ∀ x ∈ pl, PlOk x) (hsn : sn ≤ 1000000) (hcn : cn ≤ 1000000) (hvn : vn ≤ 1000000) (hpn : pn ≤ 1000000) (hl : SlT evEnc 5 48 w eA en el) (heok : ∀ x ∈ el, EvOk x) (hen : en ≤ 1000000) (hvn2 : vn ≤ 19) :
  Calls Try.prog 8 #[.agg #[.slice sA sn sc, .slice cA cn cc, .slice vA vn vc, .slice pA pn pc], .slice eA en ec, .string sk, .string ck, .int .i64 mt] w (fun e w' => ∃ (A : Option Addr) (k c : Nat), e = .returned (.tuple #[.slice A k c, .int .i64 (rdE sl cl vl pl el sk ck mt)]) ∧ (rdE sl cl vl pl el sk ck mt = 0 → SlT sgEnc 1 9 w' A k (rfsL cl ck el mt sk vl cl.length) ∧ k ≤ vn) ∧ (rdE sl cl vl pl el sk ck mt ≠ 0 → A = none ∧ k = 0 ∧ c = 0) ∧ k ≤ c ∧ w.grownBy w' none) := by
 refine gw_enter ⟨94, w, none, []⟩ Try.func8 rfl Try.ntmps8 rfl (mem0 (X := [SlOld stEnc 15 41 w.heap.size none sA sn sl, SlOld csEnc 2 27 w.heap.size none cA cn cl, SlOld vhEnc 2 46 w.heap.size none vA vn vl, SlOld plEnc 3 139 w.heap.size none pA pn pl, SlOld evEnc 5 48 w.heap.size none eA en el]) (allF_cons hs.old (allF_cons hc.old (allF_cons hv.old (allF_cons hp.old (allF_cons hl.old allF_nil))))) (allL_cons SlOld.lasts (allL_cons SlOld.lasts (allL_cons SlOld.lasts (allL_cons SlOld.lasts (allL_cons SlOld.lasts allL_nil)))))) ?_
 refine sr_ ?_
 have hlen := hv.len
 obtain ⟨FE, hFE⟩ : ∃ z, z = evsE sl cl vl pl el := ⟨_, rfl⟩
 obtain ⟨TE, hTE⟩ : ∃ z, z = rdE sl cl vl pl el sk ck mt := ⟨_, rfl⟩
 rw [← hTE]
 have hT0 : TE = firstE [FE, whenE (!sl.any (stP sk) || decide (ixP (csP ck) cl 0 < 0)) 8, momentE mt] := by rw [hTE, hFE]; rfl
 refine wl_box rfl rfl rfl fun g1 => ?_
 refine sg_ rfl (sg_ rfl (nn_ (gw_seq (sr_ ?_))))
 refine wl_ov (ov_loads rz33 rfl (fun _ hm => hm.blkI 0 rfl) rfl rfl) rfl ?_
 refine mv_ rfl ?_
 refine wl_callv (v := .int .i64 FE) rfl cb19 rfl rfl (fun wx hm => (by rw [hFE]; exact check2_any sl cl vl pl sA cA vA pA sn sc cn cc vn vc pn pc el eA en ec wx (hm.fact 0 rfl).1 (hm.fact 1 rfl).1 (hm.fact 2 rfl).1 (hm.fact 3 rfl).1 hsok hcok hvok hpok hsn hcn hvn hpn (hm.fact 4 rfl).1 heok hen)) ?_
 refine sg_ rfl (nn_ (sr_ (mv_ rfl (wl_ov (ov_neq rfl rfl) rfl (nn_ ?_)))))
 refine gw_cond rfl (fun hh => ?_) (fun hh => ?_)
 ·have h1 : ¬ (FE = 0) := by simpa using hh
  clear hh
  refine sr_ ?_
  have h2 : FE ≠ 0 := by simpa using h1
  have h3 : TE = FE := by rw [hT0]; exact fe_hd h2
  refine mv_ rfl (sg_ rfl (sg_ rfl (nn_ ?_)))
  refine gw_ret ?_
  refine nx_then_ret ?_
  refine nx_ret2 rfl rfl rfl fun wx hm => ?_
  exact ⟨none, 0, 0, by rw [h3], fun h => absurd h (by rw [h3]; exact h2), fun _ => ⟨rfl, rfl, rfl⟩, Nat.le_refl _, hm.g⟩
 have h1 : FE = 0 := by simpa using hh
 clear hh
 refine gw_skip (nx_then (gw_seq (sr_ ?_)))
 have h2 : FE = 0 := by simpa using h1
 obtain ⟨hf0, hl0⟩ := evs_ok (hFE.symm.trans h2)
 obtain ⟨hsort, _, _⟩ := log_ok hl0
 obtain ⟨hcl, hlo⟩ := class_fine hf0
 have hrise : Rise vl := fleet_rise hf0
 have hT1 : TE = firstE [whenE (!sl.any (stP sk) || decide (ixP (csP ck) cl 0 < 0)) 8, momentE mt] := by rw [hT0, h2]; exact fe_tl
 refine wl_ov (ov_loads rz33 rfl (fun _ hm => hm.blkI 0 rfl) rfl rfl) rfl ?_
 refine mv_ rfl ?_
 refine wl_callv rfl cb22 rfl rfl (fun wx hm => (hasStation_any sl sA cA vA pA sn sc cn cc vn vc pn pc sk wx (hm.fact 0 rfl).1 hsok (by omega))) ?_
 refine wl_ov (ov_un_not rfl) rfl (mv_ rfl ?_)
 rcases Bool.eq_false_or_eq_true (!(sl.any (stP sk))) with hg1 | hg1
 ·refine wl_set 31 rfl (congrArg Value.bool hg1) ?_
  have hT2 : TE = firstE [whenE true 8, momentE mt] := by rw [hT1, hg1, Bool.true_or]
  refine goff rfl rfl rfl (goff rfl rfl rfl (goff rfl rfl rfl (goff rfl rfl rfl (goff rfl rfl rfl (pt_ rfl rfl ?_)))))
  refine wl_callw rfl cb21 rfl rfl (fun wx hm => (when_any _ _ wx)) ?_
  refine mv_ rfl ?_
  refine wl_callw rfl cb24 rfl rfl (fun wx hm => (moment_any _ wx)) ?_
  refine wl_buildSlice (e := 52) (cs := [.int .i64 (whenE true 8), .int .i64 (momentE mt)]) rfl (by kernel_rfl) rfl fun g2 => ?_
  refine wl_callw rfl cb20 rfl rfl (fun wx hm => (first_any [whenE true 8, momentE mt] _ _ _ wx (hm.blkI 0 rfl) (by simp))) ?_
  refine sg_ rfl (nn_ (sr_ (mv_ rfl (wl_ov (ov_neq rfl rfl) rfl (nn_ ?_)))))
  refine gw_cond rfl (fun hh => ?_) (fun hh => ?_)
  ·have h3 : ¬ (firstE [whenE true 8, momentE mt] = 0) := by simpa using hh
   clear hh
   refine sr_ ?_
   have h4 : TE ≠ 0 := by rw [hT2]; simpa using h3
   refine mv_ rfl (sg_ rfl (sg_ rfl (nn_ ?_)))
   refine gw_ret ?_
   refine nx_then_ret ?_
   refine nx_ret2 rfl rfl rfl fun wx hm => ?_
   exact ⟨none, 0, 0, by rw [hT2], fun h => absurd h h4, fun _ => ⟨rfl, rfl, rfl⟩, Nat.le_refl _, hm.g⟩
  have h3 : firstE [whenE true 8, momentE mt] = 0 := by simpa using hh
  clear hh
  refine gw_skip (nx_then (sr_ ?_))
  have h4 : TE = 0 := by rw [hT2]; simpa using h3
  exact absurd (fe_all (hT2.symm.trans h4) (whenE true 8) (by simp)) (by decide)
 refine wl_set 31 rfl (congrArg Value.bool hg1) ?_
 have hT2 : TE = firstE [whenE (decide (ixP (csP ck) cl 0 < 0)) 8, momentE mt] := by rw [hT1, hg1, Bool.false_or]
 refine wl_guard_on rfl rfl rfl (fd_ fo33_1 rfl rfl (wl_guard_on rfl rfl rfl (lk_ sc28 0 rfl rfl rfl (wl_guard_on rfl rfl rfl (mv_ rfl (wl_guard_on rfl rfl rfl ?_))))))
 refine wl_callv rfl cb23 rfl rfl (fun wx hm => (classAt_any cl cA cn cc ck wx (hm.fact 1 rfl).1 (by omega))) ?_
 refine wl_guard_on rfl rfl rfl (wl_ov (ov_lss rfl rfl) rfl (pf_ rfl rfl ?_))
 refine wl_callw rfl cb21 rfl rfl (fun wx hm => (when_any _ _ wx)) ?_
 refine mv_ rfl ?_
 refine wl_callw rfl cb24 rfl rfl (fun wx hm => (moment_any _ wx)) ?_
 refine wl_buildSlice (e := 52) (cs := [.int .i64 (whenE (decide (ixP (csP ck) cl 0 < 0)) 8), .int .i64 (momentE mt)]) rfl (by kernel_rfl) rfl fun g3 => ?_
 refine wl_callw rfl cb20 rfl rfl (fun wx hm => (first_any [whenE (decide (ixP (csP ck) cl 0 < 0)) 8, momentE mt] _ _ _ wx (hm.blkI 0 rfl) (by simp))) ?_
 refine sg_ rfl (nn_ (sr_ (mv_ rfl (wl_ov (ov_neq rfl rfl) rfl (nn_ ?_)))))
 refine gw_cond rfl (fun hh => ?_) (fun hh => ?_)
 ·have h3 : ¬ (firstE [whenE (decide (ixP (csP ck) cl 0 < 0)) 8, momentE mt] = 0) := by simpa using hh
  clear hh
  refine sr_ ?_
  have h4 : TE ≠ 0 := by rw [hT2]; simpa using h3
  refine mv_ rfl (sg_ rfl (sg_ rfl (nn_ ?_)))
  refine gw_ret ?_
  refine nx_then_ret ?_
  refine nx_ret2 rfl rfl rfl fun wx hm => ?_
  exact ⟨none, 0, 0, by rw [hT2], fun h => absurd h h4, fun _ => ⟨rfl, rfl, rfl⟩, Nat.le_refl _, hm.g⟩
 have h3 : firstE [whenE (decide (ixP (csP ck) cl 0 < 0)) 8, momentE mt] = 0 := by simpa using hh
 clear hh
 refine gw_skip (nx_then (sr_ ?_))
 have h4 : TE = 0 := by rw [hT2]; simpa using h3
 obtain ⟨hmt0, hmt1⟩ := moment_nn (fe_all (hT2.symm.trans h4) (momentE mt) (by simp))
 have hck := fe_all (hT2.symm.trans h4) (whenE (decide (ixP (csP ck) cl 0 < 0)) 8) (by simp)
 have hix : 0 ≤ ixP (csP ck) cl 0 := by
  by_cases h : ixP (csP ck) cl 0 < 0
  ·rw [decide_eq_true h] at hck; cases hck
  omega
 have hst : ∀ v, ((statesM el mt) v).getD sa0 = stateR el v mt := fun v => statesM_eq hsort hmt0
 refine mv_ rfl (mv_ rfl ?_)
 refine wl_callx (γ := Nat) (val := (fun g => .map (some g))) (φ := (fun g => True)) (Y := (fun g => fun wy => MapF encS 0 g (statesM el mt) wy)) rfl cb25 rfl rfl (fun wx hm => (states_any el eA en ec mt wx (hm.fact 4 rfl).1 hen).mono fun _ _ ⟨g, he, h1, hg⟩ => ⟨g, he, trivial, hg, h1⟩) (fun _ => MapF.lasts2) ?_
 rintro m1 hphi
 clear hphi
 refine wl_nilOwn 9 1 ?_
 refine sg_ rfl (nn_ (sr_ ?_))
 refine wl_makeMapN (enc := (Value.int .i64)) 0 rfl rfl fun g4 hne_g4 => ?_
 refine wl_alloc zc91 rfl fun g5 => ?_
 refine wl_store 0 sc91 rfl rfl rfl rfl rfl rfl ?_
 refine nn_ (sr_ (sg_ rfl (nn_ (gw_seq (sr_ (fd_ fo33_2 rfl rfl (lk_ sc30 2 rfl rfl rfl (wl_ov (ov_len es30 rfl) rfl (mv_ rfl ?_)))))))))
 refine nn_ (gw_block ?_)
 refine gw_loop (γ := Nat × (ByteArray → Option Int) × Nat × Option Addr × Nat) (fun gg => gg.1 ≤ vn ∧ gg.2.2.1 ≤ gg.1 ∧ (rdL cl ck el mt sk (vl.take gg.1)).length = gg.2.2.1 ∧ FarOk cl ck el mt sk gg.2.1 (vl.take gg.1)) (fun gg => [(2, .string sk), (3, .string ck), (5, .pointer (some ⟨g1, 0, none⟩)), (10, .slice none 0 0), (11, .int .i64 0), (14, .map (some m1)), (15, .pointer (some ⟨g5, 0, none⟩)), (16, .slice gg.2.2.2.1 gg.2.2.1 gg.2.2.2.2), (51, .slice vA vn vc), (52, .int .i64 ((vn : Nat) : Int)), (53, .int .i64 ((gg.1 : Nat) : Int))]) (fun gg => fun _ => True) (fun gg => [(g5, 91, [.map (some g4)]), (g3, 52, [.int .i64 (whenE (decide (ixP (csP ck) cl 0 < 0)) 8), .int .i64 (momentE mt)]), (g1, 33, [.slice sA sn sc, .slice cA cn cc, .slice vA vn vc, .slice pA pn pc])]) (fun gg => [⟨.slice gg.2.2.2.1 gg.2.2.1 gg.2.2.2.2, 9, 1, gg.2.2.1, (rdL cl ck el mt sk (vl.take gg.1)).flatMap sgEnc⟩]) (fun gg => [MapF (Value.int .i64) w.heap.size g4 (gg.2.1), fun wy => MapF encS 0 m1 (statesM el mt) wy, SlOld stEnc 15 41 w.heap.size none sA sn sl, SlOld csEnc 2 27 w.heap.size none cA cn cl, SlOld vhEnc 2 46 w.heap.size none vA vn vl, SlOld plEnc 3 139 w.heap.size none pA pn pl, SlOld evEnc 5 48 w.heap.size none eA en el]) (fun gg => vn - gg.1) (0, fNil, 0, none, 0) ⟨Nat.zero_le _, Nat.le_refl _, rfl, (fun _ h => by cases h)⟩ ⟨rfl, rfl, rfl, rfl, rfl, rfl, rfl, rfl, rfl, rfl, rfl, trivial⟩ (fun _ hm => hm.pick [0, 1, 2] [0] [0, 1, 2, 3, 4, 5, 6] rfl rfl) ?_
 rintro ⟨i, F, k, oA, oc⟩ hinv
 replace hinv : i ≤ vn ∧ k ≤ i ∧ (rdL cl ck el mt sk (vl.take i)).length = k ∧ FarOk cl ck el mt sk F (vl.take i) := hinv
 dsimp only
 refine sr_ ?_
 obtain ⟨hi0, hki, hol, hfar⟩ := hinv
 refine wl_ov (ov_lss rfl rfl) rfl (nn_ (gw_seq ?_))
 refine gw_cond rfl (fun hh => ?_) (fun hh => ?_)
 ·have hi : ((i : Nat) : Int) < ((vn : Nat) : Int) := by simpa using hh
  clear hh
  refine gw_skip (nx_then (gw_seq (gw_block (sr_ ?_))))
  obtain ⟨b, off, hA, _, _⟩ := hv.get (by omega)
  subst hA
  obtain ⟨x, hx⟩ : ∃ x, vl[i]? = some x := ⟨_, List.getElem?_eq_getElem (by omega)⟩
  obtain ⟨vk, vc2⟩ := x
  have hat := rd_at (cl := cl) (c := ck) (el := el) (mt := mt) (st := sk) hx
  obtain ⟨S0, hS0⟩ : ∃ z, z = stateR el vk mt := ⟨_, rfl⟩
  obtain ⟨s0, s1, s2⟩ := S0
  obtain ⟨SV, hSV⟩ : ∃ z, z = stepsV cl ck vc2 := ⟨_, rfl⟩
  have hsb := stepsV_bound cl ck vc2
  rw [← hSV] at hsb
  have hcll := hc.len
  have hgd : goodV cl ck el mt sk ⟨vk, vc2⟩ = (decide (s0 = 1) && s1.toList == sk.toList && decide (0 ≤ SV)) := by unfold goodV readyB; dsimp only; rw [← hS0, ← hSV]
  refine wl_ov (ov_index (j := i) es30 rfl rfl (by omega)) rfl ?_
  refine wl_ov (ov_elem (vs := [.string vk, .string vc2]) rz46 rfl (fun _ hm => (hm.fact 4 rfl).1) hx rfl rfl) rfl ?_
  refine wl_alloc zc46 rfl fun g6 => ?_
  refine wl_stores (cs' := [.string vk, .string vc2]) 0 rz46 rfl rfl rfl rfl rfl rfl rfl rfl ?_
  refine nn_ (gw_seq ?_)
  refine gd (fun wz => Blk wz g6 46 [.string vk, .string vc2] ∧ Blk wz g5 91 [.map (some g4)] ∧ Blk wz g3 52 [.int .i64 (whenE (decide (ixP (csP ck) cl 0 < 0)) 8), .int .i64 (momentE mt)] ∧ Blk wz g1 33 [.slice sA sn sc, .slice cA cn cc, .slice (some ⟨b, off, none⟩) vn vc, .slice pA pn pc] ∧ (MapF (Value.int .i64) w.heap.size g4 (F)) wz ∧ (fun wy => MapF encS 0 m1 (statesM el mt) wy) wz ∧ (SlOld stEnc 15 41 w.heap.size none sA sn sl) wz ∧ (SlOld csEnc 2 27 w.heap.size none cA cn cl) wz ∧ (SlOld vhEnc 2 46 w.heap.size none (some ⟨b, off, none⟩) vn vl) wz ∧ (SlOld plEnc 3 139 w.heap.size none pA pn pl) wz ∧ (SlOld evEnc 5 48 w.heap.size none eA en el) wz ∧ True) mixed (fun _ hm => ⟨hm.bl 0, hm.bl 1, hm.bl 2, hm.bl 3, hm.fa 0, hm.fa 1, hm.fa 2, hm.fa 3, hm.fa 4, hm.fa 5, hm.fa 6, trivial⟩) fun z => ?_
  refine wt 0 13 1 rfl z (ov_move rfl) ?_
  refine wt 1 13 3 rfl z (ov_field fo46_0 rfl rfl) ?_
  refine wt 2 13 7 rfl z (ov_load sc9 rfl (fun _ hm => hm.1) rfl) ?_
  refine wt 3 13 15 rfl z (ov_lookF (enc := encS) (k := 9) (e := 93) sa0 (by kernel_rfl) (by kernel_rfl) (by kernel_rfl) rfl rfl (fun _ hm => (hm.2.2.2.2.2.1))) ?_
  refine wa_set 60 (v' := .agg #[.int .i64 s0, .string s1, .int .i64 s2]) rfl (congrArg encS ((hst vk).trans hS0.symm)) ?_
  refine wt 4 13 31 rfl z (ov_field fo33_1 rfl rfl) ?_
  refine wt 5 13 63 rfl z (ov_load sc28 rfl (fun _ hm => hm.2.2.2.1) rfl) ?_
  refine wt 6 13 127 rfl z (ov_move rfl) ?_
  refine wt 7 13 255 rfl z (ov_field fo46_1 rfl rfl) ?_
  refine wt 8 13 511 rfl z (ov_load sc9 rfl (fun _ hm => hm.1) rfl) ?_
  refine wa_all [9, 10] (by kernel_rfl) rfl ⟨⟨_, rfl, ?_⟩, ⟨_, rfl, ?_⟩, trivial⟩
  ·refine wl_callv (v := .int .i64 SV) rfl cb26 rfl rfl (fun wx hm => (by have h := steps_any cl cA cn cc ck vc2 wx (hm.fact 3 rfl).1 hcl hix (by omega); rw [← hSV] at h; exact h)) ?_
   refine wl_nil ?_
   refine nw 13 1023 (fun _ hm => ⟨hm.bl 0, hm.bl 1, hm.bl 2, hm.bl 3, hm.fa 0, hm.fa 1, hm.fa 2, hm.fa 3, hm.fa 4, hm.fa 5, hm.fa 6, trivial⟩) fun z => ?_
   refine wa1 10 rfl ?_
   refine wl_alloc zc93 rfl fun g7 => ?_
   refine wl_nil ?_
   refine nw 13 2047 (fun _ hm => ⟨hm.bl 1, hm.bl 2, hm.bl 3, hm.bl 4, hm.fa 0, hm.fa 1, hm.fa 2, hm.fa 3, hm.fa 4, hm.fa 5, hm.fa 6, trivial⟩) fun z => ?_
   refine wa1 11 rfl ?_
   refine wl_stores (cs' := [.int .i64 s0, .string s1, .int .i64 s2]) 0 rz93 rfl rfl rfl rfl rfl rfl rfl rfl ?_
   refine wl_nil ?_
   refine nw 13 4095 (fun _ hm => ⟨hm.bl 1, hm.bl 2, hm.bl 3, hm.bl 4, hm.fa 0, hm.fa 1, hm.fa 2, hm.fa 3, hm.fa 4, hm.fa 5, hm.fa 6, trivial⟩) fun z => ?_
   refine wt 12 13 8191 rfl z (ov_assign rfl) ?_
   refine wa_done (by kernel_rfl) ?_
   refine nx_then (sr_ (fd_ fo93_0 rfl rfl (lk_ sc3 0 rfl rfl rfl (wl_ov (ov_eql rfl rfl) rfl (mv_ rfl ?_)))))
   rcases Bool.eq_false_or_eq_true (decide (s0 = 1)) with h5 | h5
   ·refine wl_set 70 rfl (congrArg Value.bool h5) ?_
    refine wl_guard_on rfl rfl rfl (fd_ fo93_1 rfl rfl (wl_guard_on rfl rfl rfl (lk_ sc9 0 rfl rfl rfl (wl_guard_on rfl rfl rfl (mv_ rfl (wl_guard_on rfl rfl rfl (wl_ov (ov_seql rfl rfl) rfl (pt_ rfl rfl (mv_ rfl ?_)))))))))
    rcases Bool.eq_false_or_eq_true (s1.toList == sk.toList) with h6 | h6
    ·refine wl_set 76 rfl (congrArg Value.bool h6) ?_
     refine wl_guard_on rfl rfl rfl (mv_ rfl (wl_guard_on rfl rfl rfl ?_))
     refine wl_ov (ov_geq rfl rfl) rfl ?_
     refine pt_ rfl rfl (nn_ ?_)
     refine gw_cond rfl (fun hh => ?_) (fun hh => ?_)
     ·have h7 : 0 ≤ SV := by simpa using hh
      clear hh
      refine sr_ ?_
      have hb : goodV cl ck el mt sk ⟨vk, vc2⟩ = true := by rw [hgd, h5, h6, decide_eq_true (show 0 ≤ SV by omega)]; rfl
      rw [if_pos hb] at hat
      dsimp only at hat
      have hfr := far_put hfar hrise hx
      dsimp only at hfr
      rw [← hSV] at hfr
      refine lk_ sc91 2 rfl rfl rfl (fd_ fo46_0 rfl rfl (lk_ sc9 1 rfl rfl rfl (mv_ rfl ?_)))
      refine wl_mapPut (enc := (Value.int .i64)) (v := SV) (k := 9) (e := 3) (X' := [fun wy => MapF encS 0 m1 (statesM el mt) wy, SlOld stEnc 15 41 w.heap.size none sA sn sl, SlOld csEnc 2 27 w.heap.size none cA cn cl, SlOld vhEnc 2 46 w.heap.size none (some ⟨b, off, none⟩) vn vl, SlOld plEnc 3 139 w.heap.size none pA pn pl, SlOld evEnc 5 48 w.heap.size none eA en el]) 0 (by kernel_rfl) (by kernel_rfl) rfl rfl rfl rfl (far_cons (i := 1) (MapF.far hne_g4) rfl (far_cons (i := 2) SlOld.far rfl (far_cons (i := 3) SlOld.far rfl (far_cons (i := 4) SlOld.far rfl (far_cons (i := 5) SlOld.far rfl (far_cons (i := 6) SlOld.far rfl far_nil)))))) ?_
      refine nn_ (gw_region (mv_ rfl (fd_ fo46_0 rfl rfl (lk_ sc9 1 rfl rfl rfl ?_))))
      refine wl_buildSlice (e := 9) (cs := [.string vk]) rfl (by kernel_rfl) rfl fun g8 => ?_
      refine wl_append (news := [.string vk]) 0 0 ap36 rfl rfl rfl rfl rfl rfl rfl (by omega) (by unfold maxLen; omega) rfl rfl fun v2 hv2 => ?_
      refine wl_look (R := ∃ A cc, v2 = .slice A (k + 1) cc) (fun wx hm => own_slice (hm.ownI 0 rfl)) ?_
      rintro ⟨A3, c3, rfl⟩
      have hxs : (rdL cl ck el mt sk (vl.take i)).flatMap sgEnc ++ ([.string vk] : List Value) = (rdL cl ck el mt sk (vl.take (i + 1))).flatMap sgEnc := by rw [hat]; simp [sgEnc]
      rw [hxs]
      refine sg_ rfl (wl_nil (nx_blk_nrm (nx_then (gw_region (ad_ rfl rfl (mv_ rfl (wl_nil ?_)))))))
      exact nx_round (i + 1, fPut (F) vk SV, k + 1, A3, c3) ⟨by dsimp only; omega, by dsimp only; omega, by dsimp only; rw [hat, List.length_append, hol]; rfl, hfr⟩ (by dsimp only; omega) ⟨rfl, rfl, rfl, rfl, rfl, rfl, rfl, rfl, rfl, rfl, (some_int (by omega)), trivial⟩ (fun _ hm => hm.pick [3, 4, 5] [0] [0, 1, 2, 3, 4, 5, 6] rfl rfl)
     have h7 : ¬ (0 ≤ SV) := by simpa using hh
     clear hh
     refine gw_skip (nx_blk_nrm (nx_then (gw_region ?_)))
     have hb : goodV cl ck el mt sk ⟨vk, vc2⟩ = false := by rw [hgd, h5, h6, decide_eq_false (show ¬ 0 ≤ SV by omega)]; rfl
     rw [if_neg (by rw [hb]; decide), List.append_nil] at hat
     rw [← hat]
     refine ad_ rfl rfl (mv_ rfl (wl_nil ?_))
     exact nx_round (i + 1, F, k, oA, oc) ⟨by dsimp only; omega, by dsimp only; omega, by dsimp only; rw [hat]; exact hol, far_skip hfar hx hb⟩ (by dsimp only; omega) ⟨rfl, rfl, rfl, rfl, rfl, rfl, rfl, rfl, rfl, rfl, (some_int (by omega)), trivial⟩ (fun _ hm => hm.pick [2, 3, 4] [0] [0, 1, 2, 3, 4, 5, 6] rfl rfl)
    refine wl_set 76 rfl (congrArg Value.bool h6) ?_
    have hb : goodV cl ck el mt sk ⟨vk, vc2⟩ = false := by rw [hgd, h5, h6]; rfl
    rw [if_neg (by rw [hb]; decide), List.append_nil] at hat
    rw [← hat]
    refine goff rfl rfl rfl (goff rfl rfl rfl (pf_ rfl rfl (nn_ (cf_ rfl (gw_skip (nx_blk_nrm (nx_then (gw_region (ad_ rfl rfl (mv_ rfl (wl_nil ?_)))))))))))
    exact nx_round (i + 1, F, k, oA, oc) ⟨by dsimp only; omega, by dsimp only; omega, by dsimp only; rw [hat]; exact hol, far_skip hfar hx hb⟩ (by dsimp only; omega) ⟨rfl, rfl, rfl, rfl, rfl, rfl, rfl, rfl, rfl, rfl, (some_int (by omega)), trivial⟩ (fun _ hm => hm.pick [2, 3, 4] [0] [0, 1, 2, 3, 4, 5, 6] rfl rfl)
   refine wl_set 70 rfl (congrArg Value.bool h5) ?_
   have hb : goodV cl ck el mt sk ⟨vk, vc2⟩ = false := by rw [hgd, h5]; rfl
   rw [if_neg (by rw [hb]; decide), List.append_nil] at hat
   rw [← hat]
   refine goff rfl rfl rfl (goff rfl rfl rfl (goff rfl rfl rfl (goff rfl rfl rfl (pf_ rfl rfl (mv_ rfl (goff rfl rfl rfl (goff rfl rfl rfl (pf_ rfl rfl (nn_ (cf_ rfl (gw_skip (nx_blk_nrm ?_))))))))))))
   refine nx_then (gw_region (ad_ rfl rfl (mv_ rfl (wl_nil ?_))))
   exact nx_round (i + 1, F, k, oA, oc) ⟨by dsimp only; omega, by dsimp only; omega, by dsimp only; rw [hat]; exact hol, far_skip hfar hx hb⟩ (by dsimp only; omega) ⟨rfl, rfl, rfl, rfl, rfl, rfl, rfl, rfl, rfl, rfl, (some_int (by omega)), trivial⟩ (fun _ hm => hm.pick [2, 3, 4] [0] [0, 1, 2, 3, 4, 5, 6] rfl rfl)
  refine wl_alloc zc93 rfl fun g9 => ?_
  refine wl_nil ?_
  refine nw 13 1535 (fun _ hm => ⟨hm.bl 1, hm.bl 2, hm.bl 3, hm.bl 4, hm.fa 0, hm.fa 1, hm.fa 2, hm.fa 3, hm.fa 4, hm.fa 5, hm.fa 6, trivial⟩) fun z => ?_
  refine wa1 9 rfl ?_
  refine wl_callv (v := .int .i64 SV) rfl cb26 rfl rfl (fun wx hm => (by have h := steps_any cl cA cn cc ck vc2 wx (hm.fact 3 rfl).1 hcl hix (by omega); rw [← hSV] at h; exact h)) ?_
  refine wl_nil ?_
  refine nw 13 2047 (fun _ hm => ⟨hm.bl 1, hm.bl 2, hm.bl 3, hm.bl 4, hm.fa 0, hm.fa 1, hm.fa 2, hm.fa 3, hm.fa 4, hm.fa 5, hm.fa 6, trivial⟩) fun z => ?_
  refine wa1 11 rfl ?_
  refine wl_stores (cs' := [.int .i64 s0, .string s1, .int .i64 s2]) 0 rz93 rfl rfl rfl rfl rfl rfl rfl rfl ?_
  refine wl_nil ?_
  refine nw 13 4095 (fun _ hm => ⟨hm.bl 1, hm.bl 2, hm.bl 3, hm.bl 4, hm.fa 0, hm.fa 1, hm.fa 2, hm.fa 3, hm.fa 4, hm.fa 5, hm.fa 6, trivial⟩) fun z => ?_
  refine wt 12 13 8191 rfl z (ov_assign rfl) ?_
  refine wa_done (by kernel_rfl) ?_
  refine nx_then (sr_ (fd_ fo93_0 rfl rfl (lk_ sc3 0 rfl rfl rfl (wl_ov (ov_eql rfl rfl) rfl (mv_ rfl ?_)))))
  rcases Bool.eq_false_or_eq_true (decide (s0 = 1)) with h5 | h5
  ·refine wl_set 70 rfl (congrArg Value.bool h5) ?_
   refine wl_guard_on rfl rfl rfl (fd_ fo93_1 rfl rfl (wl_guard_on rfl rfl rfl (lk_ sc9 0 rfl rfl rfl (wl_guard_on rfl rfl rfl (mv_ rfl (wl_guard_on rfl rfl rfl (wl_ov (ov_seql rfl rfl) rfl (pt_ rfl rfl (mv_ rfl ?_)))))))))
   rcases Bool.eq_false_or_eq_true (s1.toList == sk.toList) with h6 | h6
   ·refine wl_set 76 rfl (congrArg Value.bool h6) ?_
    refine wl_guard_on rfl rfl rfl (mv_ rfl (wl_guard_on rfl rfl rfl ?_))
    refine wl_ov (ov_geq rfl rfl) rfl ?_
    refine pt_ rfl rfl (nn_ ?_)
    refine gw_cond rfl (fun hh => ?_) (fun hh => ?_)
    ·have h7 : 0 ≤ SV := by simpa using hh
     clear hh
     refine sr_ ?_
     have hb : goodV cl ck el mt sk ⟨vk, vc2⟩ = true := by rw [hgd, h5, h6, decide_eq_true (show 0 ≤ SV by omega)]; rfl
     rw [if_pos hb] at hat
     dsimp only at hat
     have hfr := far_put hfar hrise hx
     dsimp only at hfr
     rw [← hSV] at hfr
     refine lk_ sc91 2 rfl rfl rfl (fd_ fo46_0 rfl rfl (lk_ sc9 1 rfl rfl rfl (mv_ rfl ?_)))
     refine wl_mapPut (enc := (Value.int .i64)) (v := SV) (k := 9) (e := 3) (X' := [fun wy => MapF encS 0 m1 (statesM el mt) wy, SlOld stEnc 15 41 w.heap.size none sA sn sl, SlOld csEnc 2 27 w.heap.size none cA cn cl, SlOld vhEnc 2 46 w.heap.size none (some ⟨b, off, none⟩) vn vl, SlOld plEnc 3 139 w.heap.size none pA pn pl, SlOld evEnc 5 48 w.heap.size none eA en el]) 0 (by kernel_rfl) (by kernel_rfl) rfl rfl rfl rfl (far_cons (i := 1) (MapF.far hne_g4) rfl (far_cons (i := 2) SlOld.far rfl (far_cons (i := 3) SlOld.far rfl (far_cons (i := 4) SlOld.far rfl (far_cons (i := 5) SlOld.far rfl (far_cons (i := 6) SlOld.far rfl far_nil)))))) ?_
     refine nn_ (gw_region (mv_ rfl (fd_ fo46_0 rfl rfl (lk_ sc9 1 rfl rfl rfl ?_))))
     refine wl_buildSlice (e := 9) (cs := [.string vk]) rfl (by kernel_rfl) rfl fun g10 => ?_
     refine wl_append (news := [.string vk]) 0 0 ap36 rfl rfl rfl rfl rfl rfl rfl (by omega) (by unfold maxLen; omega) rfl rfl fun v2 hv2 => ?_
     refine wl_look (R := ∃ A cc, v2 = .slice A (k + 1) cc) (fun wx hm => own_slice (hm.ownI 0 rfl)) ?_
     rintro ⟨A3, c3, rfl⟩
     have hxs : (rdL cl ck el mt sk (vl.take i)).flatMap sgEnc ++ ([.string vk] : List Value) = (rdL cl ck el mt sk (vl.take (i + 1))).flatMap sgEnc := by rw [hat]; simp [sgEnc]
     rw [hxs]
     refine sg_ rfl (wl_nil (nx_blk_nrm (nx_then (gw_region (ad_ rfl rfl (mv_ rfl (wl_nil ?_)))))))
     exact nx_round (i + 1, fPut (F) vk SV, k + 1, A3, c3) ⟨by dsimp only; omega, by dsimp only; omega, by dsimp only; rw [hat, List.length_append, hol]; rfl, hfr⟩ (by dsimp only; omega) ⟨rfl, rfl, rfl, rfl, rfl, rfl, rfl, rfl, rfl, rfl, (some_int (by omega)), trivial⟩ (fun _ hm => hm.pick [3, 4, 5] [0] [0, 1, 2, 3, 4, 5, 6] rfl rfl)
    have h7 : ¬ (0 ≤ SV) := by simpa using hh
    clear hh
    refine gw_skip (nx_blk_nrm (nx_then (gw_region ?_)))
    have hb : goodV cl ck el mt sk ⟨vk, vc2⟩ = false := by rw [hgd, h5, h6, decide_eq_false (show ¬ 0 ≤ SV by omega)]; rfl
    rw [if_neg (by rw [hb]; decide), List.append_nil] at hat
    rw [← hat]
    refine ad_ rfl rfl (mv_ rfl (wl_nil ?_))
    exact nx_round (i + 1, F, k, oA, oc) ⟨by dsimp only; omega, by dsimp only; omega, by dsimp only; rw [hat]; exact hol, far_skip hfar hx hb⟩ (by dsimp only; omega) ⟨rfl, rfl, rfl, rfl, rfl, rfl, rfl, rfl, rfl, rfl, (some_int (by omega)), trivial⟩ (fun _ hm => hm.pick [2, 3, 4] [0] [0, 1, 2, 3, 4, 5, 6] rfl rfl)
   refine wl_set 76 rfl (congrArg Value.bool h6) ?_
   have hb : goodV cl ck el mt sk ⟨vk, vc2⟩ = false := by rw [hgd, h5, h6]; rfl
   rw [if_neg (by rw [hb]; decide), List.append_nil] at hat
   rw [← hat]
   refine goff rfl rfl rfl (goff rfl rfl rfl (pf_ rfl rfl (nn_ (cf_ rfl (gw_skip (nx_blk_nrm (nx_then (gw_region (ad_ rfl rfl (mv_ rfl (wl_nil ?_)))))))))))
   exact nx_round (i + 1, F, k, oA, oc) ⟨by dsimp only; omega, by dsimp only; omega, by dsimp only; rw [hat]; exact hol, far_skip hfar hx hb⟩ (by dsimp only; omega) ⟨rfl, rfl, rfl, rfl, rfl, rfl, rfl, rfl, rfl, rfl, (some_int (by omega)), trivial⟩ (fun _ hm => hm.pick [2, 3, 4] [0] [0, 1, 2, 3, 4, 5, 6] rfl rfl)
  refine wl_set 70 rfl (congrArg Value.bool h5) ?_
  have hb : goodV cl ck el mt sk ⟨vk, vc2⟩ = false := by rw [hgd, h5]; rfl
  rw [if_neg (by rw [hb]; decide), List.append_nil] at hat
  rw [← hat]
  refine goff rfl rfl rfl (goff rfl rfl rfl (goff rfl rfl rfl (goff rfl rfl rfl (pf_ rfl rfl (mv_ rfl (goff rfl rfl rfl (goff rfl rfl rfl (pf_ rfl rfl (nn_ (cf_ rfl (gw_skip (nx_blk_nrm ?_))))))))))))
  refine nx_then (gw_region (ad_ rfl rfl (mv_ rfl (wl_nil ?_))))
  exact nx_round (i + 1, F, k, oA, oc) ⟨by dsimp only; omega, by dsimp only; omega, by dsimp only; rw [hat]; exact hol, far_skip hfar hx hb⟩ (by dsimp only; omega) ⟨rfl, rfl, rfl, rfl, rfl, rfl, rfl, rfl, rfl, rfl, (some_int (by omega)), trivial⟩ (fun _ hm => hm.pick [2, 3, 4] [0] [0, 1, 2, 3, 4, 5, 6] rfl rfl)
 have hi : ¬ (((i : Nat) : Int) < ((vn : Nat) : Int)) := by simpa using hh
 clear hh
 refine gw_exit ?_
 refine nx_then_exit (nx_then_exit ?_)
 refine nx_blk_here ?_
 refine nx_then (sr_ ?_)
 have hall : vl.take i = vl := List.take_of_length_le (by omega)
 rw [hall] at hol hfar
 rw [hall]
 have hre := ready_eq hrise hcl hlo hix hfar
 obtain ⟨os, hos⟩ : ∃ z, z = rdL cl ck el mt sk vl := ⟨_, rfl⟩
 obtain ⟨rs, hrs⟩ : ∃ z, z = rfsL cl ck el mt sk vl cl.length := ⟨_, rfl⟩
 rw [← hos] at hol hre
 rw [← hrs] at hre
 rw [← hos]
 refine mv_ rfl (wl_ov (ov_makeFunc rfl rfl) rfl ?_)
 by_cases hk0 : k = 0
 ·subst hk0
  have hnil : rs = [] := by
   rw [← hre, List.length_eq_zero_iff.1 hol]; rfl
  refine wl_callv rfl cb27 rfl rfl (fun wx hm => (stable0_far oA oc _ wx)) ?_
  refine nn_ (sr_ (mv_ rfl (sg_ rfl (sg_ rfl (nn_ ?_)))))
  refine gw_ret ?_
  refine nx_ret2 rfl rfl rfl fun wx hm => ?_
  exact ⟨oA, 0, oc, by rw [h4], fun _ => ⟨by rw [← hrs, hnil]; exact SlT.nil_ _ _, by omega⟩, fun h => absurd h4 h, Nat.zero_le _, hm.g⟩
 refine wl_look (R := ∃ g, oA = some ⟨g, 0, none⟩) (fun wx hm => own_addr (hm.ownI 0 rfl) (by omega)) ?_
 rintro ⟨g5, rfl⟩
 refine wl_callr (v := .tuple #[]) (xs' := rs.flatMap sgEnc) 0 rfl rfl rfl cb27 rfl rfl (fun wx hm => (by have h := (stable_far _ _ F os g5 k oc _ wx (hm.ownI 0 rfl) hol (by omega) (hm.blkFar 0 0 rfl rfl) ((hm.fact 0 rfl).lower (Nat.zero_le _))); rw [hre] at h; exact h)) ?_
 refine nn_ (sr_ (mv_ rfl (sg_ rfl (sg_ rfl (nn_ ?_)))))
 refine gw_ret ?_
 refine nx_ret2 rfl rfl rfl fun wx hm => ?_
 exact ⟨_, k, oc, by rw [h4], fun _ => ⟨by rw [← hrs]; exact SlT.ofOwn sg_len (hm.ownI 0 rfl) (by rw [← hre, isort_len]; exact hol), by omega⟩, fun h => absurd h4 h, own_cap (hm.ownI 0 rfl), hm.g⟩
end Go.Proofs.Ytodcildcipfmcaa
namespace Go.Proofs.Ytodcildcipfmcaa
/-- A way from one that has to one that wants; what goes along it. -/
structure Arc where
  fr : Nat
  to_ : Nat
  car : Int
  flow : Int
def sumN : Nat → (Nat → Int) → Int
  | 0, _ => 0
  | n + 1, f => sumN n f + f n
theorem sumN_le {f g : Nat → Int} : ∀ {n : Nat}, (∀ i, i < n → f i ≤ g i) → sumN n f ≤ sumN n g
  | 0, _ => Int.le_refl _
  | n + 1, h => Int.add_le_add (sumN_le fun i hi => h i (by omega)) (h n (by omega))
theorem sumN_congr {f g : Nat → Int} : ∀ {n : Nat}, (∀ i, i < n → f i = g i) → sumN n f = sumN n g
  | 0, _ => rfl
  | n + 1, h => by
    show sumN n f + f n = sumN n g + g n
    rw [sumN_congr fun i hi => h i (by omega), h n (by omega)]
theorem sumN_lt {f g : Nat → Int} {k : Nat} : ∀ {n : Nat}, (∀ i, i < n → f i ≤ g i) → k < n → f k < g k → sumN n f < sumN n g
  | 0, _, hk, _ => absurd hk (by omega)
  | n + 1, h, hk, hl => by
    show sumN n f + f n < sumN n g + g n
    have h1 : sumN n f ≤ sumN n g := sumN_le fun i hi => h i (by omega)
    have h2 := h n (by omega)
    by_cases hkn : k = n
    · subst hkn; omega
    · have h3 := sumN_lt (n := n) (fun i hi => h i (by omega)) (by omega) hl
      omega
theorem sumN_add {f g : Nat → Int} : ∀ {n : Nat}, sumN n (fun i => f i + g i) = sumN n f + sumN n g
  | 0 => rfl
  | n + 1 => by
    show sumN n (fun i => f i + g i) + (f n + g n) = sumN n f + f n + (sumN n g + g n)
    rw [sumN_add]; omega
theorem sumN_zero {f : Nat → Int} {n : Nat} (h : ∀ i, i < n → f i = 0) : sumN n f = 0 := by
  induction n with
  | zero => rfl
  | succ n ih =>
    show sumN n f + f n = 0
    rw [ih fun i hi => h i (by omega), h n (by omega)]; rfl
theorem sumN_one {u : Nat → Int} {x : Int} {k : Nat} : ∀ {n : Nat}, k < n → sumN n (fun i => u i * (if k = i then x else 0)) = u k * x
  | 0, h => absurd h (by omega)
  | n + 1, h => by
    show sumN n (fun i => u i * (if k = i then x else 0)) + u n * (if k = n then x else 0) = _
    by_cases hk : k = n
    · subst hk
      rw [sumN_zero fun i hi => by rw [if_neg (by omega), Int.mul_zero], if_pos rfl, Int.zero_add]
    · rw [sumN_one (by omega), if_neg hk, Int.mul_zero, Int.add_zero]
/-- What goes along the arcs at a place. -/
def atF (sel : Arc → Nat) : List Arc → Nat → Int
  | [], _ => 0
  | a :: r, i => (if sel a = i then a.flow else 0) + atF sel r i
def wF (u : Nat → Int) (sel : Arc → Nat) : List Arc → Int
  | [] => 0
  | a :: r => a.flow * u (sel a) + wF u sel r
def costF : List Arc → Int
  | [] => 0
  | a :: r => a.flow * a.car + costF r
theorem atF_sum {u : Nat → Int} {sel : Arc → Nat} {n : Nat} : ∀ {ar : List Arc}, (∀ a ∈ ar, sel a < n) → sumN n (fun i => u i * atF sel ar i) = wF u sel ar
  | [], _ => sumN_zero fun i _ => Int.mul_zero _
  | a :: r, h => by
    have e : (fun i => u i * atF sel (a :: r) i) = fun i => u i * (if sel a = i then a.flow else 0) + u i * atF sel r i := by
      funext i
      show u i * ((if sel a = i then a.flow else 0) + atF sel r i) = _
      rw [Int.mul_add]
    rw [e, sumN_add, sumN_one (h a (List.mem_cons_self ..)), atF_sum fun b hb => h b (List.mem_cons_of_mem _ hb)]
    show _ = a.flow * u (sel a) + wF u sel r
    rw [Int.mul_comm]
theorem atF_nonneg {sel : Arc → Nat} {i : Nat} : ∀ {ar : List Arc}, (∀ a ∈ ar, 0 ≤ a.flow) → 0 ≤ atF sel ar i
  | [], _ => Int.le_refl _
  | a :: r, h => by
    have h1 := h a (List.mem_cons_self ..)
    have h2 := atF_nonneg (sel := sel) (i := i) fun b hb => h b (List.mem_cons_of_mem a hb)
    show 0 ≤ (if sel a = i then a.flow else 0) + atF sel r i
    split <;> omega
theorem atF_none {sel : Arc → Nat} {i : Nat} : ∀ {ar : List Arc}, (∀ a ∈ ar, sel a ≠ i) → atF sel ar i = 0
  | [], _ => rfl
  | a :: r, h => by
    show (if sel a = i then a.flow else 0) + atF sel r i = 0
    rw [if_neg (h a (List.mem_cons_self ..)), atF_none fun b hb => h b (List.mem_cons_of_mem _ hb)]; rfl
theorem atF_pos {sel : Arc → Nat} {i : Nat} : ∀ {ar : List Arc}, 0 < atF sel ar i → ∃ a ∈ ar, sel a = i ∧ 0 < a.flow
  | [], h => absurd (show (0 : Int) < 0 from h) (by decide)
  | a :: r, h => by
    by_cases h1 : sel a = i ∧ 0 < a.flow
    · exact ⟨a, List.mem_cons_self .., h1⟩
    · have h2 : 0 < atF sel r i := by
        have h3 : 0 < (if sel a = i then a.flow else 0) + atF sel r i := h
        split at h3
        · rename_i hs
          have : ¬ 0 < a.flow := fun h4 => h1 ⟨hs, h4⟩
          omega
        · omega
      obtain ⟨b, hb, h3⟩ := atF_pos h2
      exact ⟨b, List.mem_cons_of_mem _ hb, h3⟩
/-- The same arcs, whatever goes along them. -/
def SameA : List Arc → List Arc → Prop
  | [], [] => True
  | a :: r, b :: t => (a.fr = b.fr ∧ a.to_ = b.to_ ∧ a.car = b.car) ∧ SameA r t
  | _, _ => False
theorem SameA.refl : ∀ (ar : List Arc), SameA ar ar
  | [] => trivial
  | _ :: r => ⟨⟨rfl, rfl, rfl⟩, SameA.refl r⟩
theorem SameA.trans : ∀ {ar bs cs : List Arc}, SameA ar bs → SameA bs cs → SameA ar cs
  | [], [], [], _, _ => trivial
  | _ :: _, _ :: _, _ :: _, ⟨⟨h1, h2, h3⟩, h⟩, ⟨⟨k1, k2, k3⟩, k⟩ => ⟨⟨h1.trans k1, h2.trans k2, h3.trans k3⟩, h.trans k⟩
  | [], _ :: _, _, h, _ => h.elim
  | _ :: _, [], _, h, _ => h.elim
  | [], [], _ :: _, _, h => h.elim
  | _ :: _, _ :: _, [], _, h => h.elim
theorem SameA.symm : ∀ {ar bs : List Arc}, SameA ar bs → SameA bs ar
  | [], [], _ => trivial
  | _ :: _, _ :: _, ⟨⟨h1, h2, h3⟩, h⟩ => ⟨⟨h1.symm, h2.symm, h3.symm⟩, h.symm⟩
  | [], _ :: _, h => h.elim
  | _ :: _, [], h => h.elim
theorem SameA.len : ∀ {ar bs : List Arc}, SameA ar bs → ar.length = bs.length
  | [], [], _ => rfl
  | _ :: r, _ :: t, ⟨_, h⟩ => by rw [List.length_cons, List.length_cons, h.len]
  | [], _ :: _, h => h.elim
  | _ :: _, [], h => h.elim
theorem SameA.get : ∀ {ar bs : List Arc} {k : Nat} {a : Arc}, SameA ar bs → ar[k]? = some a → ∃ b, bs[k]? = some b ∧ a.fr = b.fr ∧ a.to_ = b.to_ ∧ a.car = b.car
  | a :: r, b :: t, 0, x, ⟨h, _⟩, hk => by
    cases hk
    exact ⟨b, rfl, h⟩
  | a :: r, b :: t, k + 1, x, ⟨_, h⟩, hk => h.get (k := k) (by simpa using hk)
  | [], [], k, x, _, hk => by simp at hk
  | [], _ :: _, _, _, h, _ => h.elim
  | _ :: _, [], _, _, h, _ => h.elim
theorem SameA.all {ar bs : List Arc} (h : SameA ar bs) {p : Nat → Nat → Int → Prop} (hp : ∀ a ∈ ar, p a.fr a.to_ a.car) : ∀ b ∈ bs, p b.fr b.to_ b.car := fun b hb => by
  obtain ⟨k, hk⟩ := List.getElem?_of_mem hb
  obtain ⟨a, ha, h1, h2, h3⟩ := h.symm.get hk
  have := hp a (List.mem_of_getElem? ha)
  rw [h1, h2, h3]; exact this
/-- What goes along an arc changes. -/
def addF (ar : List Arc) (k : Nat) (d : Int) : List Arc := match ar[k]? with
  | some a => ar.set k { a with flow := a.flow + d }
  | none => ar
theorem addF_cons (a : Arc) (r : List Arc) (k : Nat) (d : Int) : addF (a :: r) (k + 1) d = a :: addF r k d := by
  unfold addF
  rw [List.getElem?_cons_succ]
  cases r[k]? with
  | none => rfl
  | some b => rfl
theorem addF_zero (a : Arc) (r : List Arc) (d : Int) : addF (a :: r) 0 d = { a with flow := a.flow + d } :: r := rfl
theorem addF_at {ar : List Arc} {k : Nat} {a : Arc} {d : Int} (h : ar[k]? = some a) : addF ar k d = ar.set k { a with flow := a.flow + d } := by unfold addF; rw [h]
theorem addF_same : ∀ (ar : List Arc) (k : Nat) (d : Int), SameA ar (addF ar k d)
  | [], _, _ => trivial
  | a :: r, 0, d => by rw [addF_zero]; exact ⟨⟨rfl, rfl, rfl⟩, SameA.refl r⟩
  | a :: r, k + 1, d => by rw [addF_cons]; exact ⟨⟨rfl, rfl, rfl⟩, addF_same r k d⟩
theorem addF_get {ar : List Arc} {k j : Nat} {a : Arc} {d : Int} (h : ar[k]? = some a) : (addF ar k d)[j]? = if k = j then some { a with flow := a.flow + d } else ar[j]? := by
  rw [addF_at h]
  have hlt := (List.getElem?_eq_some_iff.1 h).1
  by_cases e : k = j
  · subst e
    rw [if_pos rfl, List.getElem?_set_self hlt]
  · rw [if_neg e, List.getElem?_set_ne e]
theorem atF_add {sel : Arc → Nat} (hsel : ∀ (a : Arc) (f : Int), sel { a with flow := f } = sel a) {d : Int} {i : Nat} : ∀ {ar : List Arc} {k : Nat} {a : Arc}, ar[k]? = some a → atF sel (addF ar k d) i = atF sel ar i + (if sel a = i then d else 0)
  | b :: r, 0, a, h => by
    cases h
    rw [addF_zero]
    show (if sel { b with flow := b.flow + d } = i then b.flow + d else 0) + atF sel r i = (if sel b = i then b.flow else 0) + atF sel r i + _
    rw [hsel]
    split <;> omega
  | b :: r, k + 1, a, h => by
    rw [addF_cons]
    show (if sel b = i then b.flow else 0) + atF sel (addF r k d) i = (if sel b = i then b.flow else 0) + atF sel r i + _
    rw [atF_add hsel (by simpa using h : r[k]? = some a)]; omega
theorem costF_add {d : Int} : ∀ {ar : List Arc} {k : Nat} {a : Arc}, ar[k]? = some a → costF (addF ar k d) = costF ar + d * a.car
  | b :: r, 0, a, h => by
    cases h
    rw [addF_zero]
    show (b.flow + d) * b.car + costF r = b.flow * b.car + costF r + _
    rw [Int.add_mul]; omega
  | b :: r, k + 1, a, h => by
    rw [addF_cons]
    show b.flow * b.car + costF (addF r k d) = b.flow * b.car + costF r + _
    rw [costF_add (by simpa using h : r[k]? = some a)]; omega
/-- Prices at which nothing that is used costs more than it must. -/
structure Pot (ar : List Arc) (left : Nat → Int) (p : Nat → Int) : Prop where
  le : ∀ a ∈ ar, p a.to_ ≤ p a.fr + a.car
  eq : ∀ a ∈ ar, 0 < a.flow → p a.fr + a.car ≤ p a.to_
  left : ∀ i, 0 < left i → p i ≤ 0
  out : ∀ i, 0 < atF Arc.fr ar i → 0 ≤ p i
/-- Flows that serve all. -/
structure Feas (n : Nat) (have_ want : Nat → Int) (gs : List Arc) : Prop where
  pos : ∀ a ∈ gs, 0 ≤ a.flow
  out : ∀ i, i < n → atF Arc.fr gs i ≤ have_ i
  in_ : ∀ i, i < n → atF Arc.to_ gs i = want i
theorem cost_eq {p : Nat → Int} : ∀ {ar : List Arc}, (∀ a ∈ ar, p a.to_ ≤ p a.fr + a.car) → (∀ a ∈ ar, 0 < a.flow → p a.fr + a.car ≤ p a.to_) → (∀ a ∈ ar, 0 ≤ a.flow) → costF ar = wF p Arc.to_ ar - wF p Arc.fr ar
  | [], _, _, _ => rfl
  | a :: r, h1, h2, h3 => by
    have ih := cost_eq (p := p) (fun b hb => h1 b (List.mem_cons_of_mem a hb)) (fun b hb => h2 b (List.mem_cons_of_mem a hb)) (fun b hb => h3 b (List.mem_cons_of_mem a hb))
    show a.flow * a.car + costF r = a.flow * p a.to_ + wF p Arc.to_ r - (a.flow * p a.fr + wF p Arc.fr r)
    have e : a.flow * a.car = a.flow * p a.to_ - a.flow * p a.fr := by
      rw [← Int.mul_sub]
      rcases Int.lt_or_eq_of_le (h3 a (List.mem_cons_self ..)) with h | h
      · have k1 := h1 a (List.mem_cons_self ..)
        have k2 := h2 a (List.mem_cons_self ..) h
        rw [show a.car = p a.to_ - p a.fr by omega]
      · rw [← h, Int.zero_mul, Int.zero_mul]
    omega
theorem cost_ge {p : Nat → Int} : ∀ {ar : List Arc}, (∀ a ∈ ar, p a.to_ ≤ p a.fr + a.car) → (∀ a ∈ ar, 0 ≤ a.flow) → wF p Arc.to_ ar - wF p Arc.fr ar ≤ costF ar
  | [], _, _ => Int.le_refl _
  | a :: r, h1, h3 => by
    have ih := cost_ge (p := p) (fun b hb => h1 b (List.mem_cons_of_mem a hb)) (fun b hb => h3 b (List.mem_cons_of_mem a hb))
    show a.flow * p a.to_ + wF p Arc.to_ r - (a.flow * p a.fr + wF p Arc.fr r) ≤ a.flow * a.car + costF r
    have e : a.flow * p a.to_ - a.flow * p a.fr ≤ a.flow * a.car := by
      rw [← Int.mul_sub]
      have k1 := h1 a (List.mem_cons_self ..)
      exact Int.mul_le_mul_of_nonneg_left (by omega) (h3 a (List.mem_cons_self ..))
    omega
/-- Such prices prove that no other flows cost less. -/
theorem least_cost {n : Nat} {have_ want left p : Nat → Int} {ar gs : List Arc} (hn : ∀ a ∈ ar, a.fr < n ∧ a.to_ < n) (hs : SameA ar gs) (hf : ∀ a ∈ ar, 0 ≤ a.flow) (hp : Pot ar left p) (hl : ∀ i, i < n → left i = have_ i - atF Arc.fr ar i) (hl0 : ∀ i, i < n → 0 ≤ left i) (hw : ∀ i, i < n → atF Arc.to_ ar i = want i) (hg : Feas n have_ want gs) : costF ar ≤ costF gs := by
  have hn2 : ∀ a ∈ gs, a.fr < n ∧ a.to_ < n := hs.all (p := fun i j _ => i < n ∧ j < n) hn
  have hle : ∀ a ∈ gs, p a.to_ ≤ p a.fr + a.car := hs.all (p := fun i j c => p j ≤ p i + c) hp.le
  have e1 := cost_eq hp.le hp.eq hf
  have e2 := cost_ge hle hg.pos
  rw [← atF_sum (n := n) fun a ha => (hn a ha).2, ← atF_sum (n := n) fun a ha => (hn a ha).1] at e1
  rw [← atF_sum (n := n) fun a ha => (hn2 a ha).2, ← atF_sum (n := n) fun a ha => (hn2 a ha).1] at e2
  have e3 : sumN n (fun i => p i * atF Arc.to_ ar i) = sumN n (fun i => p i * atF Arc.to_ gs i) := sumN_congr fun i hi => by rw [hw i hi, hg.in_ i hi]
  have e4 : sumN n (fun i => p i * atF Arc.fr gs i) ≤ sumN n (fun i => p i * atF Arc.fr ar i) := sumN_le fun i hi => by
    have k1 := atF_nonneg (sel := Arc.fr) (i := i) hf
    have k2 := atF_nonneg (sel := Arc.fr) (i := i) hg.pos
    have k3 := hg.out i hi
    have k4 := hl i hi
    rcases Int.lt_or_eq_of_le (hl0 i hi) with h | h
    · have k5 := hp.left i h
      rcases Int.lt_or_eq_of_le k1 with h2 | h2
      · have k6 := hp.out i h2
        rw [show p i = 0 by omega, Int.zero_mul, Int.zero_mul]; exact Int.le_refl _
      · rw [← h2, Int.mul_zero]
        exact Int.mul_nonpos_of_nonpos_of_nonneg k5 k2
    · rcases Int.lt_or_eq_of_le k1 with h2 | h2
      · exact Int.mul_le_mul_of_nonneg_left (by omega) (hp.out i h2)
      · rw [show atF Arc.fr gs i = 0 by omega, ← h2]; exact Int.le_refl _
  omega
theorem wF_le {u v : Arc → Int} : ∀ {ar : List Arc}, (∀ a ∈ ar, 0 ≤ a.flow) → (∀ a ∈ ar, 0 < a.flow → u a ≤ v a) → (ar.map fun a => a.flow * u a).sum ≤ (ar.map fun a => a.flow * v a).sum
  | [], _, _ => Int.le_refl _
  | a :: r, h1, h2 => by
    have ih := wF_le (u := u) (v := v) (fun b hb => h1 b (List.mem_cons_of_mem a hb)) (fun b hb => h2 b (List.mem_cons_of_mem a hb))
    rw [List.map_cons, List.map_cons, List.sum_cons, List.sum_cons]
    have e : a.flow * u a ≤ a.flow * v a := by
      rcases Int.lt_or_eq_of_le (h1 a (List.mem_cons_self ..)) with h | h
      · exact Int.mul_le_mul_of_nonneg_left (h2 a (List.mem_cons_self ..) h) (Int.le_of_lt h)
      · rw [← h, Int.zero_mul, Int.zero_mul]; exact Int.le_refl _
    omega
theorem wF_map {u : Nat → Int} {sel : Arc → Nat} : ∀ (ar : List Arc), wF u sel ar = (ar.map fun a => a.flow * u (sel a)).sum
  | [] => rfl
  | a :: r => by
    rw [List.map_cons, List.sum_cons, ← wF_map r]; rfl
def bI (b : Bool) : Int := if b then 1 else 0
/-- Where one that wants is out of reach, nothing serves all. -/
theorem no_flow {n k : Nat} {have_ want lack : Nat → Int} {ar gs : List Arc} {U : Nat → Bool} (hn : ∀ a ∈ ar, a.fr < n ∧ a.to_ < n) (hs : SameA ar gs) (hf : ∀ a ∈ ar, 0 ≤ a.flow)
    (hU : ∀ a ∈ ar, U a.to_ = true → U a.fr = true) (hV : ∀ a ∈ ar, 0 < a.flow → U a.fr = true → U a.to_ = true) (hh : ∀ i, i < n → U i = true → have_ i ≤ atF Arc.fr ar i)
    (hw : ∀ i, i < n → atF Arc.to_ ar i = want i - lack i) (hl : ∀ i, i < n → 0 ≤ lack i) (hk : k < n) (hkl : 0 < lack k) (hkU : U k = true) : ¬ Feas n have_ want gs := fun hg => by
  have hn2 : ∀ a ∈ gs, a.fr < n ∧ a.to_ < n := hs.all (p := fun i j _ => i < n ∧ j < n) hn
  have hU2 : ∀ a ∈ gs, U a.to_ = true → U a.fr = true := hs.all (p := fun i j _ => U j = true → U i = true) hU
  have b1 : ∀ b : Bool, 0 ≤ bI b := fun b => by cases b <;> decide
  have e1 : sumN n (fun i => bI (U i) * atF Arc.to_ gs i) ≤ sumN n (fun i => bI (U i) * atF Arc.fr gs i) := by
    rw [atF_sum fun a ha => (hn2 a ha).2, atF_sum fun a ha => (hn2 a ha).1, wF_map, wF_map]
    refine wF_le hg.pos fun a ha _ => ?_
    cases h : U a.to_ with
    | false => exact b1 _
    | true => rw [hU2 a ha h]; exact Int.le_refl _
  have e2 : sumN n (fun i => bI (U i) * atF Arc.fr ar i) ≤ sumN n (fun i => bI (U i) * atF Arc.to_ ar i) := by
    rw [atF_sum fun a ha => (hn a ha).1, atF_sum fun a ha => (hn a ha).2, wF_map, wF_map]
    refine wF_le hf fun a ha h0 => ?_
    cases h : U a.fr with
    | false => exact b1 _
    | true => rw [hV a ha h0 h]; exact Int.le_refl _
  have e3 : sumN n (fun i => bI (U i) * atF Arc.fr gs i) ≤ sumN n (fun i => bI (U i) * atF Arc.fr ar i) := sumN_le fun i hi => by
    cases h : U i with
    | false => show (0 : Int) * _ ≤ 0 * _; rw [Int.zero_mul, Int.zero_mul]; exact Int.le_refl _
    | true =>
      have h1 := hh i hi h
      have h2 := hg.out i hi
      exact Int.mul_le_mul_of_nonneg_left (by omega) (b1 true)
  have e4 : sumN n (fun i => bI (U i) * atF Arc.to_ ar i) < sumN n (fun i => bI (U i) * atF Arc.to_ gs i) := by
    refine sumN_lt (k := k) (fun i hi => ?_) hk ?_
    · rw [hw i hi, hg.in_ i hi]
      have := hl i hi
      exact Int.mul_le_mul_of_nonneg_left (by omega) (b1 _)
    · rw [hw k hk, hg.in_ k hk, hkU]
      show (1 : Int) * _ < 1 * _
      omega
  omega
end Go.Proofs.Ytodcildcipfmcaa
namespace Go.Proofs.Ytodcildcipfmcaa
def farI : Int := 1125899906842624
def dAt (dist : List Int) (i : Nat) : Int := (dist[i]?).getD farI
theorem dAt_set {dist : List Int} {v i : Nat} {x : Int} (hv : v < dist.length) : dAt (dist.set v x) i = if v = i then x else dAt dist i := by
  unfold dAt
  by_cases e : v = i
  · subst e
    rw [if_pos rfl, List.getElem?_set_self hv]; rfl
  · rw [if_neg e, List.getElem?_set_ne e]
/-- Along arc k one gets from u to v at the cost c; b: back along it. -/
def EdgeK (ar : List Arc) (k : Nat) (b : Bool) (u v : Nat) (c : Int) : Prop := ∃ a, ar[k]? = some a ∧ ((b = false ∧ a.fr = u ∧ a.to_ = v ∧ c = a.car) ∨ (b = true ∧ 0 < a.flow ∧ a.to_ = u ∧ a.fr = v ∧ c = -a.car))
abbrev ByK := Option (Nat × Bool)
def ParK (ar : List Arc) (bl : List ByK) (v u : Nat) : Prop := ∃ k b c, bl[v]? = some (some (k, b)) ∧ EdgeK ar k b u v c
inductive PathK (ar : List Arc) (bl : List ByK) : Nat → List Nat → Prop
  | root {i : Nat} : bl[i]? = some none → PathK ar bl i [i]
  | step {i j : Nat} {l : List Nat} : ParK ar bl i j → PathK ar bl j l → PathK ar bl i (i :: l)
theorem EdgeK.det {ar : List Arc} {k : Nat} {b : Bool} {u v u' v' : Nat} {c c' : Int} (h : EdgeK ar k b u v c) (h' : EdgeK ar k b u' v' c') : u = u' ∧ v = v' ∧ c = c' := by
  obtain ⟨a, ha, h⟩ := h
  obtain ⟨a', ha', h'⟩ := h'
  rw [ha] at ha'
  cases ha'
  rcases h with ⟨hb, rfl, rfl, rfl⟩ | ⟨hb, _, rfl, rfl, rfl⟩ <;> rcases h' with ⟨hb', rfl, rfl, rfl⟩ | ⟨hb', _, rfl, rfl, rfl⟩
  · exact ⟨rfl, rfl, rfl⟩
  · rw [hb] at hb'; cases hb'
  · rw [hb] at hb'; cases hb'
  · exact ⟨rfl, rfl, rfl⟩
theorem ParK.det {ar : List Arc} {bl : List ByK} {v u u' : Nat} (h : ParK ar bl v u) (h' : ParK ar bl v u') : u = u' := by
  obtain ⟨k, b, c, h1, h2⟩ := h
  obtain ⟨k', b', c', h1', h2'⟩ := h'
  rw [h1] at h1'
  cases h1'
  exact (h2.det h2').1
theorem PathK.det {ar : List Arc} {bl : List ByK} : ∀ {i : Nat} {l l' : List Nat}, PathK ar bl i l → PathK ar bl i l' → l = l'
  | _, _, _, .root _, .root _ => rfl
  | _, _, _, .root h, .step ⟨k, b, c, h1, _⟩ _ => by rw [h] at h1; cases h1
  | _, _, _, .step ⟨k, b, c, h1, _⟩ _, .root h => by rw [h] at h1; cases h1
  | _, _, _, .step h p, .step h' p' => by
    have e := h.det h'
    subst e
    rw [p.det p']
theorem PathK.part {ar : List Arc} {bl : List ByK} : ∀ {i : Nat} {l : List Nat}, PathK ar bl i l → ∀ {j : Nat}, j ∈ l → ∃ l', PathK ar bl j l' ∧ l'.length ≤ l.length
  | _, _, .root h, j, hj => by
    have e := List.mem_singleton.1 hj
    subst e
    exact ⟨_, .root h, Nat.le_refl _⟩
  | _, _, .step (l := l) h p, j, hj => by
    rcases List.mem_cons.1 hj with rfl | hj
    · exact ⟨_, .step h p, Nat.le_refl _⟩
    · obtain ⟨l', h1, h2⟩ := p.part hj
      exact ⟨l', h1, by rw [List.length_cons]; omega⟩
theorem PathK.fresh {ar : List Arc} {bl : List ByK} {i j : Nat} {l : List Nat} (h : ParK ar bl i j) (p : PathK ar bl j l) : i ∉ l := fun hi => by
  obtain ⟨l', h1, h2⟩ := p.part hi
  have e := h1.det (.step h p)
  rw [e, List.length_cons] at h2
  omega
theorem PathK.nodup {ar : List Arc} {bl : List ByK} : ∀ {i : Nat} {l : List Nat}, PathK ar bl i l → l.Nodup
  | _, _, .root _ => by simp
  | _, _, .step h p => List.nodup_cons.2 ⟨p.fresh h, p.nodup⟩
theorem PathK.lt {ar : List Arc} {bl : List ByK} : ∀ {i : Nat} {l : List Nat}, PathK ar bl i l → ∀ x ∈ l, x < bl.length
  | _, _, .root h, x, hx => by
    have e := List.mem_singleton.1 hx
    subst e
    exact (List.getElem?_eq_some_iff.1 h).1
  | _, _, .step ⟨_, _, _, h, _⟩ p, x, hx => by
    rcases List.mem_cons.1 hx with rfl | hx
    · exact (List.getElem?_eq_some_iff.1 h).1
    · exact p.lt x hx
theorem PathK.head {ar : List Arc} {bl : List ByK} {i : Nat} {l : List Nat} (h : PathK ar bl i l) : i ∈ l := by
  cases h with
  | root _ => exact List.mem_cons_self ..
  | step _ _ => exact List.mem_cons_self ..
theorem nodup_len : ∀ {n : Nat} {l : List Nat}, l.Nodup → (∀ x ∈ l, x < n) → l.length ≤ n
  | 0, l, _, h => by
    cases l with
    | nil => exact Nat.le_refl _
    | cons x r => exact absurd (h x (List.mem_cons_self ..)) (by omega)
  | n + 1, l, hn, h => by
    by_cases hm : n ∈ l
    · have h1 := nodup_len (n := n) (l := l.erase n) (hn.erase n) fun x hx => by
        have h2 := (hn.mem_erase_iff).1 hx
        have h3 := h x h2.2
        have h4 := h2.1
        omega
      rw [List.length_erase_of_mem hm] at h1
      omega
    · have h1 := nodup_len (n := n) hn fun x hx => by
        have h3 := h x hx
        have h4 : x ≠ n := fun e => hm (e ▸ hx)
        omega
      omega
/-- A way that does not meet v is there still when v's entry turns. -/
theorem PathK.keep {ar : List Arc} {bl : List ByK} {v : Nat} {x : ByK} : ∀ {i : Nat} {l : List Nat}, PathK ar bl i l → v ∉ l → PathK ar (bl.set v x) i l
  | _, _, .root h, hv => .root (by rw [List.getElem?_set_ne (fun e => hv (by rw [e]; exact List.mem_cons_self ..))]; exact h)
  | _, _, .step ⟨k, b, c, h1, h2⟩ p, hv => .step ⟨k, b, c, by rw [List.getElem?_set_ne (fun e => hv (by rw [e]; exact List.mem_cons_self ..))]; exact h1, h2⟩ (p.keep fun hm => hv (List.mem_cons_of_mem _ hm))
theorem PathK.turn {ar : List Arc} {bl : List ByK} {v : Nat} {x : ByK} {lv : List Nat} (hv : PathK ar (bl.set v x) v lv) : ∀ {i : Nat} {l : List Nat}, PathK ar bl i l → ∃ l', PathK ar (bl.set v x) i l'
  | i, _, .root h => by
    by_cases e : v = i
    · subst e; exact ⟨_, hv⟩
    · exact ⟨_, .root (by rw [List.getElem?_set_ne e]; exact h)⟩
  | i, _, .step ⟨k, b, c, h1, h2⟩ p => by
    by_cases e : v = i
    · subst e; exact ⟨_, hv⟩
    · obtain ⟨l', hl'⟩ := PathK.turn hv p
      exact ⟨_, .step ⟨k, b, c, by rw [List.getElem?_set_ne e]; exact h1, h2⟩ hl'⟩
/-- What the search for the cheapest ways keeps. -/
structure Ways (ar : List Arc) (left : Nat → Int) (n : Nat) (p : Nat → Int) (dist : List Int) (bl : List ByK) : Prop where
  ld : dist.length = n
  lb : bl.length = n
  root : ∀ i, bl[i]? = some none → (dAt dist i = farI ∧ left i ≤ 0) ∨ (dAt dist i = 0 ∧ 0 < left i)
  edge : ∀ v k b, bl[v]? = some (some (k, b)) → ∃ u c, EdgeK ar k b u v c ∧ dAt dist u < farI ∧ dAt dist u + c ≤ dAt dist v ∧ dAt dist v < farI
  low : ∀ i, dAt dist i < farI → p i ≤ dAt dist i
  top : ∀ i, dAt dist i ≤ farI
  src : ∀ i, 0 < left i → dAt dist i ≤ 0
  path : ∀ i, dAt dist i < farI → ∃ l, PathK ar bl i l
theorem Pot.edge {ar : List Arc} {left p : Nat → Int} (hp : Pot ar left p) {k : Nat} {b : Bool} {u v : Nat} {c : Int} (h : EdgeK ar k b u v c) : p v ≤ p u + c := by
  obtain ⟨a, ha, h⟩ := h
  have hm := List.mem_of_getElem? ha
  rcases h with ⟨_, rfl, rfl, rfl⟩ | ⟨_, h0, rfl, rfl, rfl⟩
  · exact hp.le a hm
  · have := hp.eq a hm h0; omega
section
variable {ar : List Arc} {left p : Nat → Int} {n : Nat} {dist : List Int} {bl : List ByK}
theorem Ways.par (hw : Ways ar left n p dist bl) {i j : Nat} (h : ParK ar bl i j) : ∃ k b c, bl[i]? = some (some (k, b)) ∧ EdgeK ar k b j i c ∧ dAt dist j < farI ∧ dAt dist j + c ≤ dAt dist i ∧ dAt dist i < farI := by
  obtain ⟨k, b, c, h1, h2⟩ := h
  obtain ⟨u, c', h3, h4, h5, h6⟩ := hw.edge i k b h1
  obtain ⟨rfl, _, rfl⟩ := h2.det h3
  exact ⟨k, b, c, h1, h2, h4, h5, h6⟩
/-- Along a way the distance above the prices does not rise towards its root. -/
theorem Ways.along (hw : Ways ar left n p dist bl) (hp : Pot ar left p) : ∀ {i : Nat} {l : List Nat}, PathK ar bl i l → dAt dist i < farI → ∀ j ∈ l, dAt dist j - p j ≤ dAt dist i - p i ∧ dAt dist j < farI
  | _, _, .root _, hi, j, hj => by
    have e := List.mem_singleton.1 hj
    subst e
    exact ⟨Int.le_refl _, hi⟩
  | i, _, .step (j := u) h q, hi, j, hj => by
    rcases List.mem_cons.1 hj with rfl | hj
    · exact ⟨Int.le_refl _, hi⟩
    · obtain ⟨k, b, c, _, h2, h3, h4, _⟩ := hw.par h
      have h5 := hp.edge h2
      obtain ⟨h6, h7⟩ := hw.along hp q h3 j hj
      exact ⟨by omega, h7⟩
theorem Ways.relax (hw : Ways ar left n p dist bl) (hp : Pot ar left p) {k : Nat} {b : Bool} {u v : Nat} {c : Int} (he : EdgeK ar k b u v c) (hu : dAt dist u < farI) (hl : dAt dist u + c < dAt dist v) (hv : v < n) :
    Ways ar left n p (dist.set v (dAt dist u + c)) (bl.set v (some (k, b))) := by
  have hd : ∀ i, dAt (dist.set v (dAt dist u + c)) i = if v = i then dAt dist u + c else dAt dist i := fun i => dAt_set (by rw [hw.ld]; exact hv)
  have hpe := hp.edge he
  have huv : u ≠ v := fun e => by subst e; omega
  have htop := hw.top v
  have hnew : PathK ar (bl.set v (some (k, b))) v (v :: (hw.path u hu).choose) := by
    have hq := (hw.path u hu).choose_spec
    refine .step ⟨k, b, c, List.getElem?_set_self (by rw [hw.lb]; exact hv), he⟩ (hq.keep fun hm => ?_)
    have h1 := (hw.along hp hq hu v hm).1
    omega
  refine ⟨by rw [List.length_set]; exact hw.ld, by rw [List.length_set]; exact hw.lb, fun i hi => ?_, fun x k' b' hx => ?_, fun i hi => ?_, fun i => ?_, fun i hi => ?_, fun i hi => ?_⟩
  · have hiv : v ≠ i := fun e => by
      subst e
      rw [List.getElem?_set_self (by rw [hw.lb]; exact hv)] at hi
      cases hi
    rw [List.getElem?_set_ne hiv] at hi
    rw [hd, if_neg hiv]
    exact hw.root i hi
  · by_cases e : v = x
    · subst e
      rw [List.getElem?_set_self (by rw [hw.lb]; exact hv)] at hx
      cases hx
      refine ⟨u, c, he, ?_, ?_, ?_⟩
      · rw [hd, if_neg (fun e => huv e.symm)]; exact hu
      · rw [hd, hd, if_neg (fun e => huv e.symm), if_pos rfl]; exact Int.le_refl _
      · rw [hd, if_pos rfl]; omega
    · rw [List.getElem?_set_ne e] at hx
      obtain ⟨u', c', h1, h2, h3, h4⟩ := hw.edge x k' b' hx
      refine ⟨u', c', h1, ?_, ?_, ?_⟩
      · rw [hd]; split <;> omega
      · rw [hd, hd, if_neg e]
        split
        · rename_i e2
          subst e2
          omega
        · exact h3
      · rw [hd, if_neg e]; exact h4
  · rw [hd] at hi ⊢
    by_cases e : v = i
    · subst e
      rw [if_pos rfl]
      have := hw.low u hu
      omega
    · rw [if_neg e] at hi ⊢
      exact hw.low i hi
  · rw [hd]
    split
    · omega
    · exact hw.top i
  · have h1 := hw.src i hi
    rw [hd]
    split
    · rename_i e
      subst e
      omega
    · exact h1
  · rw [hd] at hi
    by_cases e : v = i
    · subst e; exact ⟨_, hnew⟩
    · rw [if_neg e] at hi
      obtain ⟨l, h⟩ := hw.path i hi
      exact PathK.turn hnew h
/-- No distance is far below 0. -/
theorem Ways.low_path {M : Int} (hw : Ways ar left n p dist bl) (hM : ∀ a ∈ ar, 0 ≤ a.car ∧ a.car ≤ M) : ∀ {i : Nat} {l : List Nat}, PathK ar bl i l → dAt dist i < farI → -(M * ((l.length : Int) - 1)) ≤ dAt dist i
  | i, _, .root h, hi => by
    rcases hw.root i h with ⟨h1, _⟩ | ⟨h1, _⟩
    · omega
    · rw [h1]; simp
  | i, _, .step (j := u) (l := l) h q, _ => by
    obtain ⟨k, b, c, _, ⟨a, ha, h2⟩, h3, h4, _⟩ := hw.par h
    have h5 := hM a (List.mem_of_getElem? ha)
    have h6 := hw.low_path hM q h3
    have h7 : -M ≤ c := by
      rcases h2 with ⟨_, _, _, rfl⟩ | ⟨_, _, _, _, rfl⟩ <;> omega
    have e : M * (((i :: l).length : Int) - 1) = M * ((l.length : Int) - 1) + M := by
      rw [List.length_cons, show ((l.length + 1 : Nat) : Int) - 1 = ((l.length : Int) - 1) + 1 by omega, Int.mul_add, Int.mul_one]
    omega
theorem Ways.bound {M : Int} (hw : Ways ar left n p dist bl) (hM : ∀ a ∈ ar, 0 ≤ a.car ∧ a.car ≤ M) (h0 : 0 ≤ M) {i : Nat} (hi : dAt dist i < farI) : -(M * n) ≤ dAt dist i := by
  obtain ⟨l, hl⟩ := hw.path i hi
  have h1 := hw.low_path hM hl hi
  have h2 := nodup_len hl.nodup hl.lt
  rw [hw.lb] at h2
  have h3 : M * ((l.length : Int) - 1) ≤ M * (n : Int) := Int.mul_le_mul_of_nonneg_left (by omega) h0
  omega
/-- Nothing can be bettered. -/
def Closed2 (ar : List Arc) (dist : List Int) : Prop := ∀ k b u v c, EdgeK ar k b u v c → dAt dist u < farI → dAt dist v ≤ dAt dist u + c
theorem Ways.high_path {M : Int} (hw : Ways ar left n p dist bl) (hc : Closed2 ar dist) (hM : ∀ a ∈ ar, 0 ≤ a.car ∧ a.car ≤ M) : ∀ {i : Nat} {l : List Nat}, PathK ar bl i l → dAt dist i < farI → dAt dist i ≤ M * ((l.length : Int) - 1)
  | i, _, .root h, hi => by
    rcases hw.root i h with ⟨h1, _⟩ | ⟨h1, _⟩
    · omega
    · rw [h1]; simp
  | i, _, .step (j := u) (l := l) h q, _ => by
    obtain ⟨k, b, c, _, h0, h3, _, _⟩ := hw.par h
    have h4 := hc k b u i c h0 h3
    obtain ⟨a, ha, h2⟩ := h0
    have h5 := hM a (List.mem_of_getElem? ha)
    have h6 := hw.high_path hc hM q h3
    have h7 : c ≤ M := by
      rcases h2 with ⟨_, _, _, rfl⟩ | ⟨_, _, _, _, rfl⟩ <;> omega
    have e : M * (((i :: l).length : Int) - 1) = M * ((l.length : Int) - 1) + M := by
      rw [List.length_cons, show ((l.length + 1 : Nat) : Int) - 1 = ((l.length : Int) - 1) + 1 by omega, Int.mul_add, Int.mul_one]
    omega
theorem Ways.high {M : Int} (hw : Ways ar left n p dist bl) (hc : Closed2 ar dist) (hM : ∀ a ∈ ar, 0 ≤ a.car ∧ a.car ≤ M) (h0 : 0 ≤ M) {i : Nat} (hi : dAt dist i < farI) : dAt dist i ≤ M * n := by
  obtain ⟨l, hl⟩ := hw.path i hi
  have h1 := hw.high_path hc hM hl hi
  have h2 := nodup_len hl.nodup hl.lt
  rw [hw.lb] at h2
  have h3 : M * ((l.length : Int) - 1) ≤ M * (n : Int) := Int.mul_le_mul_of_nonneg_left (by omega) h0
  omega
theorem above : ∀ (l : List Int), ∃ C, 0 ≤ C ∧ ∀ x ∈ l, x ≤ C
  | [] => ⟨0, Int.le_refl _, fun _ h => by cases h⟩
  | x :: r => by
    obtain ⟨C, h0, h⟩ := above r
    refine ⟨max x C, by omega, fun y hy => ?_⟩
    rcases List.mem_cons.1 hy with rfl | hy
    · omega
    · have := h y hy; omega
/-- One gets on from what is reached. -/
theorem Ways.on {M : Int} (hw : Ways ar left n p dist bl) (hc : Closed2 ar dist) (hM : ∀ a ∈ ar, 0 ≤ a.car ∧ a.car ≤ M) (h0 : 0 ≤ M) (hf : M * n + M < farI) {k : Nat} {b : Bool} {u v : Nat} {c : Int} (he : EdgeK ar k b u v c) (hu : dAt dist u < farI) : dAt dist v < farI := by
  have h1 := hc k b u v c he hu
  have h2 := hw.high hc hM h0 hu
  obtain ⟨a, ha, h3⟩ := he
  have h5 := hM a (List.mem_of_getElem? ha)
  have h7 : c ≤ M := by
    rcases h3 with ⟨_, _, _, rfl⟩ | ⟨_, _, _, _, rfl⟩ <;> omega
  omega
/-- The distances are prices again. -/
theorem Ways.newPot {M : Int} (hw : Ways ar left n p dist bl) (hp : Pot ar left p) (hc : Closed2 ar dist) (hM : ∀ a ∈ ar, 0 ≤ a.car ∧ a.car ≤ M) (h0 : 0 ≤ M) (hf : M * n + M < farI) : ∃ p', Pot ar left p' ∧ ∀ i, dAt dist i < farI → p' i = dAt dist i := by
  obtain ⟨C, hC0, hC⟩ := above (ar.map fun a => dAt dist a.to_ - p a.fr - a.car)
  have fw : ∀ a ∈ ar, dAt dist a.fr < farI → dAt dist a.to_ < farI ∧ dAt dist a.to_ ≤ dAt dist a.fr + a.car := fun a ha h => by
    obtain ⟨k, hk⟩ := List.getElem?_of_mem ha
    have he : EdgeK ar k false a.fr a.to_ a.car := ⟨a, hk, .inl ⟨rfl, rfl, rfl, rfl⟩⟩
    exact ⟨hw.on hc hM h0 hf he h, hc _ _ _ _ _ he h⟩
  have bw : ∀ a ∈ ar, 0 < a.flow → dAt dist a.to_ < farI → dAt dist a.fr < farI ∧ dAt dist a.fr ≤ dAt dist a.to_ + -a.car := fun a ha hfl h => by
    obtain ⟨k, hk⟩ := List.getElem?_of_mem ha
    have he : EdgeK ar k true a.to_ a.fr (-a.car) := ⟨a, hk, .inr ⟨rfl, hfl, rfl, rfl, rfl⟩⟩
    exact ⟨hw.on hc hM h0 hf he h, hc _ _ _ _ _ he h⟩
  refine ⟨fun i => if dAt dist i < farI then dAt dist i else p i + C, ⟨fun a ha => ?_, fun a ha hfl => ?_, fun i hi => ?_, fun i hi => ?_⟩, fun i hi => if_pos hi⟩
  · by_cases h1 : dAt dist a.fr < farI
    · obtain ⟨h2, h3⟩ := fw a ha h1
      rw [if_pos h1, if_pos h2]; exact h3
    · rw [if_neg h1]
      by_cases h2 : dAt dist a.to_ < farI
      · rw [if_pos h2]
        have := hC _ (List.mem_map.2 ⟨a, ha, rfl⟩)
        omega
      · rw [if_neg h2]
        have := hp.le a ha
        omega
  · by_cases h2 : dAt dist a.to_ < farI
    · obtain ⟨h1, h3⟩ := bw a ha hfl h2
      rw [if_pos h1, if_pos h2]; omega
    · have h1 : ¬ dAt dist a.fr < farI := fun h => h2 (fw a ha h).1
      rw [if_neg h1, if_neg h2]
      have := hp.eq a ha hfl
      omega
  · have h1 := hw.src i hi
    have e : farI = 1125899906842624 := rfl
    rw [if_pos (by omega)]; exact h1
  · have h1 := hp.out i hi
    split
    · rename_i h2
      have := hw.low i h2
      omega
    · omega
end
end Go.Proofs.Ytodcildcipfmcaa
namespace Go.Proofs.Ytodcildcipfmcaa
theorem atF_ge {sel : Arc → Nat} : ∀ {ar : List Arc}, (∀ a ∈ ar, 0 ≤ a.flow) → ∀ {a : Arc}, a ∈ ar → a.flow ≤ atF sel ar (sel a)
  | [], _, a, h => by cases h
  | b :: r, h0, a, h => by
    have h1 := h0 b (List.mem_cons_self ..)
    have h2 : ∀ i, 0 ≤ atF sel r i := fun i => atF_nonneg fun c hc => h0 c (List.mem_cons_of_mem _ hc)
    show a.flow ≤ (if sel b = sel a then b.flow else 0) + atF sel r (sel a)
    rcases List.mem_cons.1 h with rfl | h
    · rw [if_pos rfl]
      have := h2 (sel a)
      omega
    · have h3 := atF_ge (sel := sel) (fun c hc => h0 c (List.mem_cons_of_mem b hc)) h
      split <;> omega
/-- What goes, what is left, what lacks. -/
structure Flw (n : Nat) (M : Int) (P : Nat → Bool) (have_ want left lack : Nat → Int) (ar : List Arc) : Prop where
  arc : ∀ a ∈ ar, (a.fr < n ∧ a.to_ < n) ∧ (P a.fr = true ∧ P a.to_ = false) ∧ 0 ≤ a.car ∧ a.car ≤ M
  pos : ∀ a ∈ ar, 0 ≤ a.flow
  src : ∀ i, P i = true → want i = 0 ∧ lack i = 0
  snk : ∀ i, P i = false → have_ i = 0 ∧ left i = 0
  lf : ∀ i, 0 ≤ left i
  lk : ∀ i, 0 ≤ lack i
  bal : ∀ i, atF Arc.fr ar i - atF Arc.to_ ar i = (have_ i - left i) - (want i - lack i)
section
variable {n : Nat} {M : Int} {P : Nat → Bool} {have_ want left lack : Nat → Int} {ar : List Arc}
theorem Flw.out (h : Flw n M P have_ want left lack ar) (i : Nat) : left i = have_ i - atF Arc.fr ar i := by
  have hb := h.bal i
  cases hp : P i with
  | true =>
    have h1 := h.src i hp
    have h2 : atF Arc.to_ ar i = 0 := atF_none fun a ha e => by
      have := (h.arc a ha).2.1.2
      rw [e, hp] at this; cases this
    omega
  | false =>
    have h1 := h.snk i hp
    have h2 : atF Arc.fr ar i = 0 := atF_none fun a ha e => by
      have := (h.arc a ha).2.1.1
      rw [e, hp] at this; cases this
    omega
theorem Flw.in_ (h : Flw n M P have_ want left lack ar) (i : Nat) : atF Arc.to_ ar i = want i - lack i := by
  have hb := h.bal i
  have ho := h.out i
  omega
theorem Flw.car (h : Flw n M P have_ want left lack ar) : ∀ a ∈ ar, 0 ≤ a.car ∧ a.car ≤ M := fun a ha => (h.arc a ha).2.2
/-- More goes along a way, up to a place. -/
structure Aug (ar bs : List Arc) (p : Nat → Int) (dist : List Int) (bl : List ByK) (many : Int) (dst at_ : Nat) (l : List Nat) : Prop where
  same : SameA ar bs
  pos : ∀ b ∈ bs, 0 ≤ b.flow
  tight : ∀ b ∈ bs, 0 < b.flow → p b.fr + b.car ≤ p b.to_
  bal : ∀ i, atF Arc.fr bs i - atF Arc.to_ bs i = (atF Arc.fr ar i - atF Arc.to_ ar i) + (if at_ = i then many else 0) - (if dst = i then many else 0)
  cost : costF bs = costF ar + many * (dAt dist dst - dAt dist at_)
  way : PathK ar bl at_ l
  rest : ∀ x ∈ l, ∀ k, bl[x]? = some (some (k, true)) → ∃ b, bs[k]? = some b ∧ many ≤ b.flow
  out : ∀ i, 0 < atF Arc.fr bs i → 0 ≤ p i
  hit : dAt dist at_ < farI
variable {p p0 : Nat → Int} {dist : List Int} {bl : List ByK}
theorem Aug.start (hf : Flw n M P have_ want left lack ar) (hp : Pot ar left p) {many : Int} {dst : Nat} {l : List Nat} (hl : PathK ar bl dst l) (hd : dAt dist dst < farI) (hr : ∀ x ∈ l, ∀ k, bl[x]? = some (some (k, true)) → ∃ b, ar[k]? = some b ∧ many ≤ b.flow) : Aug ar ar p dist bl many dst dst l :=
  ⟨SameA.refl ar, hf.pos, hp.eq, fun i => by omega, by rw [Int.sub_self, Int.mul_zero, Int.add_zero], hl, hr, hp.out, hd⟩
theorem Aug.step {bs : List Arc} {many : Int} {dst at_ : Nat} {l : List Nat} (h : Aug ar bs p dist bl many dst at_ l) (hf : Flw n M P have_ want left lack ar) (hw : Ways ar left n p0 dist bl) (hc : Closed2 ar dist) (hp : Pot ar left p) (hpd : ∀ i, dAt dist i < farI → p i = dAt dist i) (hm : 0 < many) {k : Nat} {b : Bool} (hk : bl[at_]? = some (some (k, b))) :
    ∃ a u l', ar[k]? = some a ∧ (b = false → u = a.fr) ∧ (b = true → u = a.to_) ∧ l = at_ :: l' ∧ u < n ∧ Aug ar (addF bs k (if b = true then -many else many)) p dist bl many dst u l' := by
  obtain ⟨u, c, he, hu, h3, h4⟩ := hw.edge at_ k b hk
  have hcl := hc k b u at_ c he hu
  have hdu : dAt dist at_ = dAt dist u + c := by omega
  have hpu := hpd u hu
  have hpa := hpd at_ h4
  obtain ⟨a, ha, hab⟩ := he
  have ham := List.mem_of_getElem? ha
  obtain ⟨x, hx, x1, x2, x3⟩ := h.same.get ha
  have hxm := List.mem_of_getElem? hx
  have harc := hf.arc a ham
  obtain ⟨l', hl', hql⟩ : ∃ l', l = at_ :: l' ∧ PathK ar bl u l' := by
    have hw2 := h.way
    cases hw2 with
    | root hn => rw [hk] at hn; cases hn
    | step hpar q =>
      have e := hpar.det (⟨k, b, c, hk, a, ha, hab⟩ : ParK ar bl at_ u)
      subst e
      exact ⟨_, rfl, q⟩
  have hfresh : at_ ∉ l' := PathK.fresh (⟨k, b, c, hk, a, ha, hab⟩ : ParK ar bl at_ u) hql
  have hsame : SameA ar (addF bs k (if b = true then -many else many)) := h.same.trans (addF_same bs k _)
  have hget : ∀ j, (addF bs k (if b = true then -many else many))[j]? = if k = j then some { x with flow := x.flow + (if b = true then -many else many) } else bs[j]? := fun j => addF_get hx
  have hmem : ∀ y ∈ addF bs k (if b = true then -many else many), y = { x with flow := x.flow + (if b = true then -many else many) } ∨ y ∈ bs := fun y hy => by
    obtain ⟨j, hj⟩ := List.getElem?_of_mem hy
    rw [hget] at hj
    split at hj
    · cases hj; exact .inl rfl
    · exact .inr (List.mem_of_getElem? hj)
  have hx0 := h.pos x hxm
  have hup : u < n := by
    rcases hab with ⟨_, rfl, _, _⟩ | ⟨_, _, rfl, _, _⟩
    · exact harc.1.1
    · exact harc.1.2
  have hrest : ∀ y ∈ l', ∀ k', bl[y]? = some (some (k', true)) → ∃ b', (addF bs k (if b = true then -many else many))[k']? = some b' ∧ many ≤ b'.flow := fun y hy k' hk' => by
    obtain ⟨b', hb', hb'm⟩ := h.rest y (by rw [hl']; exact List.mem_cons_of_mem _ hy) k' hk'
    rw [hget]
    by_cases e : k = k'
    · subst e
      rw [if_pos rfl]
      rw [hx] at hb'
      cases hb'
      cases hbb : b with
      | false => exact ⟨_, rfl, by show many ≤ x.flow + many; omega⟩
      | true =>
        subst hbb
        obtain ⟨u', c', ⟨a', ha', hab'⟩, _⟩ := hw.edge y k true hk'
        rw [ha] at ha'
        cases ha'
        rcases hab' with ⟨hb2, _⟩ | ⟨_, _, _, e2, _⟩
        · cases hb2
        · rcases hab with ⟨hb2, _⟩ | ⟨_, _, _, e3, _⟩
          · cases hb2
          · exact absurd hy (by rw [← e2, e3]; exact hfresh)
    · rw [if_neg e]
      exact ⟨b', hb', hb'm⟩
  refine ⟨a, u, l', ha, ?_, ?_, hl', hup, hsame, fun y hy => ?_, fun y hy h0 => ?_, fun i => ?_, ?_, hql, hrest, fun i hi => ?_, hu⟩
  · rintro rfl
    rcases hab with ⟨_, e, _, _⟩ | ⟨hb, _⟩
    · exact e.symm
    · cases hb
  · rintro rfl
    rcases hab with ⟨hb, _⟩ | ⟨_, _, e, _, _⟩
    · cases hb
    · exact e.symm
  · rcases hmem y hy with rfl | hy
    · show 0 ≤ x.flow + (if b = true then -many else many)
      cases hbb : b with
      | false => rw [if_neg (by decide)]; omega
      | true =>
        subst hbb
        obtain ⟨b', hb', hb'm⟩ := h.rest at_ (by rw [hl']; exact List.mem_cons_self ..) k hk
        rw [hx] at hb'
        cases hb'
        rw [if_pos rfl]; omega
    · exact h.pos y hy
  · rcases hmem y hy with rfl | hy
    · show p x.fr + x.car ≤ p x.to_
      rw [← x1, ← x2, ← x3]
      rcases hab with ⟨_, rfl, rfl, rfl⟩ | ⟨_, h0', rfl, rfl, rfl⟩
      · omega
      · exact hp.eq a ham h0'
    · exact h.tight y hy h0
  · rw [atF_add (sel := Arc.fr) (fun _ _ => rfl) hx, atF_add (sel := Arc.to_) (fun _ _ => rfl) hx, ← x1, ← x2]
    have hb0 := h.bal i
    rcases hab with ⟨rfl, rfl, rfl, rfl⟩ | ⟨rfl, h0', rfl, rfl, rfl⟩
    · rw [if_neg (show ¬ (false = true) by decide)]
      repeat' split
      all_goals (repeat' split at hb0)
      all_goals first | omega | contradiction
    · rw [if_pos (show (true = true) from rfl)]
      repeat' split
      all_goals (repeat' split at hb0)
      all_goals first | omega | contradiction
  · rw [costF_add hx, h.cost, ← x3, Int.add_assoc]
    congr 1
    have e : dAt dist dst - dAt dist u = (dAt dist dst - dAt dist at_) + c := by omega
    rw [e, Int.mul_add]
    congr 1
    rcases hab with ⟨rfl, rfl, rfl, rfl⟩ | ⟨rfl, h0', rfl, rfl, rfl⟩
    · rw [if_neg (show ¬ (false = true) by decide)]
    · rw [if_pos (show (true = true) from rfl), Int.neg_mul, Int.mul_neg]
  · rw [atF_add (sel := Arc.fr) (fun _ _ => rfl) hx, ← x1] at hi
    by_cases hi0 : 0 < atF Arc.fr bs i
    · exact h.out i hi0
    · rcases hab with ⟨rfl, rfl, hto, rfl⟩ | ⟨rfl, h0', rfl, rfl, rfl⟩
      · by_cases e : a.fr = i
        · subst e
          rw [hpu]
          cases hr : bl[a.fr]? with
          | none =>
            have := (List.getElem?_eq_none_iff.1 hr)
            rw [hw.lb] at this
            omega
          | some z =>
            cases z with
            | none =>
              rcases hw.root a.fr hr with ⟨h5, _⟩ | ⟨h5, _⟩
              · omega
              · omega
            | some z =>
              obtain ⟨k2, b2⟩ := z
              obtain ⟨u2, c2, ⟨a2, ha2, hab2⟩, _⟩ := hw.edge a.fr k2 b2 hr
              have ha2m := List.mem_of_getElem? ha2
              rcases hab2 with ⟨_, _, e2, _⟩ | ⟨_, h6, _, e2, _⟩
              · have h7 := (hf.arc a2 ha2m).2.1.2
                have h8 := harc.2.1.1
                rw [e2, h8] at h7; cases h7
              · have h7 := atF_ge (sel := Arc.fr) hf.pos ha2m
                rw [e2] at h7
                have h8 := hp.out a.fr (by omega)
                omega
        · rw [if_neg e] at hi; omega
      · rw [if_pos (show (true = true) from rfl)] at hi
        split at hi <;> omega
/-- .. to the way's root. -/
theorem Aug.done {bs : List Arc} {many : Int} {dst r : Nat} {l : List Nat} (h : Aug ar bs p dist bl many dst r l) (hf : Flw n M P have_ want left lack ar) (hw : Ways ar left n p0 dist bl) (hp : Pot ar left p) (hk : bl[r]? = some none) (hm : 0 < many) (h1 : many ≤ left r) (h2 : many ≤ lack dst) :
    Flw n M P have_ want (fun i => left i - (if r = i then many else 0)) (fun i => lack i - (if dst = i then many else 0)) bs ∧ Pot bs (fun i => left i - (if r = i then many else 0)) p ∧ costF bs = costF ar + many * dAt dist dst := by
  have hr : dAt dist r = 0 := by
    have := h.hit
    rcases hw.root r hk with ⟨h5, _⟩ | ⟨h5, _⟩ <;> omega
  refine ⟨⟨h.same.all (p := fun i j c => (i < n ∧ j < n) ∧ (P i = true ∧ P j = false) ∧ 0 ≤ c ∧ c ≤ M) hf.arc, h.pos, fun i hi => ?_, fun i hi => ?_, fun i => ?_, fun i => ?_, fun i => ?_⟩, ⟨h.same.all (p := fun i j c => p j ≤ p i + c) hp.le, h.tight, fun i hi => ?_, h.out⟩, ?_⟩
  · have h3 := hf.src i hi
    refine ⟨h3.1, ?_⟩
    rw [if_neg (fun e => by subst e; omega)]; omega
  · have h3 := hf.snk i hi
    refine ⟨h3.1, ?_⟩
    rw [if_neg (fun e => by subst e; omega)]; omega
  · have h3 := hf.lf i
    split
    · rename_i e
      subst e
      omega
    · omega
  · have h3 := hf.lk i
    split
    · rename_i e
      subst e
      omega
    · omega
  · have h3 := h.bal i
    have h4 := hf.bal i
    omega
  · refine hp.left i ?_
    split at hi <;> omega
  · rw [h.cost, hr, Int.sub_zero]
/-- At the start of the search. -/
theorem Ways.init {left : Nat → Int} (hp : Pot ar left p) (hl : dist.length = n) (hd : ∀ i, i < n → dAt dist i = if 0 < left i then 0 else farI) (hb : bl = List.replicate n none) (hout : ∀ i, n ≤ i → left i ≤ 0) : Ways ar left n p dist bl := by
  have e : farI = 1125899906842624 := rfl
  have hout2 : ∀ i, n ≤ i → dAt dist i = farI := fun i hi => by
    unfold dAt
    rw [List.getElem?_eq_none (by omega)]; rfl
  have hbl : ∀ i, i < n → bl[i]? = some none := fun i hi => by rw [hb, List.getElem?_replicate, if_pos hi]
  have hno : ∀ i z, bl[i]? = some (some z) → False := fun i z h => by
    rw [hb, List.getElem?_replicate] at h
    split at h <;> cases h
  have hcase : ∀ i, (dAt dist i = farI ∧ left i ≤ 0) ∨ (dAt dist i = 0 ∧ 0 < left i ∧ i < n) := fun i => by
    rcases Nat.lt_or_ge i n with hi | hi
    · rw [hd i hi]
      by_cases h : 0 < left i
      · rw [if_pos h]; exact .inr ⟨rfl, h, hi⟩
      · rw [if_neg h]; exact .inl ⟨rfl, by omega⟩
    · exact .inl ⟨hout2 i hi, hout i hi⟩
  refine ⟨hl, by rw [hb, List.length_replicate], fun i _ => ?_, fun v k b h => (hno v _ h).elim, fun i hi => ?_, fun i => ?_, fun i hi => ?_, fun i hi => ?_⟩
  · rcases hcase i with h | ⟨h1, h2, _⟩
    · exact .inl h
    · exact .inr ⟨h1, h2⟩
  · rcases hcase i with ⟨h1, _⟩ | ⟨h1, h2, _⟩
    · omega
    · rw [h1]; exact hp.left i h2
  · rcases hcase i with ⟨h1, _⟩ | ⟨h1, _, _⟩ <;> omega
  · rcases hcase i with ⟨_, h1⟩ | ⟨h1, _, _⟩ <;> omega
  · rcases hcase i with ⟨h1, _⟩ | ⟨_, _, h1⟩
    · omega
    · exact ⟨_, .root (hbl i h1)⟩
/-- How much can go along a way, so far. -/
structure Fnd (ar : List Arc) (bl : List ByK) (dist : List Int) (L0 : List Nat) (cap m : Int) (at_ : Nat) (l : List Nat) : Prop where
  pos : 0 < m
  le : m ≤ cap
  way : PathK ar bl at_ l
  hit : dAt dist at_ < farI
  seen : ∀ x ∈ L0, x ∉ l → ∀ k, bl[x]? = some (some (k, true)) → ∃ a, ar[k]? = some a ∧ m ≤ a.flow
theorem Fnd.step {left : Nat → Int} {L0 : List Nat} {cap m : Int} {at_ : Nat} {l : List Nat} (h : Fnd ar bl dist L0 cap m at_ l) (hw : Ways ar left n p0 dist bl) {k : Nat} {b : Bool} (hk : bl[at_]? = some (some (k, b))) :
    ∃ a u l', ar[k]? = some a ∧ (b = false → u = a.fr) ∧ (b = true → u = a.to_) ∧ l = at_ :: l' ∧ Fnd ar bl dist L0 cap (if b = true then min m a.flow else m) u l' := by
  obtain ⟨u, c, he, hu, _, _⟩ := hw.edge at_ k b hk
  obtain ⟨a, ha, hab⟩ := he
  obtain ⟨l', hl', hql⟩ : ∃ l', l = at_ :: l' ∧ PathK ar bl u l' := by
    have hw2 := h.way
    cases hw2 with
    | root hn => rw [hk] at hn; cases hn
    | step hpar q =>
      have e := hpar.det (⟨k, b, c, hk, a, ha, hab⟩ : ParK ar bl at_ u)
      subst e
      exact ⟨_, rfl, q⟩
  have hpos := h.pos
  have hle := h.le
  have hfl : b = true → 0 < a.flow := fun hb => by
    rcases hab with ⟨h2, _⟩ | ⟨_, h2, _⟩
    · rw [hb] at h2; cases h2
    · exact h2
  refine ⟨a, u, l', ha, ?_, ?_, hl', ?_, ?_, hql, hu, fun x hx hxl k' hk' => ?_⟩
  · rintro rfl
    rcases hab with ⟨_, e, _, _⟩ | ⟨hb, _⟩
    · exact e.symm
    · cases hb
  · rintro rfl
    rcases hab with ⟨hb, _⟩ | ⟨_, _, e, _, _⟩
    · cases hb
    · exact e.symm
  · split
    · rename_i hb
      have := hfl hb
      omega
    · exact hpos
  · split <;> omega
  · have hmm : (if b = true then min m a.flow else m) ≤ m := by split <;> omega
    by_cases e : x = at_
    · subst e
      rw [hk] at hk'
      cases hk'
      refine ⟨a, ha, ?_⟩
      rw [if_pos rfl]; omega
    · obtain ⟨a', h1, h2⟩ := h.seen x hx (fun hm => by
        rw [hl'] at hm
        rcases List.mem_cons.1 hm with h3 | h3
        · exact e h3
        · exact hxl h3) k' hk'
      exact ⟨a', h1, by omega⟩
theorem Fnd.done {L0 : List Nat} {cap m many : Int} {r : Nat} {l : List Nat} (h : Fnd ar bl dist L0 cap m r l) (hk : bl[r]? = some none) (hm : many ≤ m) : ∀ x ∈ L0, ∀ k, bl[x]? = some (some (k, true)) → ∃ b, ar[k]? = some b ∧ many ≤ b.flow := fun x hx k hxk => by
  have hw := h.way
  cases hw with
  | root _ =>
    obtain ⟨a, h1, h2⟩ := h.seen x hx (fun e => by
      rw [List.mem_singleton.1 e, hk] at hxk
      cases hxk) k hxk
    exact ⟨a, h1, by omega⟩
  | step hpar _ =>
    obtain ⟨_, _, _, h1, _⟩ := hpar
    rw [hk] at h1; cases h1
/-- Solving ends with flows of least cost, or there are none. -/
structure Solves (n : Nat) (have_ want : Nat → Int) (ar : List Arc) (r : Int) (ok : Bool) : Prop where
  yes : ok = true → (∃ gs, SameA ar gs ∧ Feas n have_ want gs ∧ costF gs = r) ∧ ∀ gs, SameA ar gs → Feas n have_ want gs → r ≤ costF gs
  no : ok = false → ∀ gs, SameA ar gs → ¬ Feas n have_ want gs
theorem solve_yes (hf : Flw n M P have_ want left lack ar) (hp : Pot ar left p) (hl : ∀ i, i < n → lack i = 0) : Solves n have_ want ar (costF ar) true := by
  have hin : ∀ i, i < n → atF Arc.to_ ar i = want i := fun i hi => by rw [hf.in_ i, hl i hi, Int.sub_zero]
  refine ⟨fun _ => ⟨⟨ar, SameA.refl ar, ⟨hf.pos, fun i _ => ?_, hin⟩, rfl⟩, fun gs hs hg => least_cost (fun a ha => (hf.arc a ha).1) hs hf.pos hp (fun i _ => hf.out i) (fun i _ => hf.lf i) hin hg⟩, (fun h => by cases h)⟩
  have h1 := hf.out i
  have h2 := hf.lf i
  omega
theorem solve_no {k : Nat} (hf : Flw n M P have_ want left lack ar) (hw : Ways ar left n p dist bl) (hc : Closed2 ar dist) (h0 : 0 ≤ M) (hM : M * n + M < farI) (hk : k < n) (hkl : 0 < lack k) (hkd : ¬ dAt dist k < farI) (r : Int) : Solves n have_ want ar r false := by
  have hlow := hw.top
  refine ⟨(fun h => by cases h), fun _ gs hs => no_flow (U := fun i => decide (¬ dAt dist i < farI)) (k := k) (lack := lack) (fun a ha => (hf.arc a ha).1) hs hf.pos (fun a ha h => ?_) (fun a ha h1 h => ?_) (fun i _ h => ?_) (fun i _ => hf.in_ i) (fun i _ => hf.lk i) hk hkl (decide_eq_true hkd)⟩
  · refine decide_eq_true fun h2 => of_decide_eq_true h ?_
    obtain ⟨q, hq⟩ := List.getElem?_of_mem ha
    exact hw.on hc hf.car h0 hM (⟨a, hq, .inl ⟨rfl, rfl, rfl, rfl⟩⟩ : EdgeK ar q false a.fr a.to_ a.car) h2
  · refine decide_eq_true fun h2 => of_decide_eq_true h ?_
    obtain ⟨q, hq⟩ := List.getElem?_of_mem ha
    exact hw.on hc hf.car h0 hM (⟨a, hq, .inr ⟨rfl, h1, rfl, rfl, rfl⟩⟩ : EdgeK ar q true a.to_ a.fr (-a.car)) h2
  · have h1 := hf.out i
    have h2 := hf.lf i
    have h3 : ¬ 0 < left i := fun h4 => by
      have := hw.src i h4
      have e : farI = 1125899906842624 := rfl
      exact of_decide_eq_true h (by omega)
    omega
theorem Solves.same {ar bs : List Arc} {r : Int} {ok : Bool} (h : Solves n have_ want ar r ok) (hs : SameA ar bs) : Solves n have_ want bs r ok :=
  ⟨fun e => ⟨by
    obtain ⟨gs, h1, h2, h3⟩ := (h.yes e).1
    exact ⟨gs, hs.symm.trans h1, h2, h3⟩, fun gs hg => (h.yes e).2 gs (hs.trans hg)⟩, fun e gs hg => h.no e gs (hs.trans hg)⟩
/-- At the start nothing goes. -/
theorem Flw.zero (harc : ∀ a ∈ ar, (a.fr < n ∧ a.to_ < n) ∧ (P a.fr = true ∧ P a.to_ = false) ∧ 0 ≤ a.car ∧ a.car ≤ M) (h0 : ∀ a ∈ ar, a.flow = 0) (hs : ∀ i, P i = true → want i = 0) (ht : ∀ i, P i = false → have_ i = 0) (hh : ∀ i, 0 ≤ have_ i) (hw : ∀ i, 0 ≤ want i) : Flw n M P have_ want have_ want ar ∧ Pot ar have_ (fun _ => 0) := by
  have hz : ∀ (sel : Arc → Nat) (i : Nat), atF sel ar i = 0 := fun sel i => by
    have h1 : 0 ≤ atF sel ar i := atF_nonneg fun a ha => by rw [h0 a ha]; exact Int.le_refl _
    rcases Int.lt_or_eq_of_le h1 with h2 | h2
    · obtain ⟨a, ha, _, h3⟩ := atF_pos h2
      rw [h0 a ha] at h3
      exact absurd h3 (by decide)
    · exact h2.symm
  refine ⟨⟨harc, fun a ha => by rw [h0 a ha]; exact Int.le_refl _, fun i hi => ⟨hs i hi, hs i hi⟩, fun i hi => ⟨ht i hi, ht i hi⟩, hh, hw, fun i => by rw [hz, hz]; omega⟩, ⟨fun a ha => ?_, fun a ha h => ?_, fun _ _ => Int.le_refl _, fun _ _ => Int.le_refl _⟩⟩
  · have := (harc a ha).2.2.1
    omega
  · rw [h0 a ha] at h
    exact absurd h (by decide)
end
section
variable {n : Nat} {have_ want : Nat → Int} {c : Arc} {ar : List Arc}
def lessF (f : Nat → Int) (k : Nat) (m : Int) : Nat → Int := fun i => f i - (if k = i then m else 0)
theorem feas_cons {g : Int} {gs : List Arc} (h : Feas n have_ want ({ c with flow := g } :: gs)) : 0 ≤ g ∧ Feas n (lessF have_ c.fr g) (lessF want c.to_ g) gs := by
  refine ⟨h.pos _ (List.mem_cons_self ..), fun a ha => h.pos a (List.mem_cons_of_mem _ ha), fun i hi => ?_, fun i hi => ?_⟩
  · have h1 : (if c.fr = i then g else 0) + atF Arc.fr gs i ≤ have_ i := h.out i hi
    unfold lessF; omega
  · have h1 : (if c.to_ = i then g else 0) + atF Arc.to_ gs i = want i := h.in_ i hi
    unfold lessF; omega
theorem cons_feas {g : Int} {gs : List Arc} (h0 : 0 ≤ g) (h : Feas n (lessF have_ c.fr g) (lessF want c.to_ g) gs) : Feas n have_ want ({ c with flow := g } :: gs) := by
  refine ⟨fun a ha => ?_, fun i hi => ?_, fun i hi => ?_⟩
  · rcases List.mem_cons.1 ha with rfl | ha
    · exact h0
    · exact h.pos a ha
  · show (if c.fr = i then g else 0) + atF Arc.fr gs i ≤ have_ i
    have h1 := h.out i hi
    unfold lessF at h1; omega
  · show (if c.to_ = i then g else 0) + atF Arc.to_ gs i = want i
    have h1 := h.in_ i hi
    unfold lessF at h1; omega
/-- Flows of least cost go on along the rest: so many along the first arc. -/
theorem plan_found {least r m : Int} (hr : Solves n (lessF have_ c.fr m) (lessF want c.to_ m) ar r true) (he : r + m * c.car = least) : Solves n (lessF have_ c.fr m) (lessF want c.to_ m) ar (least - m * c.car) true := by
  rw [show least - m * c.car = r by omega]; exact hr
/-- .. none, where no other number leads to the least cost. -/
theorem plan_none {least : Int} (hn : c.fr < n ∧ c.to_ < n) (h : Solves n have_ want (c :: ar) least true) (hno : ∀ m : Int, 1 ≤ m → m ≤ have_ c.fr → m ≤ want c.to_ → ∀ r, Solves n (lessF have_ c.fr m) (lessF want c.to_ m) ar r true → r + m * c.car ≠ least) (hdec : ∀ m : Int, 1 ≤ m → m ≤ have_ c.fr → m ≤ want c.to_ → ∃ r ok, Solves n (lessF have_ c.fr m) (lessF want c.to_ m) ar r ok) :
    Solves n (lessF have_ c.fr 0) (lessF want c.to_ 0) ar least true := by
  have ext : ∀ gs, SameA ar gs → ∀ g : Int, SameA (c :: ar) ({ c with flow := g } :: gs) := fun gs hs g => ⟨⟨rfl, rfl, rfl⟩, hs⟩
  have hmin := (h.yes rfl).2
  obtain ⟨gs, hs, hg, hcost⟩ := (h.yes rfl).1
  refine ⟨fun _ => ⟨?_, fun gt ht hgt => ?_⟩, (fun e => by cases e)⟩
  · cases gs with
    | nil => exact hs.elim
    | cons x gt =>
      obtain ⟨⟨e1, e2, e3⟩, hs2⟩ := hs
      obtain ⟨xf, xt, xc, xg⟩ := x
      dsimp only at e1 e2 e3
      subst e1 e2 e3
      have hx : (⟨c.fr, c.to_, c.car, xg⟩ : Arc) = { c with flow := xg } := rfl
      rw [hx] at hg hcost
      obtain ⟨h0, hgt⟩ := feas_cons hg
      have hcc : xg * c.car + costF gt = least := hcost
      by_cases hz : xg = 0
      · subst hz
        exact ⟨gt, hs2, hgt, by omega⟩
      · exfalso
        have h1 : xg ≤ have_ c.fr := by
          have k1 : (if c.fr = c.fr then xg else 0) + atF Arc.fr gt c.fr ≤ have_ c.fr := hg.out c.fr hn.1
          have k2 : 0 ≤ atF Arc.fr gt c.fr := atF_nonneg hgt.pos
          rw [if_pos rfl] at k1; omega
        have h2 : xg ≤ want c.to_ := by
          have k1 : (if c.to_ = c.to_ then xg else 0) + atF Arc.to_ gt c.to_ = want c.to_ := hg.in_ c.to_ hn.2
          have k2 : 0 ≤ atF Arc.to_ gt c.to_ := atF_nonneg hgt.pos
          rw [if_pos rfl] at k1; omega
        obtain ⟨r, ok, hsol⟩ := hdec xg (by omega) h1 h2
        cases ok with
        | false => exact hsol.no rfl gt hs2 hgt
        | true =>
          have k3 := (hsol.yes rfl).2 gt hs2 hgt
          obtain ⟨gr, k4, k5, k6⟩ := (hsol.yes rfl).1
          have k7 := hmin _ (ext gr k4 xg) (cons_feas h0 k5)
          have k8 : least ≤ xg * c.car + costF gr := k7
          exact hno xg (by omega) h1 h2 r hsol (by omega)
  · have k7 := hmin _ (ext gt ht 0) (cons_feas (Int.le_refl 0) hgt)
    have k8 : least ≤ 0 * c.car + costF gt := k7
    omega
theorem plan_end {least : Int} (h : Solves n have_ want [] least true) : (∀ i, i < n → 0 ≤ have_ i) ∧ ∀ i, i < n → want i = 0 := by
  obtain ⟨gs, hs, hg, _⟩ := (h.yes rfl).1
  cases gs with
  | nil => exact ⟨fun i hi => hg.out i hi, fun i hi => (hg.in_ i hi).symm⟩
  | cons x r => exact hs.elim
end
end Go.Proofs.Ytodcildcipfmcaa
namespace Go.Proofs.Ytodcildcipfmcaa
open Go.RowKit
def naEnc (x : Int) : List Value := [.int .i64 x]
theorem na_len (x : Int) : (naEnc x).length = 1 := rfl
theorem na_one : ∀ x, ∀ v ∈ naEnc x, v.oneCell' = true := fun x v hv => by rw [List.mem_singleton.1 hv]; rfl
def arEnc (a : Arc) : List Value := [.int .i64 ((a.fr : Nat) : Int), .int .i64 ((a.to_ : Nat) : Int), .int .i64 a.car, .int .i64 a.flow]
theorem ar_len (a : Arc) : (arEnc a).length = 4 := rfl
def byEnc : ByK → List Value
  | none => [.int .i64 (-1), .bool false]
  | some (k, b) => [.int .i64 ((k : Nat) : Int), .bool b]
theorem by_len : ∀ x : ByK, (byEnc x).length = 2
  | none => rfl
  | some _ => rfl
theorem by_cs (x : ByK) : x = none ∨ ∃ k b, x = some (k, b) := by
  cases x with
  | none => exact .inl rfl
  | some p => exact .inr ⟨p.1, p.2, rfl⟩
def atL (l : List Int) (i : Nat) : Int := (l[i]?).getD 0
theorem atL_get {l : List Int} {i : Nat} {x : Int} (h : l[i]? = some x) : atL l i = x := by unfold atL; rw [h]; rfl
theorem atL_out {l : List Int} {i : Nat} (h : l.length ≤ i) : atL l i = 0 := by unfold atL; rw [List.getElem?_eq_none h]; rfl
theorem atL_less {l : List Int} {r : Nat} {x m : Int} (h : l[r]? = some x) : atL (l.set r (x - m)) = lessF (atL l) r m := by
  funext i
  have hr := (List.getElem?_eq_some_iff.1 h).1
  unfold lessF
  by_cases e : r = i
  · subst e
    rw [if_pos rfl, atL_get h]
    unfold atL
    rw [List.getElem?_set_self hr]; rfl
  · rw [if_neg e, Int.sub_zero]
    unfold atL
    rw [List.getElem?_set_ne e]
theorem dAt_get {l : List Int} {i : Nat} {x : Int} (h : l[i]? = some x) : dAt l i = x := by unfold dAt; rw [h]; rfl
section
variable {c : Cx} {K : World → Prop} {L : List (Nat × TypeId × List Value)} {O : List Own} {X : List (World → Prop)} {w : World}
theorem SlT.oldOwn {α : Type} {enc : α → List Value} {k : Nat} {T : TypeId} {A : Option Addr} {n : Nat} {l : List α} (h : SlT enc k T w A n l) {base : Nat} {e : TypeId} {sz m cap g : Nat} {xs : List Value} (ho : RowK base e sz m cap g xs w) (hT : T ≠ e) : SlOld enc k T w.heap.size (some g) A n l w := by
  obtain ⟨cells, hc⟩ := ho.cells
  exact h.oldRow hc hT
theorem Blk.oldOwn {g b : Nat} {T : TypeId} {cs : List Value} (h : Blk w b T cs) {base : Nat} {e : TypeId} {sz m cap : Nat} {xs : List Value} (ho : RowK base e sz m cap g xs w) (hT : T ≠ e) : BlkOld w.heap.size (some g) b T cs w := by
  obtain ⟨cells, hc⟩ := ho.cells
  refine ⟨⟨h.lt, fun e1 => ?_⟩, h⟩
  injection e1 with e1
  subst e1
  unfold Blk at h
  rw [hc] at h
  injection h with h
  injection h with _ h2 _
  exact hT h2.symm
end
section
variable {P : Program} {c : Cx} {ops : Array Oper} {Q : Exit → Act → World → Prop} {rest : List Oper} {S : List (Nat × Value)} {K : World → Prop} {L : List (Nat × TypeId × List Value)} {O : List Own} {X : List (World → Prop)}
variable {d : Nat} {ty : TypeId} {pos : String} {aft : Array Edge}
/-- A call whose result holds a row of the call's own, and of which more is known. -/
theorem wl_callgox {γ : Type} {f : FuncId} {x : Operand} {ags : List Operand} {ats : Array TypeId} {vs fs cs : List Value} {val : γ → Value} {φ : γ → Prop} {Y : γ → World → Prop} (r : γ → Own) (hx : rd S x = some (.func (.func f) fs.toArray cs.toArray)) (hf : callableB P f = true) (ha : evArgs S ags = some vs) (hd : Nat.ble (d + 1) c.n = true)
    (hC : ∀ w, Mem c K L O X w → Calls P f (fs ++ vs ++ cs).toArray w (fun e w' => ∃ g, e = .returned (val g) ∧ φ g ∧ w'.ownsRow w.heap.size (r g).e (r g).sz (r g).v (r g).n (r g).xs ∧ w.grownBy w' none ∧ Y g w')) (hl : ∀ g, Lasts2 c.w0.heap.size c.row c.Tt (Y g)) (h : ∀ g, φ g → WL P c ops Q rest ((d, val g) :: S) K L (r g :: O) (Y g :: X)) :
    WL P c ops Q (⟨some d, .call ⟨.value x, ags.toArray, ats⟩, ty, pos, aft, none⟩ :: rest) S K L O X :=
  wl_callG (γ := γ) (val := val) (φ := φ) (K' := fun _ => K) (L' := fun _ => L) (O' := fun g => r g :: O) (X' := fun g => Y g :: X) hx hf ha hd (fun w hm => (hC w hm).mono fun _ _ ⟨g, he, hφ, ho, hg, hy⟩ => ⟨g, he, hφ, (hm.newOwn hg ho).also (hl g) hy⟩) h
/-- A call that turns a row of the call's own, and hands out what is known of its new cells. -/
theorem wl_callrx {γ : Type} {f : FuncId} {x : Operand} {ags : List Operand} {ats : Array TypeId} {vs fs cs : List Value} {val : γ → Value} {φ : γ → Prop} {xs' : γ → List Value} {r : Own} (i : Nat) (hO : O[i]? = some r) (hT : c.Tt.contains r.e = false) (hx : rd S x = some (.func (.func f) fs.toArray cs.toArray)) (hf : callableB P f = true) (ha : evArgs S ags = some vs) (hd : Nat.ble (d + 1) c.n = true)
    (hC : ∀ w, Mem c K L O X w → Calls P f (fs ++ vs ++ cs).toArray w (fun e w' => ∃ g, e = .returned (val g) ∧ φ g ∧ w'.ownsRow c.w0.heap.size r.e r.sz r.v r.n (xs' g) ∧ w.grownBy w' r.v.ownBlock)) (h : ∀ g, φ g → WL P c ops Q rest ((d, val g) :: S) K L (setOwn ⟨r.v, r.e, r.sz, r.n, xs' g⟩ O i) X) :
    WL P c ops Q (⟨some d, .call ⟨.value x, ags.toArray, ats⟩, ty, pos, aft, none⟩ :: rest) S K L O X :=
  wl_callG (γ := γ) (val := val) (φ := φ) (K' := fun _ => K) (L' := fun _ => L) (O' := fun g => setOwn ⟨r.v, r.e, r.sz, r.n, xs' g⟩ O i) (X' := fun _ => X) hx hf ha hd (fun w hm => (hC w hm).mono fun _ _ ⟨g, he, hp, ho, hg⟩ => ⟨g, he, hp, hm.append hO hT ho hg (.inl rfl)⟩) h
end
theorem sumN_nonneg {f : Nat → Int} {n : Nat} (h : ∀ i, i < n → 0 ≤ f i) : 0 ≤ sumN n f := by
  have := sumN_le (f := fun _ => 0) h
  rwa [sumN_zero fun _ _ => rfl] at this
def dSum (n : Nat) (B : Int) (dist : List Int) : Nat := (sumN n fun i => dAt dist i + B).toNat
section
variable {ar : List Arc} {left p : Nat → Int} {n : Nat} {dist : List Int} {bl : List ByK} {M : Int}
theorem Ways.lowAll (hw : Ways ar left n p dist bl) (hM : ∀ a ∈ ar, 0 ≤ a.car ∧ a.car ≤ M) (h0 : 0 ≤ M) (i : Nat) : -(M * n) ≤ dAt dist i := by
  by_cases h : dAt dist i < farI
  · exact hw.bound hM h0 h
  · have : 0 ≤ M * (n : Int) := Int.mul_nonneg h0 (by omega)
    have e : farI = 1125899906842624 := rfl
    omega
theorem Ways.less (hw : Ways ar left n p dist bl) (hp : Pot ar left p) (hM : ∀ a ∈ ar, 0 ≤ a.car ∧ a.car ≤ M) (h0 : 0 ≤ M) {k : Nat} {b : Bool} {u v : Nat} {c : Int} (he : EdgeK ar k b u v c) (hu : dAt dist u < farI) (hl : dAt dist u + c < dAt dist v) (hv : v < n) :
    Ways ar left n p (dist.set v (dAt dist u + c)) (bl.set v (some (k, b))) ∧ dSum n (M * n) (dist.set v (dAt dist u + c)) < dSum n (M * n) dist := by
  have h1 := hw.relax hp he hu hl hv
  refine ⟨h1, ?_⟩
  have hd : ∀ i, dAt (dist.set v (dAt dist u + c)) i = if v = i then dAt dist u + c else dAt dist i := fun i => dAt_set (by rw [hw.ld]; exact hv)
  have h2 : sumN n (fun i => dAt (dist.set v (dAt dist u + c)) i + M * n) < sumN n (fun i => dAt dist i + M * n) := by
    refine sumN_lt (k := v) (fun i _ => ?_) hv ?_
    · rw [hd]
      split
      · rename_i e; subst e; omega
      · exact Int.le_refl _
    · rw [hd, if_pos rfl]; omega
  have h3 : 0 ≤ sumN n (fun i => dAt (dist.set v (dAt dist u + c)) i + M * n) := sumN_nonneg fun i _ => by
    have := h1.lowAll hM h0 i
    omega
  unfold dSum
  omega
end
/-- The first arcs can better nothing. -/
def ClosedN (ar : List Arc) (dist : List Int) (k : Nat) : Prop := ∀ j, j < k → ∀ a, ar[j]? = some a → (dAt dist a.fr < farI → dAt dist a.to_ ≤ dAt dist a.fr + a.car) ∧ (0 < a.flow → dAt dist a.to_ < farI → dAt dist a.fr ≤ dAt dist a.to_ - a.car)
theorem ClosedN.zero {ar : List Arc} {dist : List Int} : ClosedN ar dist 0 := fun j hj => absurd hj (by omega)
theorem ClosedN.next {ar : List Arc} {dist : List Int} {k : Nat} {a : Arc} (h : ClosedN ar dist k) (ha : ar[k]? = some a) (h1 : dAt dist a.fr < farI → dAt dist a.to_ ≤ dAt dist a.fr + a.car) (h2 : 0 < a.flow → dAt dist a.to_ < farI → dAt dist a.fr ≤ dAt dist a.to_ - a.car) : ClosedN ar dist (k + 1) := fun j hj b hb => by
  by_cases e : j = k
  · subst e
    rw [ha] at hb; cases hb
    exact ⟨h1, h2⟩
  · exact h j (by omega) b hb
theorem ClosedN.all {ar : List Arc} {dist : List Int} {k : Nat} (h : ClosedN ar dist k) (hk : ar.length ≤ k) : Closed2 ar dist := fun j b u v c ⟨a, ha, he⟩ hu => by
  have hj := (List.getElem?_eq_some_iff.1 ha).1
  obtain ⟨h1, h2⟩ := h j (by omega) a ha
  rcases he with ⟨_, rfl, rfl, rfl⟩ | ⟨_, h0, rfl, rfl, rfl⟩
  · exact h1 hu
  · have := h2 h0 hu
    omega
/-- The start of the search. -/
def Start1 (left : List Int) (dist : List Int) (bl : List ByK) (i : Nat) : Prop := ∀ j, j < i → dist[j]? = some (if 0 < atL left j then 0 else farI) ∧ bl[j]? = some none
theorem Start1.zero {left dist : List Int} {bl : List ByK} : Start1 left dist bl 0 := fun j hj => absurd hj (by omega)
theorem Start1.next {left dist : List Int} {bl : List ByK} {i : Nat} {d : Int} (h : Start1 left dist bl i) (hd : i < dist.length) (hb : i < bl.length) (e : d = if 0 < atL left i then 0 else farI) : Start1 left (dist.set i d) (bl.set i none) (i + 1) := fun j hj => by
  by_cases e1 : i = j
  · subst e1
    rw [List.getElem?_set_self hd, List.getElem?_set_self hb, e]; exact ⟨rfl, rfl⟩
  · rw [List.getElem?_set_ne e1, List.getElem?_set_ne e1]; exact h j (by omega)
theorem Start1.ways {left dist : List Int} {bl : List ByK} {n : Nat} {ar : List Arc} {p : Nat → Int} (h : Start1 left dist bl n) (hp : Pot ar (atL left) p) (hl : left.length = n) (hd : dist.length = n) (hb : bl.length = n) : Ways ar (atL left) n p dist bl :=
  Ways.init hp hd (fun i hi => dAt_get (h i hi).1) (List.ext_getElem? fun i => by
    by_cases hi : i < n
    · rw [(h i hi).2, List.getElem?_replicate, if_pos hi]
    · rw [List.getElem?_eq_none (by omega), List.getElem?_eq_none (by rw [List.length_replicate]; omega)]) fun i hi => by
    rw [atL_out (by omega)]; exact Int.le_refl _
theorem mulB {a b A B : Int} (h1 : 0 ≤ a) (h2 : a ≤ A) (h3 : -B ≤ b) (h4 : b ≤ B) : -(A * B) ≤ a * b ∧ a * b ≤ A * B := by
  have hB : 0 ≤ B := by omega
  have k1 : a * b ≤ a * B := Int.mul_le_mul_of_nonneg_left h4 h1
  have k2 : a * -B ≤ a * b := Int.mul_le_mul_of_nonneg_left h3 h1
  have k3 : a * B ≤ A * B := Int.mul_le_mul_of_nonneg_right h2 hB
  rw [Int.mul_neg] at k2
  omega
theorem costF_le {M : Int} : ∀ {ar : List Arc}, (∀ a ∈ ar, 0 ≤ a.car ∧ a.car ≤ M) → (∀ a ∈ ar, 0 ≤ a.flow) → 0 ≤ costF ar ∧ costF ar ≤ M * wF (fun _ => 1) Arc.fr ar
  | [], _, _ => ⟨Int.le_refl _, by show (0 : Int) ≤ M * 0; omega⟩
  | a :: r, h1, h2 => by
    obtain ⟨i1, i2⟩ := costF_le (M := M) (ar := r) (fun b hb => h1 b (List.mem_cons_of_mem _ hb)) (fun b hb => h2 b (List.mem_cons_of_mem _ hb))
    have k1 := h1 a (List.mem_cons_self ..)
    have k2 := h2 a (List.mem_cons_self ..)
    show 0 ≤ a.flow * a.car + costF r ∧ a.flow * a.car + costF r ≤ M * (a.flow * 1 + wF (fun _ => 1) Arc.fr r)
    have k3 : 0 ≤ a.flow * a.car := Int.mul_nonneg k2 k1.1
    have k4 : a.flow * a.car ≤ a.flow * M := Int.mul_le_mul_of_nonneg_left k1.2 k2
    rw [Int.mul_one, Int.mul_add, Int.mul_comm M a.flow]
    omega
/-- What all that goes costs. -/
theorem cost_bound {M H : Int} {n : Nat} {ar : List Arc} {hv : Nat → Int} (hn : ∀ a ∈ ar, a.fr < n) (h1 : ∀ a ∈ ar, 0 ≤ a.car ∧ a.car ≤ M) (h2 : ∀ a ∈ ar, 0 ≤ a.flow) (h0 : 0 ≤ M) (ho : ∀ i, i < n → atF Arc.fr ar i ≤ hv i) (hH : ∀ i, i < n → hv i ≤ H) : 0 ≤ costF ar ∧ costF ar ≤ M * (n * H) := by
  obtain ⟨k1, k2⟩ := costF_le h1 h2
  have e := atF_sum (u := fun _ => 1) (sel := Arc.fr) (n := n) hn
  have k3 : wF (fun _ => 1) Arc.fr ar ≤ sumN n (fun _ => H) := by
    rw [← e]
    refine sumN_le fun i hi => ?_
    have := ho i hi
    have := hH i hi
    rw [Int.one_mul]; omega
  have k4 : sumN n (fun _ => H) = n * H := by
    clear k3 e ho hH hn
    induction n with
    | zero => show (0 : Int) = ((0 : Nat) : Int) * H; omega
    | succ n ih =>
      show sumN n (fun _ => H) + H = ((n + 1 : Nat) : Int) * H
      rw [ih, show ((n + 1 : Nat) : Int) = (n : Int) + 1 by omega, Int.add_mul, Int.one_mul]
  refine ⟨k1, Int.le_trans k2 (Int.mul_le_mul_of_nonneg_left (by omega) h0)⟩
theorem Solves.bound {M H : Int} {n : Nat} {ar : List Arc} {hv want : Nat → Int} {r : Int} (h : Solves n hv want ar r true) (hn : ∀ a ∈ ar, a.fr < n) (h1 : ∀ a ∈ ar, 0 ≤ a.car ∧ a.car ≤ M) (h0 : 0 ≤ M) (hH : ∀ i, i < n → hv i ≤ H) : 0 ≤ r ∧ r ≤ M * (n * H) := by
  obtain ⟨gs, hs, hg, rfl⟩ := (h.yes rfl).1
  exact cost_bound (hs.all (p := fun i _ _ => i < n) hn) (hs.all (p := fun _ _ c => 0 ≤ c ∧ c ≤ M) h1) hg.pos h0 hg.out hH
end Go.Proofs.Ytodcildcipfmcaa
namespace Go.Proofs.Ytodcildcipfmcaa
open Go.RowKit
section
variable {n : Nat} {M H : Int} {P : Nat → Bool} {hv wv left lack p : Nat → Int} {ar : List Arc} {dl : List Int} {bl : List ByK}
theorem Flw.bounds (h : Flw n M P hv wv left lack ar) (hH : ∀ i, hv i ≤ H) (hW : ∀ i, wv i ≤ H) : (∀ a ∈ ar, a.flow ≤ H) ∧ (∀ i, left i ≤ H) ∧ (∀ i, lack i ≤ H) := by
  refine ⟨fun a ha => ?_, fun i => ?_, fun i => ?_⟩
  · have h1 := atF_ge (sel := Arc.fr) h.pos ha
    have h2 := h.out a.fr
    have h3 := h.lf a.fr
    have h4 := hH a.fr
    omega
  · have h1 := h.out i
    have h2 : 0 ≤ atF Arc.fr ar i := atF_nonneg h.pos
    have h4 := hH i
    omega
  · have h1 := h.in_ i
    have h2 : 0 ≤ atF Arc.to_ ar i := atF_nonneg h.pos
    have h4 := hW i
    omega
theorem solve_end {wa : Bool} (hf : Flw n M P hv wv left lack ar) (hp : Pot ar left p) (hw : Ways ar left n p dl bl) (hc : Closed2 ar dl) (h0 : 0 ≤ M) (hM : M * n + M < farI) (hwa : wa = true ↔ ∃ j, j < n ∧ 0 < lack j) (hno : ∀ j, j < n → 0 < lack j → ¬ dAt dl j < farI) : Solves n hv wv ar (costF ar) (!wa) := by
  cases wa with
  | true =>
    obtain ⟨j, hj, hl⟩ := hwa.1 rfl
    exact solve_no hf hw hc h0 hM hj hl (hno j hj hl) _
  | false =>
    refine solve_yes hf hp fun i hi => ?_
    have h1 := hf.lk i
    have h2 : ¬ 0 < lack i := fun h => by
      have := hwa.2 ⟨i, hi, h⟩
      cases this
    omega
theorem nil_no {q : Nat} (hf : Flw n M P hv wv left lack []) (hw : Ways [] left n p dl bl) (hd : dAt dl q < farI) (hl : 0 < lack q) : False := by
  obtain ⟨l, hl2⟩ := hw.path q hd
  cases hl2 with
  | root h =>
    rcases hw.root q h with ⟨h1, _⟩ | ⟨_, h2⟩
    · omega
    · cases hP : P q with
      | true => have := (hf.src q hP).2; omega
      | false => have := (hf.snk q hP).2; omega
  | step h _ =>
    obtain ⟨k, b, c, _, a, ha, _⟩ := h
    simp at ha
theorem PathK.ends {r : Nat} {l : List Nat} (h : PathK ar bl r l) (hr : bl[r]? = some none) : l = [r] := by
  cases h with
  | root _ => rfl
  | step h _ =>
    obtain ⟨k, b, c, h1, _⟩ := h
    rw [hr] at h1; cases h1
theorem PathK.last {u i : Nat} {l : List Nat} (h : PathK ar bl u l) : (i :: l).getLast? = l.getLast? := by
  cases h with
  | root _ => rfl
  | step _ _ => rfl
theorem PathK.len (hw : Ways ar left n p dl bl) {i : Nat} {l : List Nat} (h : PathK ar bl i l) : l.length ≤ n := by
  have := nodup_len h.nodup h.lt
  rw [hw.lb] at this; exact this
theorem PathK.pos {i : Nat} {l : List Nat} (h : PathK ar bl i l) : 0 < l.length := by
  cases h with
  | root _ => exact Nat.one_pos
  | step _ _ => exact Nat.succ_pos _
end
theorem setF_same {ar : List Arc} {k f t : Nat} {cr fl : Int} (x : Int) (h : ar[k]? = some ⟨f, t, cr, fl⟩) : SameA ar (ar.set k ⟨f, t, cr, x⟩) := by
  have h1 := addF_same ar k (x - fl)
  rw [addF_at h] at h1
  have e : fl + (x - fl) = x := by omega
  dsimp only at h1
  rw [e] at h1; exact h1
/-- Nothing goes along the first arcs. -/
def ZeroN (ar : List Arc) (k : Nat) : Prop := ∀ j, j < k → ∀ a, ar[j]? = some a → a.flow = 0
theorem ZeroN.next {ar : List Arc} {k f t : Nat} {cr : Int} (h : ZeroN ar k) (hk : k < ar.length) : ZeroN (ar.set k ⟨f, t, cr, 0⟩) (k + 1) := fun j hj a ha => by
  by_cases e : k = j
  · subst e
    rw [List.getElem?_set_self hk] at ha
    cases ha; rfl
  · rw [List.getElem?_set_ne e] at ha
    exact h j (by omega) a ha
theorem ZeroN.all {ar : List Arc} {k : Nat} (h : ZeroN ar k) (hk : ar.length ≤ k) : ∀ a ∈ ar, a.flow = 0 := fun a ha => by
  obtain ⟨j, hj⟩ := List.getElem?_of_mem ha
  have := (List.getElem?_eq_some_iff.1 hj).1
  exact h j (by omega) a hj
/-- A place, or none. -/
def toI : Option Nat → Int
  | none => -1
  | some q => ((q : Nat) : Int)
/-- What the choice of the next one that wants has found among the first. -/
structure Pick1 (vl dl : List Int) (i : Nat) (wa : Bool) (tq : Option Nat) : Prop where
  wa : wa = true ↔ ∃ j, j < i ∧ 0 < atL vl j
  no : tq = none → ∀ j, j < i → 0 < atL vl j → ¬ dAt dl j < farI
  hit : ∀ q, tq = some q → q < i ∧ 0 < atL vl q ∧ dAt dl q < farI
theorem Pick1.zero {vl dl : List Int} : Pick1 vl dl 0 false none := ⟨⟨(fun h => by cases h), fun ⟨_, h, _⟩ => absurd h (by omega)⟩, fun _ j hj => absurd hj (by omega), fun _ h => by cases h⟩
theorem Pick1.next {vl dl : List Int} {i : Nat} {wa wb : Bool} {tq tq' : Option Nat} {y : Int} (h : Pick1 vl dl i wa tq) (hy : vl[i]? = some y) (hwb : wb = (wa || decide (0 < y))) (h1 : tq' = tq ∧ (tq = none → 0 < y → ¬ dAt dl i < farI) ∨ tq' = some i ∧ 0 < y ∧ dAt dl i < farI) : Pick1 vl dl (i + 1) wb tq' := by
  have ey := atL_get hy
  refine ⟨?_, fun hn j hj hl => ?_, fun q hq => ?_⟩
  · rw [hwb, Bool.or_eq_true, decide_eq_true_eq, h.wa]
    constructor
    · rintro (⟨j, h2, h3⟩ | h2)
      · exact ⟨j, by omega, h3⟩
      · exact ⟨i, by omega, by rw [ey]; exact h2⟩
    · rintro ⟨j, h2, h3⟩
      by_cases e : j = i
      · subst e; rw [ey] at h3; exact .inr h3
      · exact .inl ⟨j, by omega, h3⟩
  · rcases h1 with ⟨e, h2⟩ | ⟨e, _⟩
    · subst e
      by_cases e1 : j = i
      · subst e1; rw [ey] at hl; exact h2 hn hl
      · exact h.no hn j (by omega) hl
    · rw [hn] at e; cases e
  · rcases h1 with ⟨e, _⟩ | ⟨e, h2, h3⟩
    · subst e
      obtain ⟨k1, k2, k3⟩ := h.hit q hq
      exact ⟨by omega, k2, k3⟩
    · rw [hq] at e; cases e
      exact ⟨by omega, by rw [ey]; exact h2, h3⟩
theorem lack_less {n : Nat} {vl : List Int} {q : Nat} {y m : Int} (hl : vl.length = n) (h0 : ∀ i, 0 ≤ atL (vl.set q (y - m)) i) (hy : vl[q]? = some y) (hm : 0 < m) : (sumN n (atL (vl.set q (y - m)))).toNat < (sumN n (atL vl)).toNat := by
  have hq := (List.getElem?_eq_some_iff.1 hy).1
  have e := atL_less (m := m) hy
  have h1 : sumN n (atL (vl.set q (y - m))) < sumN n (atL vl) := by
    refine sumN_lt (k := q) (fun i _ => ?_) (by omega) ?_
    · rw [e]; unfold lessF; split <;> omega
    · rw [e]; unfold lessF; rw [if_pos rfl]; omega
  have h2 : 0 ≤ sumN n (atL (vl.set q (y - m))) := sumN_nonneg fun i _ => h0 i
  omega
end Go.Proofs.Ytodcildcipfmcaa
namespace Go.Proofs.Ytodcildcipfmcaa
open Go.RowKit
structure Nd where
  sta : ByteArray
  many : Int
def ndEnc (x : Nd) : List Value := [.string x.sta, .int .i64 x.many]
theorem nd_len (x : Nd) : (ndEnc x).length = 2 := rfl
structure Ro where
  a : ByteArray
  b : ByteArray
  car : Int
  ride : Int
def roEnc (x : Ro) : List Value := [.string x.a, .string x.b, .int .i64 x.car, .int .i64 x.ride]
theorem ro_len (x : Ro) : (roEnc x).length = 4 := rfl
def NdB (x : Nd) : Prop := x.sta.size ≤ 1000 ∧ -1000 ≤ x.many ∧ x.many ≤ 1000
def RoB (x : Ro) : Prop := x.a.size ≤ 1000 ∧ x.b.size ≤ 1000
def CarOk (x : Ro) : Prop := 0 ≤ x.car ∧ x.car ≤ 1000000
theorem all_next {α : Type} {l : List α} {k : Nat} {P : α → Prop} (h : ∀ j x, j < k → l[j]? = some x → P x) {y : α} (hy : l[k]? = some y) (hp : P y) : ∀ j x, j < k + 1 → l[j]? = some x → P x := fun j x hj hx => by
  by_cases e : j = k
  · subst e
    rw [hy] at hx; cases hx; exact hp
  · exact h j x (by omega) hx
theorem all_of {α : Type} {l : List α} {k : Nat} {P : α → Prop} (h : ∀ j x, j < k → l[j]? = some x → P x) (hk : l.length ≤ k) : ∀ x ∈ l, P x := fun x hx => by
  obtain ⟨j, hj⟩ := List.getElem?_of_mem hx
  have := (List.getElem?_eq_some_iff.1 hj).1
  exact h j x (by omega) hj
theorem byEnds_any (a b c d : ByteArray) (w : World) :
  Calls Try.prog 56 #[.string a, .string b, .string c, .string d] w (GotE w (firstE [cmpS a c, cmpS b d])) := by
 refine gw_enter ⟨17, w, none, []⟩ Try.func56 rfl Try.ntmps56 rfl (mem0 (X := []) allF_nil allL_nil) ?_
 refine sr_ (sg_ rfl (nn_ (sr_ (mv_ rfl (mv_ rfl ?_)))))
 refine wl_callv rfl cb66 rfl rfl (fun wx hm => (cmp_string _ _ wx)) ?_
 refine mv_ rfl (mv_ rfl ?_)
 refine wl_callv rfl cb66 rfl rfl (fun wx hm => (cmp_string _ _ wx)) ?_
 refine wl_buildSlice (e := 3) (cs := [.int .i64 (cmpS a c), .int .i64 (cmpS b d)]) rfl (by kernel_rfl) rfl fun g1 => ?_
 refine wl_callv rfl cb65 rfl rfl (fun wx hm => (or_two _ _ _ _ _ wx (hm.blkI 0 rfl))) ?_
 refine sg_ rfl (nn_ ?_)
 refine gw_ret ?_
 refine nx_ret1 rfl rfl fun wx hm => ?_
 exact ⟨rfl, hm.g⟩
theorem checkNeeds_any (l : List Nd) (A : Option Addr) (n c : Nat) (w : World) (hl : SlT ndEnc 2 44 w A n l) (hb : ∀ x ∈ l, NdB x) (hn : n ≤ 1000000) :
  Calls Try.prog 33 #[.slice A n c] w (fun e w' => ∃ E : Int, e = .returned (.int .i64 E) ∧ w.grownBy w' none) := by
 refine gw_enter ⟨40, w, none, []⟩ Try.func33 rfl Try.ntmps33 rfl (mem0 (X := [SlOld ndEnc 2 44 w.heap.size none A n l]) (allF_cons hl.old allF_nil) (allL_cons SlOld.lasts allL_nil)) ?_
 refine sr_ ?_
 have hlen := hl.len
 refine sg_ rfl (nn_ (gw_seq (sr_ (mv_ rfl (wl_ov (ov_len es35 rfl) rfl ?_)))))
 refine wl_ov (ov_gtr rfl rfl) rfl ?_
 refine nn_ ?_
 refine gw_cond rfl (fun hh => ?_) (fun hh => ?_)
 ·have h1 : 10 < ((n : Nat) : Int) := by simpa using hh
  clear hh
  refine sr_ (sg_ rfl (nn_ ?_))
  refine gw_ret ?_
  refine nx_then_ret ?_
  refine nx_ret1 rfl rfl fun wx hm => ?_
  exact ⟨_, rfl, hm.g⟩
 have h1 : ¬ (10 < ((n : Nat) : Int)) := by simpa using hh
 clear hh
 refine gw_skip (nx_then (gw_seq (sr_ (mv_ rfl (wl_ov (ov_len es35 rfl) rfl (mv_ rfl (nn_ (gw_block ?_))))))))
 refine gw_loop (γ := Nat) (fun (k : Nat) => k ≤ n) (fun (k : Nat) => [(0, .slice A n c), (8, .slice A n c), (9, .int .i64 ((n : Nat) : Int)), (10, .int .i64 ((k : Nat) : Int))]) (fun (k : Nat) => fun _ => True) (fun (k : Nat) => []) (fun (k : Nat) => []) (fun (k : Nat) => [SlOld ndEnc 2 44 w.heap.size none A n l]) (fun (k : Nat) => n - k) 0 (Nat.zero_le _) ⟨rfl, rfl, rfl, rfl, trivial⟩ (fun _ hm => hm.pick [] [] [0] rfl rfl) ?_
 intro k hinv
 replace hinv : k ≤ n := hinv
 refine sr_ (wl_ov (ov_lss rfl rfl) rfl (nn_ (gw_seq ?_)))
 refine gw_cond rfl (fun hh => ?_) (fun hh => ?_)
 ·have hk : ((k : Nat) : Int) < ((n : Nat) : Int) := by simpa using hh
  clear hh
  refine gw_skip (nx_then (gw_seq (gw_block (sr_ ?_))))
  obtain ⟨b, off, hA, _, _⟩ := hl.get (by omega)
  subst hA
  obtain ⟨x, hx⟩ : ∃ x, l[k]? = some x := ⟨_, List.getElem?_eq_getElem (by omega)⟩
  obtain ⟨x0, x1⟩ := x
  have hxb := hb _ (List.mem_of_getElem? hx)
  unfold NdB at hxb
  dsimp only at hxb
  refine mv_ rfl ?_
  refine wl_ov (ov_index (j := k) es35 rfl rfl (by omega)) rfl ?_
  refine wl_ov (ov_elem (vs := [.string x0, .int .i64 x1]) rz44 rfl (fun _ hm => (hm.fact 0 rfl).1) hx rfl rfl) rfl ?_
  refine wl_alloc zc44 rfl fun g1 => ?_
  refine sg_ rfl ?_
  refine wl_stores (cs' := [.string x0, .int .i64 x1]) 0 rz44 rfl rfl rfl rfl rfl rfl rfl rfl ?_
  refine nn_ (gw_block (sr_ (fd_ fo44_0 rfl rfl (lk_ sc9 0 rfl rfl rfl ?_))))
  refine wl_callw rfl cb54 rfl rfl (fun wx hm => (isKey_any _ wx (by omega))) ?_
  refine wl_ov (ov_un_not rfl) rfl (sg_ rfl (nn_ ?_))
  refine gw_cond rfl (fun hh => ?_) (fun hh => ?_)
  ·have hc2 : (keyB x0) = false := by simpa using hh
   clear hh
   refine sr_ (sg_ rfl (nn_ ?_))
   refine gw_ret ?_
   refine nx_blk_ret (nx_blk_ret (nx_then_ret (nx_then_ret (nx_blk_ret (nx_then_ret ?_)))))
   refine nx_ret1 rfl rfl fun wx hm => ?_
   exact ⟨_, rfl, hm.g⟩
  have hc2 : (keyB x0) = true := by simpa using hh
  clear hh
  refine gw_seq ?_
  refine gd (fun wz => Blk wz g1 44 [.string x0, .int .i64 x1] ∧ (SlOld ndEnc 2 44 w.heap.size none (some ⟨b, off, none⟩) n l) wz ∧ True) mixed (fun _ hm => ⟨hm.bl 0, hm.fa 0, trivial⟩) fun z => ?_
  refine wt 0 14 1 rfl z (ov_move rfl) ?_
  refine wt 1 14 3 rfl z (ov_gtr rfl rfl) ?_
  refine wt 2 14 7 rfl z (ov_move rfl) ?_
  rcases Bool.eq_false_or_eq_true (decide (0 < ((k : Nat) : Int))) with hg3 | hg3
  ·refine wa_set 23 rfl (congrArg Value.bool hg3) ?_
   replace hg3 := of_decide_eq_true hg3
   obtain ⟨y, hy⟩ : ∃ x, l[k - 1]? = some x := ⟨_, List.getElem?_eq_getElem (by omega)⟩
   obtain ⟨p0, p1⟩ := y
   refine wto 3 14 15 rfl rfl rfl z (ov_field fo44_0 rfl rfl) ?_
   refine wto 4 14 31 rfl rfl rfl z (ov_load sc9 rfl (fun _ hm => hm.1) rfl) ?_
   refine wto 5 14 63 rfl rfl rfl z (ov_move rfl) ?_
   refine wto 6 14 127 rfl rfl rfl z (ov_move rfl) ?_
   refine wto 7 14 255 rfl rfl rfl z (ov_sub rfl rfl (by omega) (by omega)) ?_
   refine wa_set 28 (v' := .int .i64 ((k - 1 : Nat) : Int)) rfl (congrArg (Value.int .i64) (by omega)) ?_
   refine wto 8 14 511 rfl rfl rfl z (ov_index (j := k - 1) es35 rfl rfl (by omega)) ?_
   refine wto 9 14 1023 rfl rfl rfl z (ov_field fo44_0 rfl rfl) ?_
   refine wto 10 14 2047 rfl rfl rfl z (ov_elem1 (k := 0) (v := .string p0) sc9 rfl (fun _ hm => (hm.2.1).1) hy rfl rfl) ?_
   refine wto 11 14 4095 rfl rfl rfl z (ov_sleq rfl rfl) ?_
   refine wt 12 14 8191 rfl z (ov_pick_t rfl rfl) ?_
   refine wt 13 14 16383 rfl z (ov_assign rfl) ?_
   refine wa_done (by kernel_rfl) ?_
   refine nx_then ?_
   refine gw_cond rfl (fun hh => ?_) (fun hh => ?_)
   ·have hc4 : (Op.bytesLess x0.toList p0.toList || x0.toList == p0.toList) = true := by simpa using hh
    clear hh
    refine sr_ (sg_ rfl (nn_ ?_))
    refine gw_ret ?_
    refine nx_blk_ret (nx_blk_ret (nx_then_ret (nx_then_ret (nx_blk_ret (nx_then_ret ?_)))))
    refine nx_ret1 rfl rfl fun wx hm => ?_
    exact ⟨_, rfl, hm.g⟩
   have hc4 : (Op.bytesLess x0.toList p0.toList || x0.toList == p0.toList) = false := by simpa using hh
   clear hh
   refine sr_ (fd_ fo44_1 rfl rfl (lk_ sc3 0 rfl rfl rfl ?_))
   refine wl_callw rfl cb55 rfl rfl (fun wx hm => (in_any _ _ _ wx)) ?_
   refine wl_ov (ov_un_not rfl) rfl (sg_ rfl (nn_ ?_))
   refine gw_cond rfl (fun hh => ?_) (fun hh => ?_)
   ·have hc5 : (inB x1 (-20) 20) = false := by simpa using hh
    clear hh
    refine sr_ (sg_ rfl (nn_ ?_))
    refine gw_ret ?_
    refine nx_blk_ret (nx_blk_ret (nx_then_ret (nx_then_ret (nx_blk_ret (nx_then_ret ?_)))))
    refine nx_ret1 rfl rfl fun wx hm => ?_
    exact ⟨_, rfl, hm.g⟩
   have hc5 : (inB x1 (-20) 20) = true := by simpa using hh
   clear hh
   refine gw_skip (nx_blk_nrm (nx_blk_nrm (nx_then (gw_region (ad_ rfl rfl (mv_ rfl (wl_nil ?_)))))))
   exact nx_round (k + 1) (by omega) (by omega) ⟨rfl, rfl, rfl, (some_int (by omega)), trivial⟩ (fun _ hm => hm.pick [] [] [0] rfl rfl)
  refine wa_set 23 rfl (congrArg Value.bool hg3) ?_
  replace hg3 := of_decide_eq_false hg3
  refine wtf 3 14 15 rfl rfl rfl z ?_
  refine wtf 4 14 31 rfl rfl rfl z ?_
  refine wtf 5 14 63 rfl rfl rfl z ?_
  refine wtf 6 14 127 rfl rfl rfl z ?_
  refine wtf 7 14 255 rfl rfl rfl z ?_
  refine wtf 8 14 511 rfl rfl rfl z ?_
  refine wtf 9 14 1023 rfl rfl rfl z ?_
  refine wtf 10 14 2047 rfl rfl rfl z ?_
  refine wtf 11 14 4095 rfl rfl rfl z ?_
  refine wt 12 14 8191 rfl z (ov_pick_f rfl rfl) ?_
  refine wt 13 14 16383 rfl z (ov_assign rfl) ?_
  refine wa_done (by kernel_rfl) ?_
  refine nx_then (cf_ rfl (sr_ (fd_ fo44_1 rfl rfl (lk_ sc3 0 rfl rfl rfl ?_))))
  refine wl_callw rfl cb55 rfl rfl (fun wx hm => (in_any _ _ _ wx)) ?_
  refine wl_ov (ov_un_not rfl) rfl (sg_ rfl (nn_ ?_))
  refine gw_cond rfl (fun hh => ?_) (fun hh => ?_)
  ·have hc6 : (inB x1 (-20) 20) = false := by simpa using hh
   clear hh
   refine sr_ (sg_ rfl (nn_ ?_))
   refine gw_ret ?_
   refine nx_blk_ret (nx_blk_ret (nx_then_ret (nx_then_ret (nx_blk_ret (nx_then_ret ?_)))))
   refine nx_ret1 rfl rfl fun wx hm => ?_
   exact ⟨_, rfl, hm.g⟩
  have hc6 : (inB x1 (-20) 20) = true := by simpa using hh
  clear hh
  refine gw_skip (nx_blk_nrm (nx_blk_nrm (nx_then (gw_region (ad_ rfl rfl (mv_ rfl (wl_nil ?_)))))))
  exact nx_round (k + 1) (by omega) (by omega) ⟨rfl, rfl, rfl, (some_int (by omega)), trivial⟩ (fun _ hm => hm.pick [] [] [0] rfl rfl)
 have hk : ¬ (((k : Nat) : Int) < ((n : Nat) : Int)) := by simpa using hh
 clear hh
 refine gw_exit ?_
 refine nx_then_exit (nx_then_exit ?_)
 refine nx_blk_here ?_
 refine nx_then (sr_ (sg_ rfl (nn_ ?_)))
 refine gw_ret ?_
 refine nx_ret1 rfl rfl fun wx hm => ?_
 exact ⟨_, rfl, hm.g⟩
theorem checkRoads_any (l : List Ro) (A : Option Addr) (n c : Nat) (w : World) (hl : SlT roEnc 4 66 w A n l) (hb : ∀ x ∈ l, RoB x) (hn : n ≤ 1000000) :
  Calls Try.prog 34 #[.slice A n c] w (fun e w' => ∃ E : Int, e = .returned (.int .i64 E) ∧ (E = 0 → ∀ x ∈ l, CarOk x) ∧ w.grownBy w' none) := by
 refine gw_enter ⟨67, w, none, []⟩ Try.func34 rfl Try.ntmps34 rfl (mem0 (X := [SlOld roEnc 4 66 w.heap.size none A n l]) (allF_cons hl.old allF_nil) (allL_cons SlOld.lasts allL_nil)) ?_
 refine sr_ ?_
 have hlen := hl.len
 refine sg_ rfl (nn_ (gw_seq (sr_ (mv_ rfl (wl_ov (ov_len es49 rfl) rfl ?_)))))
 refine wl_ov (ov_gtr rfl rfl) rfl ?_
 refine nn_ ?_
 refine gw_cond rfl (fun hh => ?_) (fun hh => ?_)
 ·have h1 : 2500 < ((n : Nat) : Int) := by simpa using hh
  clear hh
  refine sr_ (sg_ rfl (nn_ ?_))
  refine gw_ret ?_
  refine nx_then_ret ?_
  refine nx_ret1 rfl rfl fun wx hm => ?_
  exact ⟨_, rfl, (fun h => absurd h (by decide)), hm.g⟩
 have h1 : ¬ (2500 < ((n : Nat) : Int)) := by simpa using hh
 clear hh
 refine gw_skip (nx_then (gw_seq (sr_ (mv_ rfl (wl_ov (ov_len es49 rfl) rfl (mv_ rfl (nn_ (gw_block ?_))))))))
 refine gw_loop (γ := Nat) (fun (k : Nat) => k ≤ n ∧ ∀ j x, j < k → l[j]? = some x → CarOk x) (fun (k : Nat) => [(0, .slice A n c), (8, .slice A n c), (9, .int .i64 ((n : Nat) : Int)), (10, .int .i64 ((k : Nat) : Int))]) (fun (k : Nat) => fun _ => True) (fun (k : Nat) => []) (fun (k : Nat) => []) (fun (k : Nat) => [SlOld roEnc 4 66 w.heap.size none A n l]) (fun (k : Nat) => n - k) 0 ⟨Nat.zero_le _, fun j x hj => absurd hj (by omega)⟩ ⟨rfl, rfl, rfl, rfl, trivial⟩ (fun _ hm => hm.pick [] [] [0] rfl rfl) ?_
 intro k hinv
 replace hinv : k ≤ n ∧ ∀ j x, j < k → l[j]? = some x → CarOk x := hinv
 refine sr_ ?_
 obtain ⟨hk0, hcar⟩ := hinv
 refine wl_ov (ov_lss rfl rfl) rfl (nn_ (gw_seq ?_))
 refine gw_cond rfl (fun hh => ?_) (fun hh => ?_)
 ·have hk : ((k : Nat) : Int) < ((n : Nat) : Int) := by simpa using hh
  clear hh
  refine gw_skip (nx_then (gw_seq (gw_block (sr_ ?_))))
  obtain ⟨b, off, hA, _, _⟩ := hl.get (by omega)
  subst hA
  obtain ⟨x, hx⟩ : ∃ x, l[k]? = some x := ⟨_, List.getElem?_eq_getElem (by omega)⟩
  obtain ⟨x0, x1, x2, x3⟩ := x
  have hxb := hb _ (List.mem_of_getElem? hx)
  unfold RoB at hxb
  dsimp only at hxb
  refine mv_ rfl ?_
  refine wl_ov (ov_index (j := k) es49 rfl rfl (by omega)) rfl ?_
  refine wl_ov (ov_elem (vs := [.string x0, .string x1, .int .i64 x2, .int .i64 x3]) rz66 rfl (fun _ hm => (hm.fact 0 rfl).1) hx rfl rfl) rfl ?_
  refine wl_alloc zc66 rfl fun g1 => ?_
  refine sg_ rfl ?_
  refine wl_stores (cs' := [.string x0, .string x1, .int .i64 x2, .int .i64 x3]) 0 rz66 rfl rfl rfl rfl rfl rfl rfl rfl ?_
  refine nn_ (gw_block (sr_ (fd_ fo66_0 rfl rfl (lk_ sc9 0 rfl rfl rfl ?_))))
  refine wl_callw rfl cb54 rfl rfl (fun wx hm => (isKey_any _ wx (by omega))) ?_
  refine wl_ov (ov_un_not rfl) rfl (mv_ rfl ?_)
  rcases Bool.eq_false_or_eq_true (!(keyB x0)) with hg2 | hg2
  ·refine wl_set 20 rfl (congrArg Value.bool hg2) ?_
   refine goff rfl rfl rfl (goff rfl rfl rfl (goff rfl rfl rfl (goff rfl rfl rfl (pt_ rfl rfl (sg_ rfl (nn_ (ct_ rfl (sr_ (sg_ rfl (nn_ ?_))))))))))
   refine gw_ret ?_
   refine nx_blk_ret (nx_blk_ret (nx_then_ret (nx_then_ret (nx_blk_ret (nx_then_ret ?_)))))
   refine nx_ret1 rfl rfl fun wx hm => ?_
   exact ⟨_, rfl, (fun h => absurd h (by decide)), hm.g⟩
  refine wl_set 20 rfl (congrArg Value.bool hg2) ?_
  refine wl_guard_on rfl rfl rfl (fd_ fo66_1 rfl rfl (wl_guard_on rfl rfl rfl (lk_ sc9 0 rfl rfl rfl (wl_guard_on rfl rfl rfl ?_))))
  refine wl_callw rfl cb54 rfl rfl (fun wx hm => (isKey_any _ wx (by omega))) ?_
  refine wl_guard_on rfl rfl rfl (wl_ov (ov_un_not rfl) rfl (pf_ rfl rfl (sg_ rfl (nn_ ?_))))
  refine gw_cond rfl (fun hh => ?_) (fun hh => ?_)
  ·have hc3 : (keyB x1) = false := by simpa using hh
   clear hh
   refine sr_ (sg_ rfl (nn_ ?_))
   refine gw_ret ?_
   refine nx_blk_ret (nx_blk_ret (nx_then_ret (nx_then_ret (nx_blk_ret (nx_then_ret ?_)))))
   refine nx_ret1 rfl rfl fun wx hm => ?_
   exact ⟨_, rfl, (fun h => absurd h (by decide)), hm.g⟩
  have hc3 : (keyB x1) = true := by simpa using hh
  clear hh
  refine sr_ (fd_ fo66_0 rfl rfl (lk_ sc9 0 rfl rfl rfl (fd_ fo66_1 rfl rfl (lk_ sc9 0 rfl rfl rfl (wl_ov (ov_seql rfl rfl) rfl (sg_ rfl (nn_ ?_)))))))
  refine gw_cond rfl (fun hh => ?_) (fun hh => ?_)
  ·have hc4 : (x0.toList == x1.toList) = true := by simpa using hh
   clear hh
   refine sr_ (sg_ rfl (nn_ ?_))
   refine gw_ret ?_
   refine nx_blk_ret (nx_blk_ret (nx_then_ret (nx_then_ret (nx_blk_ret (nx_then_ret ?_)))))
   refine nx_ret1 rfl rfl fun wx hm => ?_
   exact ⟨_, rfl, (fun h => absurd h (by decide)), hm.g⟩
  have hc4 : (x0.toList == x1.toList) = false := by simpa using hh
  clear hh
  refine gw_seq ?_
  refine gd (fun wz => Blk wz g1 66 [.string x0, .string x1, .int .i64 x2, .int .i64 x3] ∧ (SlOld roEnc 4 66 w.heap.size none (some ⟨b, off, none⟩) n l) wz ∧ True) mixed (fun _ hm => ⟨hm.bl 0, hm.fa 0, trivial⟩) fun z => ?_
  refine wt 0 23 1 rfl z (ov_move rfl) ?_
  refine wt 1 23 3 rfl z (ov_gtr rfl rfl) ?_
  refine wt 2 23 7 rfl z (ov_move rfl) ?_
  rcases Bool.eq_false_or_eq_true (decide (0 < ((k : Nat) : Int))) with hg5 | hg5
  ·refine wa_set 35 rfl (congrArg Value.bool hg5) ?_
   replace hg5 := of_decide_eq_true hg5
   obtain ⟨y, hy⟩ : ∃ x, l[k - 1]? = some x := ⟨_, List.getElem?_eq_getElem (by omega)⟩
   obtain ⟨p0, p1, p2, p3⟩ := y
   refine wto 3 23 15 rfl rfl rfl z (ov_move rfl) ?_
   refine wto 4 23 31 rfl rfl rfl z (ov_move rfl) ?_
   refine wto 5 23 63 rfl rfl rfl z (ov_sub rfl rfl (by omega) (by omega)) ?_
   refine wa_set 38 (v' := .int .i64 ((k - 1 : Nat) : Int)) rfl (congrArg (Value.int .i64) (by omega)) ?_
   refine wto 6 23 127 rfl rfl rfl z (ov_index (j := k - 1) es49 rfl rfl (by omega)) ?_
   refine wto 7 23 255 rfl rfl rfl z (ov_field fo66_0 rfl rfl) ?_
   refine wto 8 23 511 rfl rfl rfl z (ov_elem1 (k := 0) (v := .string p0) sc9 rfl (fun _ hm => (hm.2.1).1) hy rfl rfl) ?_
   refine wto 9 23 1023 rfl rfl rfl z (ov_move rfl) ?_
   refine wto 10 23 2047 rfl rfl rfl z (ov_move rfl) ?_
   refine wto 11 23 4095 rfl rfl rfl z (ov_sub rfl rfl (by omega) (by omega)) ?_
   refine wa_set 44 (v' := .int .i64 ((k - 1 : Nat) : Int)) rfl (congrArg (Value.int .i64) (by omega)) ?_
   refine wto 12 23 8191 rfl rfl rfl z (ov_index (j := k - 1) es49 rfl rfl (by omega)) ?_
   refine wto 13 23 16383 rfl rfl rfl z (ov_field fo66_1 rfl rfl) ?_
   refine wto 14 23 32767 rfl rfl rfl z (ov_elem1 (k := 1) (v := .string p1) sc9 rfl (fun _ hm => (hm.2.1).1) hy rfl rfl) ?_
   refine wto 15 23 65535 rfl rfl rfl z (ov_field fo66_0 rfl rfl) ?_
   refine wto 16 23 131071 rfl rfl rfl z (ov_load sc9 rfl (fun _ hm => hm.1) rfl) ?_
   refine wto 17 23 262143 rfl rfl rfl z (ov_field fo66_1 rfl rfl) ?_
   refine wto 18 23 524287 rfl rfl rfl z (ov_load sc9 rfl (fun _ hm => hm.1) rfl) ?_
   refine wa1 19 rfl ?_
   refine wl_guard_on rfl rfl rfl ?_
   refine wl_callv (v := .int .i64 (firstE [cmpS p0 x0, cmpS p1 x1])) rfl cb56 rfl rfl (fun wx hm => (byEnds_any _ _ _ _ wx)) ?_
   refine wl_nil ?_
   refine nw 23 1048575 (fun _ hm => ⟨hm.bl 0, hm.fa 0, trivial⟩) fun z => ?_
   refine wto 20 23 2097151 rfl rfl rfl z (ov_geq rfl rfl) ?_
   refine wt 21 23 4194303 rfl z (ov_pick_t rfl rfl) ?_
   refine wt 22 23 8388607 rfl z (ov_assign rfl) ?_
   refine wa_done (by kernel_rfl) ?_
   refine nx_then ?_
   refine gw_cond rfl (fun hh => ?_) (fun hh => ?_)
   ·have hc6 : 0 ≤ firstE [cmpS p0 x0, cmpS p1 x1] := by simpa using hh
    clear hh
    refine sr_ (sg_ rfl (nn_ ?_))
    refine gw_ret ?_
    refine nx_blk_ret (nx_blk_ret (nx_then_ret (nx_then_ret (nx_blk_ret (nx_then_ret ?_)))))
    refine nx_ret1 rfl rfl fun wx hm => ?_
    exact ⟨_, rfl, (fun h => absurd h (by decide)), hm.g⟩
   have hc6 : ¬ (0 ≤ firstE [cmpS p0 x0, cmpS p1 x1]) := by simpa using hh
   clear hh
   refine sr_ (fd_ fo66_2 rfl rfl (lk_ sc3 0 rfl rfl rfl ?_))
   refine wl_callw rfl cb55 rfl rfl (fun wx hm => (in_any _ _ _ wx)) ?_
   refine wl_ov (ov_un_not rfl) rfl (mv_ rfl ?_)
   rcases Bool.eq_false_or_eq_true (!(inB x2 0 1000000)) with hg7 | hg7
   ·refine wl_set 60 rfl (congrArg Value.bool hg7) ?_
    refine goff rfl rfl rfl (goff rfl rfl rfl (goff rfl rfl rfl (goff rfl rfl rfl (pt_ rfl rfl (sg_ rfl (nn_ (ct_ rfl (sr_ (sg_ rfl (nn_ ?_))))))))))
    refine gw_ret ?_
    refine nx_blk_ret (nx_blk_ret (nx_then_ret (nx_then_ret (nx_blk_ret (nx_then_ret ?_)))))
    refine nx_ret1 rfl rfl fun wx hm => ?_
    exact ⟨_, rfl, (fun h => absurd h (by decide)), hm.g⟩
   refine wl_set 60 rfl (congrArg Value.bool hg7) ?_
   refine wl_guard_on rfl rfl rfl (fd_ fo66_3 rfl rfl (wl_guard_on rfl rfl rfl (lk_ sc3 0 rfl rfl rfl (wl_guard_on rfl rfl rfl ?_))))
   refine wl_callw rfl cb55 rfl rfl (fun wx hm => (in_any _ _ _ wx)) ?_
   refine wl_guard_on rfl rfl rfl (wl_ov (ov_un_not rfl) rfl (pf_ rfl rfl (sg_ rfl (nn_ ?_))))
   refine gw_cond rfl (fun hh => ?_) (fun hh => ?_)
   ·have hc8 : (inB x3 0 1000000) = false := by simpa using hh
    clear hh
    refine sr_ (sg_ rfl (nn_ ?_))
    refine gw_ret ?_
    refine nx_blk_ret (nx_blk_ret (nx_then_ret (nx_then_ret (nx_blk_ret (nx_then_ret ?_)))))
    refine nx_ret1 rfl rfl fun wx hm => ?_
    exact ⟨_, rfl, (fun h => absurd h (by decide)), hm.g⟩
   have hc8 : (inB x3 0 1000000) = true := by simpa using hh
   clear hh
   refine gw_skip (nx_blk_nrm (nx_blk_nrm (nx_then (gw_region (ad_ rfl rfl (mv_ rfl (wl_nil ?_)))))))
   have hco : CarOk ⟨x0, x1, x2, x3⟩ := by
    have := inB_iff.1 (show inB x2 0 1000000 = true by simp_all)
    unfold CarOk; dsimp only; omega
   exact nx_round (k + 1) ⟨by omega, all_next hcar hx hco⟩ (by omega) ⟨rfl, rfl, rfl, (some_int (by omega)), trivial⟩ (fun _ hm => hm.pick [] [] [0] rfl rfl)
  refine wa_set 35 rfl (congrArg Value.bool hg5) ?_
  replace hg5 := of_decide_eq_false hg5
  refine wtf 3 23 15 rfl rfl rfl z ?_
  refine wtf 4 23 31 rfl rfl rfl z ?_
  refine wtf 5 23 63 rfl rfl rfl z ?_
  refine wtf 6 23 127 rfl rfl rfl z ?_
  refine wtf 7 23 255 rfl rfl rfl z ?_
  refine wtf 8 23 511 rfl rfl rfl z ?_
  refine wtf 9 23 1023 rfl rfl rfl z ?_
  refine wtf 10 23 2047 rfl rfl rfl z ?_
  refine wtf 11 23 4095 rfl rfl rfl z ?_
  refine wtf 12 23 8191 rfl rfl rfl z ?_
  refine wtf 13 23 16383 rfl rfl rfl z ?_
  refine wtf 14 23 32767 rfl rfl rfl z ?_
  refine wtf 15 23 65535 rfl rfl rfl z ?_
  refine wtf 16 23 131071 rfl rfl rfl z ?_
  refine wtf 17 23 262143 rfl rfl rfl z ?_
  refine wtf 18 23 524287 rfl rfl rfl z ?_
  refine wtf 19 23 1048575 rfl rfl rfl z ?_
  refine wtf 20 23 2097151 rfl rfl rfl z ?_
  refine wt 21 23 4194303 rfl z (ov_pick_f rfl rfl) ?_
  refine wt 22 23 8388607 rfl z (ov_assign rfl) ?_
  refine wa_done (by kernel_rfl) ?_
  refine nx_then (cf_ rfl (sr_ (fd_ fo66_2 rfl rfl (lk_ sc3 0 rfl rfl rfl ?_))))
  refine wl_callw rfl cb55 rfl rfl (fun wx hm => (in_any _ _ _ wx)) ?_
  refine wl_ov (ov_un_not rfl) rfl (mv_ rfl ?_)
  rcases Bool.eq_false_or_eq_true (!(inB x2 0 1000000)) with hg9 | hg9
  ·refine wl_set 60 rfl (congrArg Value.bool hg9) ?_
   refine goff rfl rfl rfl (goff rfl rfl rfl (goff rfl rfl rfl (goff rfl rfl rfl (pt_ rfl rfl (sg_ rfl (nn_ (ct_ rfl (sr_ (sg_ rfl (nn_ ?_))))))))))
   refine gw_ret ?_
   refine nx_blk_ret (nx_blk_ret (nx_then_ret (nx_then_ret (nx_blk_ret (nx_then_ret ?_)))))
   refine nx_ret1 rfl rfl fun wx hm => ?_
   exact ⟨_, rfl, (fun h => absurd h (by decide)), hm.g⟩
  refine wl_set 60 rfl (congrArg Value.bool hg9) ?_
  refine wl_guard_on rfl rfl rfl (fd_ fo66_3 rfl rfl (wl_guard_on rfl rfl rfl (lk_ sc3 0 rfl rfl rfl (wl_guard_on rfl rfl rfl ?_))))
  refine wl_callw rfl cb55 rfl rfl (fun wx hm => (in_any _ _ _ wx)) ?_
  refine wl_guard_on rfl rfl rfl (wl_ov (ov_un_not rfl) rfl (pf_ rfl rfl (sg_ rfl (nn_ ?_))))
  refine gw_cond rfl (fun hh => ?_) (fun hh => ?_)
  ·have hc10 : (inB x3 0 1000000) = false := by simpa using hh
   clear hh
   refine sr_ (sg_ rfl (nn_ ?_))
   refine gw_ret ?_
   refine nx_blk_ret (nx_blk_ret (nx_then_ret (nx_then_ret (nx_blk_ret (nx_then_ret ?_)))))
   refine nx_ret1 rfl rfl fun wx hm => ?_
   exact ⟨_, rfl, (fun h => absurd h (by decide)), hm.g⟩
  have hc10 : (inB x3 0 1000000) = true := by simpa using hh
  clear hh
  refine gw_skip (nx_blk_nrm (nx_blk_nrm (nx_then (gw_region (ad_ rfl rfl (mv_ rfl (wl_nil ?_)))))))
  have hco : CarOk ⟨x0, x1, x2, x3⟩ := by
   have := inB_iff.1 (show inB x2 0 1000000 = true by simp_all)
   unfold CarOk; dsimp only; omega
  exact nx_round (k + 1) ⟨by omega, all_next hcar hx hco⟩ (by omega) ⟨rfl, rfl, rfl, (some_int (by omega)), trivial⟩ (fun _ hm => hm.pick [] [] [0] rfl rfl)
 have hk : ¬ (((k : Nat) : Int) < ((n : Nat) : Int)) := by simpa using hh
 clear hh
 refine gw_exit ?_
 refine nx_then_exit (nx_then_exit ?_)
 refine nx_blk_here ?_
 refine nx_then (sr_ (sg_ rfl (nn_ ?_)))
 refine gw_ret ?_
 refine nx_ret1 rfl rfl fun wx hm => ?_
 exact ⟨_, rfl, (fun _ => all_of hcar (by omega)), hm.g⟩
theorem checkTask_any (nl : List Nd) (rl : List Ro) (nA rA : Option Addr) (nn nc rn rc : Nat) (w : World) (hn : SlT ndEnc 2 44 w nA nn nl) (hr : SlT roEnc 4 66 w rA rn rl) (hnb : ∀ x ∈ nl, NdB x) (hrb : ∀ x ∈ rl, RoB x) (hnn : nn ≤ 1000000) (hrn : rn ≤ 1000000) :
  Calls Try.prog 14 #[.slice nA nn nc, .slice rA rn rc] w (fun e w' => ∃ E : Int, e = .returned (.int .i64 E) ∧ (E = 0 → ∀ x ∈ rl, CarOk x) ∧ w.grownBy w' none) := by
 refine gw_enter ⟨11, w, none, []⟩ Try.func14 rfl Try.ntmps14 rfl (mem0 (X := [SlOld ndEnc 2 44 w.heap.size none nA nn nl, SlOld roEnc 4 66 w.heap.size none rA rn rl]) (allF_cons hn.old (allF_cons hr.old allF_nil)) (allL_cons SlOld.lasts (allL_cons SlOld.lasts allL_nil))) ?_
 refine sr_ (sg_ rfl (nn_ (sr_ (mv_ rfl ?_))))
 refine wl_callx (γ := Int) (val := (fun g => .int .i64 g)) (φ := (fun g => True)) (Y := (fun g => fun _ => True)) rfl cb33 rfl rfl (fun wx hm => (checkNeeds_any nl nA nn nc wx (hm.fact 0 rfl).1 hnb hnn).mono fun _ _ ⟨E, he, hg⟩ => ⟨E, he, trivial, hg, trivial⟩) (fun _ => Lasts2.true_) ?_
 rintro E1 hphi
 clear hphi
 refine mv_ rfl ?_
 refine wl_callx (γ := Int) (val := (fun g => .int .i64 g)) (φ := (fun g => g = 0 → ∀ x ∈ rl, CarOk x)) (Y := (fun g => fun _ => True)) rfl cb34 rfl rfl (fun wx hm => (checkRoads_any rl rA rn rc wx (hm.fact 2 rfl).1 hrb hrn).mono fun _ _ ⟨E, he, h1, hg⟩ => ⟨E, he, h1, hg, trivial⟩) (fun _ => Lasts2.true_) ?_
 rintro E2 hE2
 refine wl_buildSlice (e := 52) (cs := [.int .i64 E1, .int .i64 E2]) rfl (by kernel_rfl) rfl fun g3 => ?_
 refine wl_callw rfl cb20 rfl rfl (fun wx hm => (first_any [E1, E2] _ _ _ wx (hm.blkI 0 rfl) (by simp))) ?_
 refine sg_ rfl (nn_ ?_)
 refine gw_ret ?_
 refine nx_ret1 rfl rfl fun wx hm => ?_
 exact ⟨_, rfl, (fun h => hE2 (fe_all h E2 (by simp))), hm.g⟩
end Go.Proofs.Ytodcildcipfmcaa
namespace Go.Proofs.Ytodcildcipfmcaa
open Go.RowKit Go.MapKept
open Go.ChangeMaps (setBlock)
/-- A type of keys: what they are as values; a search among them ends as it should. -/
structure KeyK (P : Program) (k : TypeId) {κ : Type} (ek : κ → Value) : Prop where
  inj : ∀ {a b : κ}, ek a = ek b → a = b
  chk : ∀ (em : Bool) (a : κ) (w : World), (Instr.checkKey em 10000 k (ek a)).run P w = .ok () w
  find : ∀ (a : κ) (es : List MapEntry) (w : World), (∀ x ∈ es, ∃ b, x.key = ek b) → ((Instr.findKey k (ek a) es).run P w = .ok none w ∧ ∀ x ∈ es, x.key ≠ ek a) ∨ ∃ j e, (Instr.findKey k (ek a) es).run P w = .ok (some (j, e.val)) w ∧ es[j]? = some e ∧ e.key = ek a
  stay : ∀ (a : κ) (w : World), (Instr.keyThatStays (ek a) (ek a)).run P w = .ok (ek a) w
theorem findAsking_spec {P : Program} {k : TypeId} {κ : Type} {ek : κ → Value} {eqb : κ → κ → Bool} (heq : ∀ a b w, (Op.equal k (ek a) (ek b)).run P w = .ok (eqb a b) w) (hb : ∀ a b, eqb a b = true ↔ a = b) (inj : ∀ {a b : κ}, ek a = ek b → a = b) (a : κ) (w : World) : ∀ (es : List MapEntry) (i : Nat), (∀ x ∈ es, ∃ b, x.key = ek b) →
    ((Instr.findAsking k (ek a) es i).run P w = .ok none w ∧ ∀ x ∈ es, x.key ≠ ek a) ∨ ∃ j e, (Instr.findAsking k (ek a) es i).run P w = .ok (some (i + j, e.val)) w ∧ es[j]? = some e ∧ e.key = ek a
  | [], i, _ => .inl ⟨by simp [Instr.findAsking], by simp⟩
  | e :: es, i, h => by
    obtain ⟨b, hbk⟩ := h e (.head _)
    have hq := heq a b w
    cases hr : eqb a b with
    | true =>
      refine .inr ⟨0, e, ?_, rfl, by rw [hbk, (hb a b).1 hr]⟩
      simp [Instr.findAsking, hbk, hq, hr, Result.andThen]
    | false =>
      have hne : e.key ≠ ek a := fun q => by
        have h3 := inj (hbk.symm.trans q)
        rw [(hb a b).2 h3.symm] at hr; cases hr
      rcases findAsking_spec heq hb inj a w es (i + 1) (fun x hx => h x (.tail _ hx)) with ⟨h1, h2⟩ | ⟨j, e', h1, h2, h3⟩
      · refine .inl ⟨by simp [Instr.findAsking, hbk, hq, hr, h1, Result.andThen], fun x hx => ?_⟩
        rcases List.mem_cons.1 hx with rfl | hx
        · exact hne
        · exact h2 x hx
      · exact .inr ⟨j + 1, e', by simp [Instr.findAsking, hbk, hq, hr, h1, Result.andThen]; omega, by simpa using h2, h3⟩
theorem findKey_struct {P : Program} {k : TypeId} {fs : Array Field} (hu : P.underlying k = some (.struct fs)) (v : Value) (es : List MapEntry) (w : World) : (Instr.findKey k v es).run P w = (Instr.findAsking k v es 0).run P w := by
  cases es with
  | nil => simp [Instr.findKey, run_underlying hu, Instr.findNow, Instr.findAsking]
  | cons e es => simp [Instr.findKey, run_underlying hu, Instr.findNow, Instr.sameNow]
theorem keyK_struct {P : Program} {k : TypeId} {fs : Array Field} {κ : Type} {ek : κ → Value} {eqb : κ → κ → Bool} (hu : P.underlying k = some (.struct fs)) (heq : ∀ a b w, (Op.equal k (ek a) (ek b)).run P w = .ok (eqb a b) w) (hb : ∀ a b, eqb a b = true ↔ a = b) (inj : ∀ {a b : κ}, ek a = ek b → a = b)
    (chk : ∀ (em : Bool) (a : κ) (w : World), (Instr.checkKey em 10000 k (ek a)).run P w = .ok () w) (hs : ∀ a, Instr.sameBits 10000 (ek a) (ek a) = true) : KeyK P k ek :=
  ⟨inj, chk, fun a es w h => by
    rw [findKey_struct hu]
    rcases findAsking_spec heq hb inj a w es 0 h with h1 | ⟨j, e, h1, h2, h3⟩
    · exact .inl h1
    · exact .inr ⟨j, e, by simpa using h1, h2, h3⟩, fun a w => by simp [Instr.keyThatStays, hs a]⟩
section
variable {κ α : Type}
open Classical in
noncomputable def kPut (f : κ → Option α) (k : κ) (x : α) : κ → Option α := fun j => if j = k then some x else f j
open Classical in
noncomputable def kDel (f : κ → Option α) (k : κ) : κ → Option α := fun j => if j = k then none else f j
def kNil : κ → Option α := fun _ => none
theorem kPut_same (f : κ → Option α) (k : κ) (x : α) : kPut f k x k = some x := by unfold kPut; rw [if_pos rfl]
theorem kPut_other (f : κ → Option α) {k j : κ} (x : α) (h : j ≠ k) : kPut f k x j = f j := by unfold kPut; rw [if_neg h]
theorem kDel_same (f : κ → Option α) (k : κ) : kDel f k k = none := by unfold kDel; rw [if_pos rfl]
theorem kDel_other (f : κ → Option α) {k j : κ} (h : j ≠ k) : kDel f k j = f j := by unfold kDel; rw [if_neg h]
/-- What a map's block holds, key by key. -/
def EntriesK (enc : α → Value) (ek : κ → Value) (f : κ → Option α) (es : Array MapEntry) (ck : Nat) : Prop :=
  Stamped es ck ∧ (∀ x ∈ es.toList, ∃ b, x.key = ek b) ∧ ∀ k v, (∃ e ∈ es.toList, e.key = ek k ∧ e.val = v) ↔ ∃ x, f k = some x ∧ v = enc x
def MapK (enc : α → Value) (ek : κ → Value) (N g : Nat) (f : κ → Option α) (w : World) : Prop :=
  N ≤ g ∧ ∃ es ck, w.heap[g]? = some (.map es ck) ∧ EntriesK enc ek f es ck
theorem MapK.lt {enc : α → Value} {ek : κ → Value} {N g : Nat} {f : κ → Option α} {w : World} (h : MapK enc ek N g f w) : g < w.heap.size := by
  obtain ⟨_, es, ck, hb, _⟩ := h
  exact (Array.getElem?_eq_some_iff.1 hb).1
theorem MapK.kept {enc : α → Value} {ek : κ → Value} {N g : Nat} {f : κ → Option α} {w w' : World} {row : Option Nat} (h : MapK enc ek N g f w) (hg : w.grownBy w' row) (hne : some g ≠ row) : MapK enc ek N g f w' := by
  have hlt := h.lt
  obtain ⟨h0, es, ck, hb, he⟩ := h
  exact ⟨h0, es, ck, (hg.block g hlt hne).trans hb, he⟩
theorem MapK.lower {enc : α → Value} {ek : κ → Value} {N M g : Nat} {f : κ → Option α} {w : World} (h : MapK enc ek N g f w) (hM : M ≤ N) : MapK enc ek M g f w := ⟨Nat.le_trans hM h.1, h.2⟩
theorem MapK.lasts2 {enc : α → Value} {ek : κ → Value} {N M : Nat} {row : Option Nat} {Tt : List TypeId} {g : Nat} {f : κ → Option α} : Lasts2 N row Tt (MapK enc ek M g f) :=
  ⟨fun w w' h hx => hx.kept h (by simp),
   fun w w' r T c h1 _ _ h3 hx => hx.kept h3 (fun e => by
     have e2 : g = r := by injection e
     subst e2
     obtain ⟨_, es, ck, hb, _⟩ := hx
     rw [h1] at hb; cases hb)⟩
theorem MapK.far {enc : α → Value} {ek : κ → Value} {N M g g1 : Nat} {f : κ → Option α} (hne : g1 ≠ g) : ∀ w w' : World, N ≤ g → w.grownBy w' (some g) → MapK enc ek M g1 f w → MapK enc ek M g1 f w' :=
  fun _ _ _ hg h => h.kept hg (fun e => hne (by injection e))
end
section
variable {κ α : Type} {enc : α → Value} {ek : κ → Value} {f : κ → Option α} {es : Array MapEntry} {ck : Nat} {P : Program} {kt : TypeId}
theorem EntriesK.nil : EntriesK enc ek (kNil : κ → Option α) #[] 0 := ⟨stamped_empty 0, by simp, fun k v => by simp [kNil]⟩
theorem EntriesK.find (h : EntriesK enc ek f es ck) (hK : KeyK P kt ek) (k : κ) (w : World) : ((Instr.findKey kt (ek k) es.toList).run P w = .ok none w ∧ f k = none ∧ ∀ x ∈ es.toList, x.key ≠ ek k) ∨ ∃ j e x, (Instr.findKey kt (ek k) es.toList).run P w = .ok (some (j, e.val)) w ∧ es[j]? = some e ∧ e.key = ek k ∧ f k = some x ∧ e.val = enc x := by
  rcases hK.find k es.toList w h.2.1 with ⟨h1, h2⟩ | ⟨j, e, h1, h2, h3⟩
  · left
    refine ⟨h1, ?_, h2⟩
    cases hf : f k with
    | none => rfl
    | some x =>
      obtain ⟨e, he, hek, _⟩ := (h.2.2 k (enc x)).2 ⟨x, hf, rfl⟩
      exact absurd hek (h2 e he)
  · right
    obtain ⟨x, hx, hv⟩ := (h.2.2 k e.val).1 ⟨e, List.mem_of_getElem? h2, h3, rfl⟩
    exact ⟨j, e, x, h1, by simpa using h2, h3, hx, hv⟩
theorem EntriesK.push (h : EntriesK enc ek f es ck) (hK : ∀ {a b : κ}, ek a = ek b → a = b) {k : κ} (x : α) (hn : ∀ y ∈ es.toList, y.key ≠ ek k) : EntriesK enc ek (kPut f k x) (es.push ⟨ek k, enc x, ck⟩) (ck + 1) := by
  refine ⟨stamped_push h.1 hn, fun y hy => ?_, fun j v => ?_⟩
  · simp only [Array.toList_push, List.mem_append, List.mem_singleton] at hy
    rcases hy with hy | rfl
    · exact h.2.1 y hy
    · exact ⟨k, rfl⟩
  · simp only [Array.toList_push, List.mem_append, List.mem_singleton]
    by_cases hj : j = k
    · subst hj
      rw [kPut_same]
      constructor
      · rintro ⟨e, he | rfl, h1, h2⟩
        · exact absurd h1 (hn e he)
        · exact ⟨x, rfl, h2.symm⟩
      · rintro ⟨y, hy, rfl⟩
        cases hy
        exact ⟨_, .inr rfl, rfl, rfl⟩
    · rw [kPut_other _ _ hj, ← h.2.2 j v]
      constructor
      · rintro ⟨e, he | rfl, h1, h2⟩
        · exact ⟨e, he, h1, h2⟩
        · exact absurd (hK h1).symm hj
      · rintro ⟨e, he, h1, h2⟩
        exact ⟨e, .inl he, h1, h2⟩
theorem EntriesK.modify (h : EntriesK enc ek f es ck) (hK : ∀ {a b : κ}, ek a = ek b → a = b) {k : κ} (x : α) {j : Nat} {e : MapEntry} (he : es[j]? = some e) (hk : e.key = ek k) : EntriesK enc ek (kPut f k x) (es.modify j fun e => { e with key := ek k, val := enc x }) ck := by
  have hkey : ∀ e', es[j]? = some e' → ({ e' with key := ek k, val := enc x } : MapEntry).key = e'.key := fun e' he' => by rw [he] at he'; cases he'; exact hk.symm
  have hat : ∀ q, (es.modify j fun e => { e with key := ek k, val := enc x })[q]? = if j = q then (es[q]?).map (fun e => { e with key := ek k, val := enc x }) else es[q]? := fun q => by rw [Array.getElem?_modify]
  have hmem : ∀ y, y ∈ (es.modify j fun e => { e with key := ek k, val := enc x }).toList ↔ ∃ q, (es.modify j fun e => { e with key := ek k, val := enc x })[q]? = some y := fun y =>
    ⟨fun hy => mem_at hy, fun ⟨q, hq⟩ => by
      have : (es.modify j fun e => { e with key := ek k, val := enc x }).toList[q]? = some y := by rw [Array.getElem?_toList]; exact hq
      exact List.mem_of_getElem? this⟩
  refine ⟨stamped_modify h.1 _ _ (fun _ _ => rfl) (fun e' _ he' => hkey e' he'), fun y hy => ?_, fun i v => ?_⟩
  · obtain ⟨q, hq⟩ := (hmem y).1 hy
    rw [hat] at hq
    split at hq
    · rename_i hjq
      subst hjq
      rw [he] at hq
      cases hq
      exact ⟨k, rfl⟩
    · exact h.2.1 y (List.mem_of_getElem? (i := q) (by simpa using hq))
  by_cases hi : i = k
  · subst hi
    rw [kPut_same]
    constructor
    · rintro ⟨y, hy, h1, h2⟩
      obtain ⟨q, hq⟩ := (hmem y).1 hy
      rw [hat] at hq
      split at hq
      · rename_i hjq
        subst hjq
        rw [he] at hq
        cases hq
        exact ⟨x, rfl, h2.symm⟩
      · rename_i hjq
        exact absurd (nodup_at h.1.2.2 he hq (hk.trans h1.symm)) hjq
    · rintro ⟨y, hy, rfl⟩
      cases hy
      exact ⟨{ e with key := ek i, val := enc x }, (hmem _).2 ⟨j, by rw [hat, if_pos rfl, he]; rfl⟩, rfl, rfl⟩
  · rw [kPut_other _ _ hi, ← h.2.2 i v]
    constructor
    · rintro ⟨y, hy, h1, h2⟩
      obtain ⟨q, hq⟩ := (hmem y).1 hy
      rw [hat] at hq
      split at hq
      · rename_i hjq
        subst hjq
        rw [he] at hq
        cases hq
        exact absurd (hK h1).symm hi
      · exact ⟨y, List.mem_of_getElem? (i := q) (by simpa using hq), h1, h2⟩
    · rintro ⟨y, hy, h1, h2⟩
      obtain ⟨q, hq⟩ := mem_at hy
      refine ⟨y, (hmem y).2 ⟨q, ?_⟩, h1, h2⟩
      rw [hat, if_neg (fun e2 => ?_), hq]
      subst e2
      rw [he] at hq
      cases hq
      rw [hk] at h1
      exact hi (hK h1).symm
theorem EntriesK.erase (h : EntriesK enc ek f es ck) (hK : ∀ {a b : κ}, ek a = ek b → a = b) {k : κ} {j : Nat} {e : MapEntry} (he : es[j]? = some e) (hk : e.key = ek k) : EntriesK enc ek (kDel f k) (es.eraseIdxIfInBounds j) ck := by
  have hjlt : j < es.size := (Array.getElem?_eq_some_iff.1 he).1
  have hl : (es.eraseIdxIfInBounds j).toList = es.toList.eraseIdx j := by
    unfold Array.eraseIdxIfInBounds
    rw [dif_pos hjlt, Array.toList_eraseIdx]
  have hmem : ∀ y, y ∈ (es.eraseIdxIfInBounds j).toList ↔ ∃ q, q ≠ j ∧ es[q]? = some y := fun y => by
    rw [hl, List.mem_eraseIdx_iff_getElem?]
    simp
  have hsub : ∀ x ∈ (es.eraseIdxIfInBounds j).toList, x ∈ es.toList := fun x hx => by
    rw [hl] at hx
    exact (List.eraseIdx_sublist _ _).subset hx
  refine ⟨stamped_erase h.1 _, fun x hx => h.2.1 x (hsub x hx), fun i v => ?_⟩
  by_cases hi : i = k
  · subst hi
    rw [kDel_same]
    constructor
    · rintro ⟨y, hy, h1, h2⟩
      obtain ⟨q, hq, hy2⟩ := (hmem y).1 hy
      exact absurd (nodup_at h.1.2.2 hy2 he (h1.trans hk.symm)) hq
    · rintro ⟨y, hy, _⟩
      cases hy
  · rw [kDel_other _ hi, ← h.2.2 i v]
    constructor
    · rintro ⟨y, hy, h1, h2⟩
      exact ⟨y, hsub y hy, h1, h2⟩
    · rintro ⟨y, hy, h1, h2⟩
      obtain ⟨q, hq⟩ := mem_at hy
      refine ⟨y, (hmem y).2 ⟨q, fun e2 => ?_, hq⟩, h1, h2⟩
      subst e2
      rw [he] at hq
      cases hq
      rw [hk] at h1
      exact hi (hK h1).symm
theorem EntriesK.same (h : EntriesK enc ek f es ck) {k : κ} (hn : f k = none) : EntriesK enc ek (kDel f k) es ck := by
  have e : kDel f k = f := by
    funext j
    by_cases hj : j = k
    · subst hj; rw [kDel_same, hn]
    · rw [kDel_other _ hj]
  rw [e]; exact h
end
/-- A fact that stands while the map at g turns. -/
def FarK (N g : Nat) (A : World → Prop) : Prop := ∀ w w' : World, N ≤ g → (∃ es ck, w.heap[g]? = some (.map es ck)) → w.grownBy w' (some g) → A w → A w'
def MFar (A : World → Prop) : Prop := ∀ N g, FarK N g A
theorem SlT.mfar {α : Type} {enc : α → List Value} {k : Nat} {T : TypeId} {A : Option Addr} {n : Nat} {l : List α} : MFar (fun w => SlT enc k T w A n l) := fun N g w w' _ ⟨es, ck, hb⟩ hg h => by
  refine ⟨h.len, fun hn => ?_⟩
  obtain ⟨b, off, cells, fz, e, hh, hr⟩ := h.at_ hn
  exact ⟨b, off, cells, fz, e, (hg.block b (Array.getElem?_eq_some_iff.1 hh).1 (fun e2 => by
    have e3 : b = g := by injection e2
    subst e3
    rw [hb] at hh; cases hh)).trans hh, hr⟩
theorem SlOld.mfar {α : Type} {enc : α → List Value} {k N0 : Nat} {T : TypeId} {row : Option Nat} {A : Option Addr} {n : Nat} {l : List α} : MFar (SlOld enc k T N0 row A n l) := fun N g w w' h1 h2 h3 ⟨h4, h5⟩ => ⟨SlT.mfar N g w w' h1 h2 h3 h4, h5⟩
theorem MFar.and_ {A B : World → Prop} (hA : MFar A) (hB : MFar B) : MFar (fun w => A w ∧ B w) := fun N g w w' h1 h2 h3 ⟨h4, h5⟩ => ⟨hA N g w w' h1 h2 h3 h4, hB N g w w' h1 h2 h3 h5⟩
theorem MFar.far {A : World → Prop} (h : MFar A) {N g : Nat} : FarK N g A := h N g
theorem farK_nil {N g : Nat} {X : List (World → Prop)} : ∀ A ∈ ([] : List (World → Prop)), FarK N g A ∧ A ∈ X := fun _ h => by cases h
theorem farK_cons {N g : Nat} {X X' : List (World → Prop)} {A : World → Prop} {i : Nat} (h : FarK N g A) (hi : X[i]? = some A) (ht : ∀ B ∈ X', FarK N g B ∧ B ∈ X) : ∀ B ∈ A :: X', FarK N g B ∧ B ∈ X := fun B hB => by
  rcases List.mem_cons.1 hB with rfl | hB
  · exact ⟨h, List.mem_of_getElem? hi⟩
  · exact ht B hB
/-- How many entries a map has. -/
def MapLen (g n : Nat) (w : World) : Prop := ∃ es ck, w.heap[g]? = some (.map es ck) ∧ es.size = n
theorem MapLen.lasts2 {N : Nat} {row : Option Nat} {Tt : List TypeId} {g n : Nat} : Lasts2 N row Tt (MapLen g n) :=
  ⟨fun w w' h ⟨es, ck, hx, hn⟩ => ⟨es, ck, (h.block g (Array.getElem?_eq_some_iff.1 hx).1 (by simp)).trans hx, hn⟩,
   fun w w' r T c h1 _ _ h3 ⟨es, ck, hx, hn⟩ => ⟨es, ck, (h3.block g (Array.getElem?_eq_some_iff.1 hx).1 (fun e => by
     have e2 : g = r := by injection e
     subst e2
     rw [h1] at hx; cases hx)).trans hx, hn⟩⟩
theorem MapK.len {κ α : Type} {enc : α → Value} {ek : κ → Value} {N g : Nat} {f : κ → Option α} {w : World} (h : MapK enc ek N g f w) : ∃ n, MapLen g n w := by
  obtain ⟨_, es, ck, hb, _⟩ := h
  exact ⟨es.size, es, ck, hb, rfl⟩
section
variable {P : Program} {c : Cx} {ops : Array Oper} {Q : Exit → Act → World → Prop} {rest : List Oper} {S : List (Nat × Value)} {K : World → Prop} {L : List (Nat × TypeId × List Value)} {O : List Own} {X X' : List (World → Prop)} {Z : World → Prop} {nn : Nat}
variable {d : Nat} {ty : TypeId} {pos : String} {aft : Array Edge} {κ α : Type} {enc : α → Value} {ek : κ → Value} {f : κ → Option α}
theorem ov_lookKok {t k e : TypeId} {x y : Operand} {N g : Nat} {s : κ} (z : α) (hK : KeyK P k ek) (ht : mapTy P t = some (k, e)) (hzz : (P.info? e).bind (·.zero) = some (enc z)) (hx : rd S x = some (.map (some g))) (hy : rd S y = some (ek s)) (hm : ∀ w, Z w → MapK enc ek N g f w) :
    OV P nn S Z ⟨some d, .lookup t x y true, ty, pos, aft, none⟩ (.tuple #[enc ((f s).getD z), .bool (f s).isSome]) := fun a w ha hz => by
  obtain ⟨_, es, ck, hb, he⟩ := hm w hz
  have hzero : (zeroValue e).run P w = .ok (enc z) w := by
    cases hi : P.info? e with
    | none => simp [hi] at hzz
    | some inf => simp [zeroValue, typeInfo, hi, (by simpa [hi] using hzz : inf.zero = some (enc z))]
  rcases he.find hK s w with ⟨hf, hn, _⟩ | ⟨j, en, xv, hf, _, _, hn, hv⟩
  · simp [execOp, ha.eval hx, ha.eval hy, Instr.lookup, run_underlying (mapTy_u ht), MapKept.run_getObj_map hb, hK.chk, hf, hzero, hn, Result.andThen]
  · simp [execOp, ha.eval hx, ha.eval hy, Instr.lookup, run_underlying (mapTy_u ht), MapKept.run_getObj_map hb, hK.chk, hf, hn, hv, Result.andThen]
/-- A new map; what is known of its number. -/
theorem wl_makeMapK {t : TypeId} (R : Nat → Prop) (hR : ∀ w, Mem c K L O X w → R w.heap.size) (hd : Nat.ble (d + 1) c.n = true) (h : ∀ g, R g → WL P c ops Q rest ((d, .map (some g)) :: S) K L O (MapK enc ek c.w0.heap.size g kNil :: X)) : WL P c ops Q (⟨some d, .makeMap t none, ty, pos, aft, none⟩ :: rest) S K L O X := by
  intro a w ha hm
  refine wpList_plain rfl fun K' hK => ?_
  unfold Oper.wp
  have : (execOp a.eval ⟨some d, .makeMap t none, ty, pos, aft, none⟩).run P w = .ok (.value (.map (some w.heap.size))) (w.alloc (.map #[] 0)) := by
    simp [execOp, Instr.makeMap]
  rw [this]
  exact hK _ _ (h _ (hR w hm) _ _ (ha.put hd _) ((hm.grow (grow_alloc (World.grownBy.refl w none) _)).also MapK.lasts2 ⟨hm.g.size, _, _, (MapKept.heap_alloc w _).1, EntriesK.nil⟩))
theorem wl_mapPutK {t k e : TypeId} {x y z : Operand} {g : Nat} {s : κ} {v : α} (i : Nat) (hK : KeyK P k ek) (ht : mapTy P t = some (k, e)) (hx : rd S x = some (.map (some g))) (hy : rd S y = some (ek s)) (hz : rd S z = some (enc v)) (hi : X[i]? = some (MapK enc ek c.w0.heap.size g f))
    (hX : ∀ A ∈ X', FarK c.w0.heap.size g A ∧ A ∈ X)
    (h : WL P c ops Q rest S K L O (MapK enc ek c.w0.heap.size g (kPut f s v) :: X')) : WL P c ops Q (⟨none, .mapUpdate t x y z, ty, pos, aft, none⟩ :: rest) S K L O X := by
  intro a w ha hm
  refine wpList_plain rfl fun K' hK' => ?_
  obtain ⟨hg, es, ck, hb, he⟩ := hm.fact i hi
  have hdone : ∀ es' ck', EntriesK enc ek (kPut f s v) es' ck' → Mem c K L O (MapK enc ek c.w0.heap.size g (kPut f s v) :: X') (setBlock w g (.map es' ck')) := fun es' ck' he' => hm.mapped hg hb fun A hA => by
    rcases List.mem_cons.1 hA with rfl | hA
    · exact ⟨⟨hg, _, _, ChangeMaps.heap_setBlock_same hb _, he'⟩, MapK.lasts2⟩
    · exact ⟨(hX A hA).1 _ _ hg ⟨_, _, hb⟩ (grow_set hb) (hm.x A (hX A hA).2), hm.l A (hX A hA).2⟩
  unfold Oper.wp
  rcases he.find hK s w with ⟨hf, _, hn⟩ | ⟨j, en, xv, hf, hj, hkk, _, _⟩
  · have : (execOp a.eval ⟨none, .mapUpdate t x y z, ty, pos, aft, none⟩).run P w = .ok .skip (setBlock w g (.map (es.push ⟨ek s, enc v, ck⟩) (ck + 1))) := by
      simp [execOp, ha.eval hx, ha.eval hy, ha.eval hz, Instr.mapUpdate, run_underlying (mapTy_u ht), MapKept.run_getObj_map hb, MapKept.run_setObj_map _ hb, hK.chk, hf, Result.andThen, setBlock]
    rw [this]
    exact hK' _ _ (h _ _ ha (hdone _ _ (he.push hK.inj v hn)))
  · have : (execOp a.eval ⟨none, .mapUpdate t x y z, ty, pos, aft, none⟩).run P w = .ok .skip (setBlock w g (.map (es.modify j fun e => { e with key := ek s, val := enc v }) ck)) := by
      simp [execOp, ha.eval hx, ha.eval hy, ha.eval hz, Instr.mapUpdate, run_underlying (mapTy_u ht), MapKept.run_getObj_map hb, MapKept.run_setObj_map _ hb, hK.chk, hf, hj, hkk, hK.stay, Result.andThen, setBlock]
    rw [this]
    exact hK' _ _ (h _ _ ha (hdone _ _ (he.modify hK.inj v hj hkk)))
end
end Go.Proofs.Ytodcildcipfmcaa
namespace Go.Proofs.Ytodcildcipfmcaa
open Go.RowKit
def ekE (x : ByteArray × ByteArray) : Value := .agg #[.string x.1, .string x.2]
def eqEn (a b : ByteArray × ByteArray) : Bool := a.1.toList == b.1.toList && a.2.toList == b.2.toList
theorem ekE_inj {a b : ByteArray × ByteArray} (h : ekE a = ekE b) : a = b := by
  unfold ekE at h
  simp only [Value.agg.injEq, Array.mk.injEq, List.cons.injEq, Value.string.injEq, and_true] at h
  exact Prod.ext h.1 h.2
theorem eqEn_iff (a b : ByteArray × ByteArray) : eqEn a b = true ↔ a = b := by
  unfold eqEn
  rw [Bool.and_eq_true, bytes_eqb, bytes_eqb]
  exact ⟨fun h => Prod.ext h.1 h.2, fun h => by subst h; exact ⟨rfl, rfl⟩⟩
set_option maxRecDepth 100000 in
theorem eqEnds (a b : ByteArray × ByteArray) (w : World) : (Op.equal 105 (ekE a) (ekE b)).run Try.prog w = .ok (eqEn a b) w := by
  have hS : Try.prog.underlying 105 = some (.struct (Try.prog.fieldsOf 105)) := by kernel_rfl
  have hp : Try.prog.stoodInHeld 105 = false := by kernel_rfl
  obtain ⟨a0, a1⟩ := a
  obtain ⟨b0, b1⟩ := b
  unfold ekE eqEn Op.equal Op.maxDepth
  rw [show (10000 : Nat) = 9999 + 1 from rfl, run_equalIn_agg w 9999 105 _ _ hS hp]
  simp only [Program.fieldsOf, Try.underlying105]
  have u9 := Try.underlying9
  clear hS hp
  go_simp
  repeat' split
  all_goals simp_all
set_option maxRecDepth 100000 in
theorem chkEnds (em : Bool) (a : ByteArray × ByteArray) (w : World) : (Instr.checkKey em 10000 105 (ekE a)).run Try.prog w = .ok () w := by
  obtain ⟨a0, a1⟩ := a
  unfold ekE
  rw [show (10000 : Nat) = 9998 + 1 + 1 from rfl]
  have u9 := Try.underlying9
  unfold Instr.checkKey
  simp only [Sem.run_bind, run_underlying Try.underlying105]
  unfold Instr.checkKey
  go_simp
theorem keyEnds : KeyK Try.prog 105 ekE := keyK_struct Try.underlying105 eqEnds eqEn_iff ekE_inj chkEnds (fun a => by
  unfold ekE
  rw [show (10000 : Nat) = 9998 + 1 + 1 from rfl]
  simp [Instr.sameBits]
  exact ⟨(Go.MapKept.bytes_beq _ _).2 rfl, (Go.MapKept.bytes_beq _ _).2 rfl⟩)
def vRo (x : Ro) : Value := .agg (roEnc x).toArray
def ro0 : Ro := ⟨⟨#[]⟩, ⟨#[]⟩, 0, 0⟩
abbrev Net := ByteArray × ByteArray → Option Ro
/-- All roads that a net holds are right. -/
def NetOk (F : Net) : Prop := ∀ k r, F k = some r → CarOk r
theorem NetOk.nil : NetOk (kNil : Net) := fun k r h => by cases h
theorem NetOk.put {F : Net} (h : NetOk F) {k : ByteArray × ByteArray} {r : Ro} (hr : CarOk r) : NetOk (kPut F k r) := fun j x hj => by
  by_cases e : j = k
  · subst e
    rw [kPut_same] at hj; cases hj; exact hr
  · rw [kPut_other _ _ e] at hj; exact h j x hj
theorem NetOk.car {F : Net} (h : NetOk F) (k : ByteArray × ByteArray) : CarOk ((F k).getD ro0) := by
  cases hF : F k with
  | none => exact ⟨by decide, by decide⟩
  | some r => exact h k r hF
/-- The first numbers of a row are what the needs say. -/
def SetP (f : Nd → Int) (nl : List Nd) (hl : List Int) (i : Nat) : Prop := ∀ j x, j < i → nl[j]? = some x → hl[j]? = some (f x)
theorem SetP.zero {f : Nd → Int} {nl : List Nd} {hl : List Int} : SetP f nl hl 0 := fun j x hj => absurd hj (by omega)
theorem SetP.next {f : Nd → Int} {nl : List Nd} {hl : List Int} {i : Nat} {x : Nd} {v : Int} (h : SetP f nl hl i) (hx : nl[i]? = some x) (hi : i < hl.length) (e : v = f x) : SetP f nl (hl.set i v) (i + 1) := fun j y hj hy => by
  by_cases e1 : i = j
  · subst e1
    rw [hx] at hy; cases hy
    rw [List.getElem?_set_self hi, e]
  · rw [List.getElem?_set_ne e1]; exact h j y (by omega) hy
theorem SetP.all {f : Nd → Int} {nl : List Nd} {hl : List Int} {n : Nat} (h : SetP f nl hl n) (h1 : nl.length = n) (h2 : hl.length = n) : hl = nl.map f := List.ext_getElem? fun j => by
  by_cases hj : j < n
  · obtain ⟨x, hx⟩ : ∃ x, nl[j]? = some x := ⟨_, List.getElem?_eq_getElem (by omega)⟩
    rw [h j x hj hx, List.getElem?_map, hx]; rfl
  · rw [List.getElem?_eq_none (by omega), List.getElem?_eq_none (by rw [List.length_map]; omega)]
def hvF (x : Nd) : Int := max x.many 0
def wtF (x : Nd) : Int := max (-x.many) 0
/-- An arc goes from one that has to one that wants. -/
def ArcOk (nl : List Nd) (a : Arc) : Prop := (∃ x, nl[a.fr]? = some x ∧ 0 < x.many) ∧ (∃ y, nl[a.to_]? = some y ∧ y.many < 0) ∧ (0 ≤ a.car ∧ a.car ≤ 1000000) ∧ a.flow = 0
theorem arcs_next {nl : List Nd} {al : List Arc} (h : ∀ a ∈ al, ArcOk nl a) {b : Arc} (hb : ArcOk nl b) : ∀ a ∈ al ++ [b], ArcOk nl a := fun a ha => by
  rcases List.mem_append.1 ha with ha | ha
  · exact h a ha
  · rw [List.mem_singleton.1 ha]; exact hb
theorem netOf_any (l : List Ro) (A : Option Addr) (n c : Nat) (w : World) (hl : SlT roEnc 4 66 w A n l) (hcr : ∀ x ∈ l, CarOk x) (hn : n ≤ 1000000) :
  Calls Try.prog 35 #[.slice A n c] w (fun e w' => ∃ (g : Nat) (F : Net), e = .returned (.map (some g)) ∧ MapK vRo ekE 0 g F w' ∧ NetOk F ∧ w.grownBy w' none) := by
 refine gw_enter ⟨22, w, none, []⟩ Try.func35 rfl Try.ntmps35 rfl (mem0 (X := [SlOld roEnc 4 66 w.heap.size none A n l]) (allF_cons hl.old allF_nil) (allL_cons SlOld.lasts allL_nil)) ?_
 refine sr_ ?_
 have hlen := hl.len
 refine sg_ rfl (nn_ (sr_ ?_))
 refine wl_makeMapK (enc := vRo) (ek := ekE) (fun g => True) (fun _ hm => trivial) rfl fun mp1 hne_mp1 => ?_
 refine sg_ rfl (nn_ (gw_seq (sr_ (mv_ rfl (wl_ov (ov_len es49 rfl) rfl (mv_ rfl (nn_ (gw_block ?_))))))))
 refine gw_loop (γ := Nat × Net) (fun gg => gg.1 ≤ n ∧ NetOk gg.2) (fun gg => [(2, .map none), (3, .map (some mp1)), (7, .slice A n c), (8, .int .i64 ((n : Nat) : Int)), (9, .int .i64 ((gg.1 : Nat) : Int))]) (fun gg => fun _ => True) (fun gg => []) (fun gg => []) (fun gg => [MapK vRo ekE w.heap.size mp1 (gg.2), SlOld roEnc 4 66 w.heap.size none A n l]) (fun gg => n - gg.1) (0, kNil) ⟨Nat.zero_le _, NetOk.nil⟩ ⟨rfl, rfl, rfl, rfl, rfl, trivial⟩ (fun _ hm => hm.pick [] [] [0, 1] rfl rfl) ?_
 rintro ⟨i, F⟩ hinv
 replace hinv : i ≤ n ∧ NetOk F := hinv
 dsimp only
 refine sr_ ?_
 obtain ⟨hi0, hF⟩ := hinv
 refine wl_ov (ov_lss rfl rfl) rfl (nn_ (gw_seq ?_))
 refine gw_cond rfl (fun hh => ?_) (fun hh => ?_)
 ·have hi : ((i : Nat) : Int) < ((n : Nat) : Int) := by simpa using hh
  clear hh
  refine gw_skip (nx_then (gw_seq (gw_block (sr_ ?_))))
  obtain ⟨b, off, hA, _, _⟩ := hl.get (by omega)
  subst hA
  obtain ⟨x, hx⟩ : ∃ x, l[i]? = some x := ⟨_, List.getElem?_eq_getElem (by omega)⟩
  obtain ⟨x0, x1, x2, x3⟩ := x
  have hxc := hcr _ (List.mem_of_getElem? hx)
  refine wl_ov (ov_index (j := i) es49 rfl rfl (by omega)) rfl ?_
  refine wl_ov (ov_elem (vs := [.string x0, .string x1, .int .i64 x2, .int .i64 x3]) rz66 rfl (fun _ hm => (hm.fact 1 rfl).1) hx rfl rfl) rfl ?_
  refine wl_alloc zc66 rfl fun g2 => ?_
  refine wl_stores (cs' := [.string x0, .string x1, .int .i64 x2, .int .i64 x3]) 0 rz66 rfl rfl rfl rfl rfl rfl rfl rfl ?_
  refine nn_ (gw_region (mv_ rfl (fd_ fo66_0 rfl rfl (lk_ sc9 0 rfl rfl rfl (fd_ fo66_1 rfl rfl (lk_ sc9 0 rfl rfl rfl ?_))))))
  refine wl_ov (ov_build (cs := [.string x0, .string x1]) rfl (by kernel_rfl)) rfl ?_
  refine wl_ov (ov_loads rz66 rfl (fun _ hm => hm.blkI 0 rfl) rfl rfl) rfl ?_
  refine wl_mapPutK (enc := vRo) (ek := ekE) (s := (x0, x1)) (v := ⟨x0, x1, x2, x3⟩) (e := 66) (X' := [SlOld roEnc 4 66 w.heap.size none (some ⟨b, off, none⟩) n l]) 0 keyEnds (by kernel_rfl) rfl rfl rfl rfl (farK_cons (i := 1) SlOld.mfar.far rfl farK_nil) ?_
  refine wl_nil (nx_blk_nrm (nx_then (gw_region (ad_ rfl rfl (mv_ rfl (wl_nil ?_))))))
  exact nx_round (i + 1, kPut (F) (x0, x1) (⟨x0, x1, x2, x3⟩)) ⟨by dsimp only; omega, hF.put hxc⟩ (by dsimp only; omega) ⟨rfl, rfl, rfl, rfl, (some_int (by omega)), trivial⟩ (fun _ hm => hm.pick [] [] [0, 1] rfl rfl)
 have hi : ¬ (((i : Nat) : Int) < ((n : Nat) : Int)) := by simpa using hh
 clear hh
 refine gw_exit ?_
 refine nx_then_exit (nx_then_exit ?_)
 refine nx_blk_here ?_
 refine nx_then (sr_ (mv_ rfl (sg_ rfl (nn_ ?_))))
 refine gw_ret ?_
 refine nx_ret1 rfl rfl fun wx hm => ?_
 exact ⟨mp1, F, rfl, ((hm.fact 0 rfl)).lower (Nat.zero_le _), hF, hm.g⟩
theorem transportOf_any (nl : List Nd) (rl : List Ro) (nA rA : Option Addr) (n nc rn rc : Nat) (w : World) (hn : SlT ndEnc 2 44 w nA n nl) (hr : SlT roEnc 4 66 w rA rn rl) (hnb : ∀ x ∈ nl, NdB x) (hcr : ∀ x ∈ rl, CarOk x) (hnn : n ≤ 10) (hrn : rn ≤ 1000000) :
  Calls Try.prog 15 #[.slice nA n nc, .slice rA rn rc] w (fun e w' => ∃ (gx : Nat) (hA : Option Addr) (hc : Nat) (wA : Option Addr) (wc : Nat) (aA : Option Addr) (k ac : Nat) (al : List Arc), e = .returned (.pointer (some ⟨gx, 0, none⟩)) ∧ (k ≤ n * n ∧ al.length = k ∧ ∀ a ∈ al, ArcOk nl a) ∧
   w'.ownsRow w.heap.size 79 4 (.slice aA k ac) k (al.flatMap arEnc) ∧ (Blk w' gx 77 [.slice hA n hc, .slice wA n wc, .slice aA k ac] ∧ SlT naEnc 1 3 w' hA n (nl.map hvF) ∧ SlT naEnc 1 3 w' wA n (nl.map wtF)) ∧ w.grownBy w' none) := by
 refine gw_enter ⟨94, w, none, []⟩ Try.func15 rfl Try.ntmps15 rfl (mem0 (X := [SlOld ndEnc 2 44 w.heap.size none nA n nl, SlOld roEnc 4 66 w.heap.size none rA rn rl]) (allF_cons hn.old (allF_cons hr.old allF_nil)) (allL_cons SlOld.lasts (allL_cons SlOld.lasts allL_nil))) ?_
 refine sr_ ?_
 have hlen := hn.len
 refine sg_ rfl (nn_ ?_)
 refine gw_nilOwn 79 4 ?_
 refine gw_cut (γ := Nat × Nat × Nat) (I := (fun g => True)) (S' := (fun g => [(0, .slice nA n nc), (1, .slice rA rn rc), (4, .pointer none), (5, .pointer (some ⟨g.1, 0, none⟩))])) (K' := (fun g => fun _ => True)) (L' := (fun g => [(g.1, 77, [.slice (some ⟨g.2.1, 0, none⟩) n n, .slice (some ⟨g.2.2, 0, none⟩) n n, .slice none 0 0])])) (O' := (fun g => [⟨.slice (some ⟨g.2.1, 0, none⟩) n n, 3, 1, n, (List.replicate n (0 : Int)).flatMap naEnc⟩, ⟨.slice (some ⟨g.2.2, 0, none⟩) n n, 3, 1, n, (List.replicate n (0 : Int)).flatMap naEnc⟩, ⟨.slice none 0 0, 79, 4, 0, []⟩])) (X' := (fun g => [SlOld ndEnc 2 44 w.heap.size none nA n nl, SlOld roEnc 4 66 w.heap.size none rA rn rl])) ?_ ?_
 ·refine gd (fun wz => (SlOld ndEnc 2 44 w.heap.size none nA n nl) wz ∧ (SlOld roEnc 4 66 w.heap.size none rA rn rl) wz ∧ True) mixed (fun _ hm => ⟨hm.fa 0, hm.fa 1, trivial⟩) fun z => ?_
  refine wt 0 9 1 rfl z (ov_move rfl) ?_
  refine wt 1 9 3 rfl z (ov_len es35 rfl) ?_
  refine wt 3 9 11 rfl z (ov_move rfl) ?_
  refine wt 4 9 27 rfl z (ov_len es35 rfl) ?_
  refine wa_all [2, 5] (by kernel_rfl) rfl ⟨⟨_, rfl, ?_⟩, ⟨_, rfl, ?_⟩, trivial⟩
  ·refine wl_makeO (n := n) (sz := 1) (e := 3) (by_ := 8) (z := .int .i64 0) (by kernel_rfl) (by kernel_rfl) rfl rfl (by omega) (by omega) (by omega) (by unfold maxLen; omega) (made_flat (enc := naEnc) (x := (0 : Int)) rfl rfl (by decide) (n)) rfl fun g1 => ?_
   refine wl_nil ?_
   refine nw 9 31 (fun _ hm => ⟨hm.fa 0, hm.fa 1, trivial⟩) fun z => ?_
   refine wa1 5 rfl ?_
   refine wl_makeO (n := n) (sz := 1) (e := 3) (by_ := 8) (z := .int .i64 0) (by kernel_rfl) (by kernel_rfl) rfl rfl (by omega) (by omega) (by omega) (by unfold maxLen; omega) (made_flat (enc := naEnc) (x := (0 : Int)) rfl rfl (by decide) (n)) rfl fun g2 => ?_
   refine wl_nil ?_
   refine nw 9 63 (fun _ hm => ⟨hm.fa 0, hm.fa 1, trivial⟩) fun z => ?_
   refine wt 6 9 127 rfl z (ov_build (cs := [.slice (some ⟨g1, 0, none⟩) n n, .slice (some ⟨g2, 0, none⟩) n n, .slice none 0 0]) rfl (by kernel_rfl)) ?_
   refine wa1 7 rfl ?_
   refine wl_box rfl rfl rfl fun g3 => ?_
   refine wl_nil ?_
   refine nw 9 255 (fun _ hm => ⟨hm.fa 0, hm.fa 1, trivial⟩) fun z => ?_
   refine wt 8 9 511 rfl z (ov_assign rfl) ?_
   refine wa_done (by kernel_rfl) ?_
   exact nx_meet (g3, g1, g2) trivial ⟨rfl, rfl, rfl, rfl, trivial⟩ (fun _ hm => hm.pick [0] [1, 0, 2] [0, 1] rfl rfl)
  refine wl_makeO (n := n) (sz := 1) (e := 3) (by_ := 8) (z := .int .i64 0) (by kernel_rfl) (by kernel_rfl) rfl rfl (by omega) (by omega) (by omega) (by unfold maxLen; omega) (made_flat (enc := naEnc) (x := (0 : Int)) rfl rfl (by decide) (n)) rfl fun g4 => ?_
  refine wl_nil ?_
  refine nw 9 59 (fun _ hm => ⟨hm.fa 0, hm.fa 1, trivial⟩) fun z => ?_
  refine wa1 2 rfl ?_
  refine wl_makeO (n := n) (sz := 1) (e := 3) (by_ := 8) (z := .int .i64 0) (by kernel_rfl) (by kernel_rfl) rfl rfl (by omega) (by omega) (by omega) (by unfold maxLen; omega) (made_flat (enc := naEnc) (x := (0 : Int)) rfl rfl (by decide) (n)) rfl fun g5 => ?_
  refine wl_nil ?_
  refine nw 9 63 (fun _ hm => ⟨hm.fa 0, hm.fa 1, trivial⟩) fun z => ?_
  refine wt 6 9 127 rfl z (ov_build (cs := [.slice (some ⟨g5, 0, none⟩) n n, .slice (some ⟨g4, 0, none⟩) n n, .slice none 0 0]) rfl (by kernel_rfl)) ?_
  refine wa1 7 rfl ?_
  refine wl_box rfl rfl rfl fun g6 => ?_
  refine wl_nil ?_
  refine nw 9 255 (fun _ hm => ⟨hm.fa 0, hm.fa 1, trivial⟩) fun z => ?_
  refine wt 8 9 511 rfl z (ov_assign rfl) ?_
  refine wa_done (by kernel_rfl) ?_
  exact nx_meet (g6, g5, g4) trivial ⟨rfl, rfl, rfl, rfl, trivial⟩ (fun _ hm => hm.pick [0] [0, 1, 2] [0, 1] rfl rfl)
 rintro ⟨gx, gh, gw⟩ hinv
 replace hinv : True := hinv
 dsimp only
 refine sr_ (mv_ rfl ?_)
 refine wl_callx (γ := Nat × Net) (val := (fun g => .map (some g.1))) (φ := (fun g => NetOk g.2)) (Y := (fun g => fun wy => MapK vRo ekE 0 g.1 g.2 wy)) rfl cb35 rfl rfl (fun wx hm => (netOf_any rl rA rn rc wx (hm.fact 1 rfl).1 hcr hrn).mono fun _ _ ⟨g, F, he, h1, h2, hg⟩ => ⟨(g, F), he, h2, hg, h1⟩) (fun _ => MapK.lasts2) ?_
 rintro ⟨gm, F⟩ hF
 dsimp only at hF ⊢
 refine sg_ rfl (nn_ (gw_seq (sr_ (mv_ rfl (wl_ov (ov_len es35 rfl) rfl (mv_ rfl (nn_ (gw_block ?_))))))))
 refine gw_loop (γ := Nat × List Int × List Int × Nat × Value × List Arc) (fun gg => (gg.1 ≤ n ∧ gg.2.1.length = n ∧ gg.2.2.1.length = n) ∧ (SetP hvF nl gg.2.1 gg.1 ∧ SetP wtF nl gg.2.2.1 gg.1) ∧ (gg.2.2.2.1 ≤ gg.1 * n ∧ gg.2.2.2.2.2.length = gg.2.2.2.1 ∧ ∀ a ∈ gg.2.2.2.2.2, ArcOk nl a)) (fun gg => [(0, .slice nA n nc), (4, .pointer none), (5, .pointer (some ⟨gx, 0, none⟩)), (6, .map (some gm)), (23, .slice nA n nc), (24, .int .i64 ((n : Nat) : Int)), (25, .int .i64 ((gg.1 : Nat) : Int))]) (fun gg => fun _ => True) (fun gg => [(gx, 77, [.slice (some ⟨gh, 0, none⟩) n n, .slice (some ⟨gw, 0, none⟩) n n, gg.2.2.2.2.1])]) (fun gg => [⟨.slice (some ⟨gh, 0, none⟩) n n, 3, 1, n, gg.2.1.flatMap naEnc⟩, ⟨.slice (some ⟨gw, 0, none⟩) n n, 3, 1, n, gg.2.2.1.flatMap naEnc⟩, ⟨gg.2.2.2.2.1, 79, 4, gg.2.2.2.1, gg.2.2.2.2.2.flatMap arEnc⟩]) (fun gg => [SlOld ndEnc 2 44 w.heap.size none nA n nl, fun wy => MapK vRo ekE 0 gm F wy]) (fun gg => n - gg.1) (0, (List.replicate n (0 : Int)), (List.replicate n (0 : Int)), 0, (.slice none 0 0), []) ⟨⟨Nat.zero_le _, List.length_replicate, List.length_replicate⟩, ⟨SetP.zero, SetP.zero⟩, Nat.zero_le _, rfl, (fun _ h => by cases h)⟩ ⟨rfl, rfl, rfl, rfl, rfl, rfl, rfl, trivial⟩ (fun _ hm => hm.pick [0] [0, 1, 2] [1, 0] rfl rfl) ?_
 rintro ⟨i, hl, wl, k, av, al⟩ hinv
 replace hinv : (i ≤ n ∧ hl.length = n ∧ wl.length = n) ∧ (SetP hvF nl hl i ∧ SetP wtF nl wl i) ∧ (k ≤ i * n ∧ al.length = k ∧ ∀ a ∈ al, ArcOk nl a) := hinv
 dsimp only
 refine sr_ ?_
 obtain ⟨⟨hi0, hhl, hwl⟩, ⟨hsh, hsw⟩, hki, hal, hok⟩ := hinv
 refine wl_ov (ov_lss rfl rfl) rfl (nn_ (gw_seq ?_))
 refine gw_cond rfl (fun hh => ?_) (fun hh => ?_)
 ·have hi : ((i : Nat) : Int) < ((n : Nat) : Int) := by simpa using hh
  clear hh
  refine gw_skip (nx_then (gw_seq (gw_block (sr_ ?_))))
  obtain ⟨b, off, hA, _, _⟩ := hn.get (by omega)
  subst hA
  obtain ⟨x, hx⟩ : ∃ x, nl[i]? = some x := ⟨_, List.getElem?_eq_getElem (by omega)⟩
  obtain ⟨x0, x1⟩ := x
  have hxb := hnb _ (List.mem_of_getElem? hx)
  unfold NdB at hxb
  dsimp only at hxb
  obtain ⟨u, hu⟩ : ∃ x, hl[i]? = some x := ⟨_, List.getElem?_eq_getElem (by omega)⟩
  obtain ⟨v, hv⟩ : ∃ x, wl[i]? = some x := ⟨_, List.getElem?_eq_getElem (by omega)⟩
  refine mv_ rfl ?_
  refine wl_ov (ov_index (j := i) es35 rfl rfl (by omega)) rfl ?_
  refine wl_ov (ov_elem (vs := [.string x0, .int .i64 x1]) rz44 rfl (fun _ hm => (hm.fact 0 rfl).1) hx rfl rfl) rfl ?_
  refine wl_alloc zc44 rfl fun g7 => ?_
  refine sg_ rfl ?_
  refine wl_stores (cs' := [.string x0, .int .i64 x1]) 0 rz44 rfl rfl rfl rfl rfl rfl rfl rfl ?_
  refine nn_ (gw_seq ?_)
  refine gd (fun wz => Blk wz g7 44 [.string x0, .int .i64 x1] ∧ Blk wz gx 77 [.slice (some ⟨gh, 0, none⟩) n n, .slice (some ⟨gw, 0, none⟩) n n, av] ∧ (SlOld ndEnc 2 44 w.heap.size none (some ⟨b, off, none⟩) n nl) wz ∧ (fun wy => MapK vRo ekE 0 gm F wy) wz ∧ True) mixed (fun _ hm => ⟨hm.bl 0, hm.bl 1, hm.fa 0, hm.fa 1, trivial⟩) fun z => ?_
  refine wt 0 21 1 rfl z (ov_move rfl) ?_
  refine wt 1 21 3 rfl z (ov_nilcheck rfl) ?_
  refine wt 2 21 7 rfl z (ov_field fo77_0 rfl rfl) ?_
  refine wt 3 21 15 rfl z (ov_load sc22 rfl (fun _ hm => hm.2.1) rfl) ?_
  refine wt 4 21 31 rfl z (ov_move rfl) ?_
  refine wt 5 21 63 rfl z (ov_move rfl) ?_
  refine wt 6 21 127 rfl z (ov_nilcheck rfl) ?_
  refine wt 7 21 255 rfl z (ov_field fo77_1 rfl rfl) ?_
  refine wt 8 21 511 rfl z (ov_load sc22 rfl (fun _ hm => hm.2.1) rfl) ?_
  refine wt 9 21 1023 rfl z (ov_move rfl) ?_
  refine wt 10 21 2047 rfl z (ov_field fo44_1 rfl rfl) ?_
  refine wt 11 21 4095 rfl z (ov_load sc3 rfl (fun _ hm => hm.1) rfl) ?_
  refine wt 12 21 8191 rfl z (ov_max rfl rfl) ?_
  refine wt 13 21 16383 rfl z (ov_field fo44_1 rfl rfl) ?_
  refine wt 14 21 32767 rfl z (ov_load sc3 rfl (fun _ hm => hm.1) rfl) ?_
  refine wt 15 21 65535 rfl z (ov_neg rfl (by omega) (by omega)) ?_
  refine wt 16 21 131071 rfl z (ov_max rfl rfl) ?_
  refine wt 17 21 262143 rfl z (ov_index (j := i) es22 rfl rfl (by omega)) ?_
  refine wa1 18 rfl ?_
  refine wl_storeE (l := hl) (j := i) (r := 0) (el := u) (el' := (max x1 0)) 0 sc3 rfl rfl rfl rfl na_len rfl hu hhl (show 0 < 1 by decide) rfl rfl ?_
  refine wl_nil ?_
  refine nw 21 524287 (fun _ hm => ⟨hm.bl 0, hm.bl 1, hm.fa 0, hm.fa 1, trivial⟩) fun z => ?_
  refine wt 19 21 1048575 rfl z (ov_index (j := i) es22 rfl rfl (by omega)) ?_
  refine wa1 20 rfl ?_
  refine wl_storeE (l := wl) (j := i) (r := 0) (el := v) (el' := (max (-x1) 0)) 1 sc3 rfl rfl rfl rfl na_len rfl hv hwl (show 0 < 1 by decide) rfl rfl ?_
  refine wl_nil ?_
  refine nw 21 2097151 (fun _ hm => ⟨hm.bl 0, hm.bl 1, hm.fa 0, hm.fa 1, trivial⟩) fun z => ?_
  refine wa_done (by kernel_rfl) ?_
  refine nx_then (sr_ (mv_ rfl (wl_ov (ov_len es35 rfl) rfl (mv_ rfl (nn_ (gw_block ?_))))))
  have hsh2 := hsh.next hx (v := max x1 0) (by omega) rfl
  have hsw2 := hsw.next hx (v := max (-x1) 0) (by omega) rfl
  clear hsh hsw
  refine gw_loop (γ := Nat × Nat × Value × List Arc) (fun gg => (gg.1 ≤ n ∧ gg.2.1 ≤ i * n + gg.1) ∧ (gg.2.2.2.length = gg.2.1 ∧ ∀ a ∈ gg.2.2.2, ArcOk nl a)) (fun gg => [(0, .slice (some ⟨b, off, none⟩) n nc), (4, .pointer none), (5, .pointer (some ⟨gx, 0, none⟩)), (6, .map (some gm)), (7, .int .i64 ((i : Nat) : Int)), (8, .pointer (some ⟨g7, 0, none⟩)), (23, .slice (some ⟨b, off, none⟩) n nc), (24, .int .i64 ((n : Nat) : Int)), (25, .int .i64 ((i : Nat) : Int)), (49, .slice (some ⟨b, off, none⟩) n nc), (50, .int .i64 ((n : Nat) : Int)), (51, .int .i64 ((gg.1 : Nat) : Int))]) (fun gg => fun _ => True) (fun gg => [(gx, 77, [.slice (some ⟨gh, 0, none⟩) n n, .slice (some ⟨gw, 0, none⟩) n n, gg.2.2.1]), (g7, 44, [.string x0, .int .i64 x1])]) (fun gg => [⟨.slice (some ⟨gh, 0, none⟩) n n, 3, 1, n, (hl.set i (max x1 0)).flatMap naEnc⟩, ⟨.slice (some ⟨gw, 0, none⟩) n n, 3, 1, n, (wl.set i (max (-x1) 0)).flatMap naEnc⟩, ⟨gg.2.2.1, 79, 4, gg.2.1, gg.2.2.2.flatMap arEnc⟩]) (fun gg => [SlOld ndEnc 2 44 w.heap.size none (some ⟨b, off, none⟩) n nl, fun wy => MapK vRo ekE 0 gm F wy]) (fun gg => n - gg.1) (0, k, av, al) ⟨⟨Nat.zero_le _, by dsimp only; omega⟩, hal, hok⟩ ⟨rfl, rfl, rfl, rfl, rfl, rfl, rfl, rfl, rfl, rfl, rfl, rfl, trivial⟩ (fun _ hm => hm.pick [1, 0] [0, 1, 2] [0, 1] rfl rfl) ?_
  rintro ⟨j, kk, qv, ql⟩ hinv
  replace hinv : (j ≤ n ∧ kk ≤ i * n + j) ∧ (ql.length = kk ∧ ∀ a ∈ ql, ArcOk nl a) := hinv
  dsimp only
  refine sr_ ?_
  obtain ⟨⟨hj0, hkj⟩, hql, hqo⟩ := hinv
  refine wl_ov (ov_lss rfl rfl) rfl (nn_ (gw_seq ?_))
  refine gw_cond rfl (fun hh => ?_) (fun hh => ?_)
  ·have hj : ((j : Nat) : Int) < ((n : Nat) : Int) := by simpa using hh
   clear hh
   refine gw_skip (nx_then (gw_seq (gw_block (sr_ ?_))))
   obtain ⟨y, hy⟩ : ∃ x, nl[j]? = some x := ⟨_, List.getElem?_eq_getElem (by omega)⟩
   obtain ⟨y0, y1⟩ := y
   have hcar := hF.car (x0, y0)
   obtain ⟨R, hR⟩ : ∃ z, z = (F (x0, y0)).getD ro0 := ⟨_, rfl⟩
   obtain ⟨r0, r1, r2, r3⟩ := R
   rw [← hR] at hcar
   obtain ⟨isr, hisr⟩ : ∃ z, z = (F (x0, y0)).isSome := ⟨_, rfl⟩
   have hkb : i * n ≤ 10 * 10 := Nat.mul_le_mul (by omega) (by omega)
   refine mv_ rfl ?_
   refine wl_ov (ov_index (j := j) es35 rfl rfl (by omega)) rfl ?_
   refine wl_ov (ov_elem (vs := [.string y0, .int .i64 y1]) rz44 rfl (fun _ hm => (hm.fact 0 rfl).1) hy rfl rfl) rfl ?_
   refine wl_alloc zc44 rfl fun g8 => ?_
   refine sg_ rfl ?_
   refine wl_stores (cs' := [.string y0, .int .i64 y1]) 0 rz44 rfl rfl rfl rfl rfl rfl rfl rfl ?_
   refine nn_ (sr_ (mv_ rfl (fd_ fo44_0 rfl rfl (lk_ sc9 2 rfl rfl rfl (fd_ fo44_0 rfl rfl (lk_ sc9 0 rfl rfl rfl ?_))))))
   refine wl_ov (ov_build (cs := [.string x0, .string y0]) rfl (by kernel_rfl)) rfl ?_
   refine wl_ov (ov_lookKok (enc := vRo) (ek := ekE) (s := (x0, y0)) (e := 66) ro0 keyEnds (by kernel_rfl) (by kernel_rfl) rfl rfl (fun _ hm => (hm.fact 1 rfl))) rfl ?_
   refine mv_ rfl (wl_ov (ov_extract rfl rfl) rfl ?_)
   refine wl_set 64 (v' := .agg #[.string r0, .string r1, .int .i64 r2, .int .i64 r3]) rfl (congrArg vRo hR.symm) ?_
   refine wl_ov (ov_extract rfl rfl) rfl ?_
   refine wl_set 65 (v' := .bool isr) rfl (congrArg Value.bool hisr.symm) ?_
   refine wl_alloc zc66 rfl fun g9 => ?_
   refine wl_stores (cs' := [.string r0, .string r1, .int .i64 r2, .int .i64 r3]) 0 rz66 rfl rfl rfl rfl rfl rfl rfl rfl ?_
   refine sg_ rfl (nn_ (sr_ (mv_ rfl (mv_ rfl ?_))))
   rcases Bool.eq_false_or_eq_true isr with hg10 | hg10
   ·refine wl_set 67 rfl (congrArg Value.bool hg10) ?_
    refine wl_guard_on rfl rfl rfl (fd_ fo44_1 rfl rfl (wl_guard_on rfl rfl rfl (lk_ sc3 3 rfl rfl rfl (wl_guard_on rfl rfl rfl ?_))))
    refine wl_ov (ov_gtr rfl rfl) rfl ?_
    refine pt_ rfl rfl (mv_ rfl ?_)
    rcases Bool.eq_false_or_eq_true (decide (0 < x1)) with hg11 | hg11
    ·refine wl_set 72 rfl (congrArg Value.bool hg11) ?_
     replace hg11 := of_decide_eq_true hg11
     refine wl_guard_on rfl rfl rfl (fd_ fo44_1 rfl rfl (wl_guard_on rfl rfl rfl (lk_ sc3 1 rfl rfl rfl (wl_guard_on rfl rfl rfl (wl_ov (ov_lss rfl rfl) rfl (pt_ rfl rfl (nn_ ?_)))))))
     refine gw_cond rfl (fun hh => ?_) (fun hh => ?_)
     ·have hc : y1 < 0 := by simpa using hh
      clear hh
      refine gd (fun wz => Blk wz g9 66 [.string r0, .string r1, .int .i64 r2, .int .i64 r3] ∧ Blk wz g8 44 [.string y0, .int .i64 y1] ∧ Blk wz g7 44 [.string x0, .int .i64 x1] ∧ (SlOld ndEnc 2 44 w.heap.size none (some ⟨b, off, none⟩) n nl) wz ∧ (fun wy => MapK vRo ekE 0 gm F wy) wz ∧ True) mixed (fun _ hm => ⟨hm.bl 0, hm.bl 1, hm.bl 3, hm.fa 0, hm.fa 1, trivial⟩) fun z => ?_
      refine wt 0 15 1 rfl z (ov_move rfl) ?_
      refine wt 1 15 3 rfl z (ov_move rfl) ?_
      refine wt 2 15 7 rfl z (ov_nilcheck rfl) ?_
      refine wt 3 15 15 rfl z (ov_field fo77_2 rfl rfl) ?_
      refine wt 5 15 47 rfl z (ov_move rfl) ?_
      refine wt 6 15 111 rfl z (ov_move rfl) ?_
      refine wt 7 15 239 rfl z (ov_field fo66_2 rfl rfl) ?_
      refine wt 8 15 495 rfl z (ov_load sc3 rfl (fun _ hm => hm.1) rfl) ?_
      refine wt 9 15 1007 rfl z (ov_build (cs := [.int .i64 ((i : Nat) : Int), .int .i64 ((j : Nat) : Int), .int .i64 r2, .int .i64 0]) rfl (by kernel_rfl)) ?_
      refine wa_all [4, 10] (by kernel_rfl) rfl ⟨⟨_, rfl, ?_⟩, ⟨_, rfl, ?_⟩, trivial⟩
      ·refine lk_ sc75 2 rfl rfl rfl (wl_nil ?_)
       refine nw 15 1023 (fun _ hm => ⟨hm.bl 0, hm.bl 1, hm.bl 3, hm.fa 0, hm.fa 1, trivial⟩) fun z => ?_
       refine wa1 10 rfl ?_
       refine wl_buildSlice (e := 79) (cs := [.int .i64 ((i : Nat) : Int), .int .i64 ((j : Nat) : Int), .int .i64 r2, .int .i64 0]) rfl (by kernel_rfl) rfl fun g12 => ?_
       refine wl_nil ?_
       refine nw 15 2047 (fun _ hm => ⟨hm.bl 1, hm.bl 2, hm.bl 4, hm.fa 0, hm.fa 1, trivial⟩) fun z => ?_
       refine wa1 11 rfl ?_
       refine wl_append (news := [.int .i64 ((i : Nat) : Int), .int .i64 ((j : Nat) : Int), .int .i64 r2, .int .i64 0]) 2 0 ap75 rfl rfl rfl rfl rfl rfl rfl (by omega) (by unfold maxLen; omega) rfl rfl fun av2 hav => ?_
       refine wl_look (R := ∃ A cc, av2 = .slice A (kk + 1) cc) (fun wx hm => own_slice (hm.ownI 2 rfl)) ?_
       rintro ⟨A2, c2, rfl⟩
       have hxs : ql.flatMap arEnc ++ ([.int .i64 ((i : Nat) : Int), .int .i64 ((j : Nat) : Int), .int .i64 r2, .int .i64 0] : List Value) = (ql ++ [(⟨i, j, r2, 0⟩ : Arc)]).flatMap arEnc := by rw [List.flatMap_append]; rfl
       rw [hxs]
       refine wl_nil ?_
       refine nw 15 4095 (fun _ hm => ⟨hm.bl 1, hm.bl 2, hm.bl 4, hm.fa 0, hm.fa 1, trivial⟩) fun z => ?_
       refine wt 12 15 8191 rfl z (ov_nilcheck rfl) ?_
       refine wt 13 15 16383 rfl z (ov_field fo77_2 rfl rfl) ?_
       refine wa1 14 rfl ?_
       refine wl_store 3 sc75 rfl rfl rfl rfl rfl rfl ?_
       refine wl_nil ?_
       refine nw 15 32767 (fun _ hm => ⟨hm.bl 1, hm.bl 2, hm.bl 4, hm.fa 0, hm.fa 1, trivial⟩) fun z => ?_
       refine wa_done (by kernel_rfl) ?_
       refine nx_blk_nrm (nx_then (gw_region (ad_ rfl rfl (mv_ rfl (wl_nil ?_)))))
       have hao : ArcOk nl ⟨i, j, r2, 0⟩ := ⟨⟨_, hx, by dsimp only; omega⟩, ⟨_, hy, by dsimp only; omega⟩, hcar, rfl⟩
       exact nx_round (j + 1, kk + 1, (Value.slice A2 (kk + 1) c2), ql ++ [(⟨i, j, r2, 0⟩ : Arc)]) ⟨⟨by dsimp only; omega, by dsimp only; omega⟩, by simp [hql], arcs_next hqo hao⟩ (by dsimp only; omega) ⟨rfl, rfl, rfl, rfl, rfl, rfl, rfl, rfl, rfl, rfl, rfl, (some_int (by omega)), trivial⟩ (fun _ hm => hm.pick [3, 4] [0, 1, 2] [0, 1] rfl rfl)
      refine wl_buildSlice (e := 79) (cs := [.int .i64 ((i : Nat) : Int), .int .i64 ((j : Nat) : Int), .int .i64 r2, .int .i64 0]) rfl (by kernel_rfl) rfl fun g13 => ?_
      refine wl_nil ?_
      refine nw 15 2031 (fun _ hm => ⟨hm.bl 1, hm.bl 2, hm.bl 4, hm.fa 0, hm.fa 1, trivial⟩) fun z => ?_
      refine wa1 4 rfl ?_
      refine lk_ sc75 3 rfl rfl rfl (wl_nil ?_)
      refine nw 15 2047 (fun _ hm => ⟨hm.bl 1, hm.bl 2, hm.bl 4, hm.fa 0, hm.fa 1, trivial⟩) fun z => ?_
      refine wa1 11 rfl ?_
      refine wl_append (news := [.int .i64 ((i : Nat) : Int), .int .i64 ((j : Nat) : Int), .int .i64 r2, .int .i64 0]) 2 0 ap75 rfl rfl rfl rfl rfl rfl rfl (by omega) (by unfold maxLen; omega) rfl rfl fun av2 hav => ?_
      refine wl_look (R := ∃ A cc, av2 = .slice A (kk + 1) cc) (fun wx hm => own_slice (hm.ownI 2 rfl)) ?_
      rintro ⟨A2, c2, rfl⟩
      have hxs : ql.flatMap arEnc ++ ([.int .i64 ((i : Nat) : Int), .int .i64 ((j : Nat) : Int), .int .i64 r2, .int .i64 0] : List Value) = (ql ++ [(⟨i, j, r2, 0⟩ : Arc)]).flatMap arEnc := by rw [List.flatMap_append]; rfl
      rw [hxs]
      refine wl_nil ?_
      refine nw 15 4095 (fun _ hm => ⟨hm.bl 1, hm.bl 2, hm.bl 4, hm.fa 0, hm.fa 1, trivial⟩) fun z => ?_
      refine wt 12 15 8191 rfl z (ov_nilcheck rfl) ?_
      refine wt 13 15 16383 rfl z (ov_field fo77_2 rfl rfl) ?_
      refine wa1 14 rfl ?_
      refine wl_store 3 sc75 rfl rfl rfl rfl rfl rfl ?_
      refine wl_nil ?_
      refine nw 15 32767 (fun _ hm => ⟨hm.bl 1, hm.bl 2, hm.bl 4, hm.fa 0, hm.fa 1, trivial⟩) fun z => ?_
      refine wa_done (by kernel_rfl) ?_
      refine nx_blk_nrm (nx_then (gw_region (ad_ rfl rfl (mv_ rfl (wl_nil ?_)))))
      have hao : ArcOk nl ⟨i, j, r2, 0⟩ := ⟨⟨_, hx, by dsimp only; omega⟩, ⟨_, hy, by dsimp only; omega⟩, hcar, rfl⟩
      exact nx_round (j + 1, kk + 1, (Value.slice A2 (kk + 1) c2), ql ++ [(⟨i, j, r2, 0⟩ : Arc)]) ⟨⟨by dsimp only; omega, by dsimp only; omega⟩, by simp [hql], arcs_next hqo hao⟩ (by dsimp only; omega) ⟨rfl, rfl, rfl, rfl, rfl, rfl, rfl, rfl, rfl, rfl, rfl, (some_int (by omega)), trivial⟩ (fun _ hm => hm.pick [3, 4] [0, 1, 2] [0, 1] rfl rfl)
     have hc : ¬ (y1 < 0) := by simpa using hh
     clear hh
     refine gw_skip (nx_blk_nrm (nx_then (gw_region (ad_ rfl rfl (mv_ rfl (wl_nil ?_))))))
     exact nx_round (j + 1, kk, qv, ql) ⟨⟨by dsimp only; omega, by dsimp only; omega⟩, hql, hqo⟩ (by dsimp only; omega) ⟨rfl, rfl, rfl, rfl, rfl, rfl, rfl, rfl, rfl, rfl, rfl, (some_int (by omega)), trivial⟩ (fun _ hm => hm.pick [2, 3] [0, 1, 2] [0, 1] rfl rfl)
    refine wl_set 72 rfl (congrArg Value.bool hg11) ?_
    replace hg11 := of_decide_eq_false hg11
    refine goff rfl rfl rfl (goff rfl rfl rfl (goff rfl rfl rfl (pf_ rfl rfl (nn_ (cf_ rfl (gw_skip (nx_blk_nrm (nx_then (gw_region (ad_ rfl rfl (mv_ rfl (wl_nil ?_))))))))))))
    exact nx_round (j + 1, kk, qv, ql) ⟨⟨by dsimp only; omega, by dsimp only; omega⟩, hql, hqo⟩ (by dsimp only; omega) ⟨rfl, rfl, rfl, rfl, rfl, rfl, rfl, rfl, rfl, rfl, rfl, (some_int (by omega)), trivial⟩ (fun _ hm => hm.pick [2, 3] [0, 1, 2] [0, 1] rfl rfl)
   refine wl_set 67 rfl (congrArg Value.bool hg10) ?_
   refine goff rfl rfl rfl (goff rfl rfl rfl (goff rfl rfl rfl (pf_ rfl rfl (mv_ rfl (goff rfl rfl rfl (goff rfl rfl rfl (goff rfl rfl rfl (pf_ rfl rfl (nn_ (cf_ rfl (gw_skip (nx_blk_nrm ?_))))))))))))
   refine nx_then (gw_region (ad_ rfl rfl (mv_ rfl (wl_nil ?_))))
   exact nx_round (j + 1, kk, qv, ql) ⟨⟨by dsimp only; omega, by dsimp only; omega⟩, hql, hqo⟩ (by dsimp only; omega) ⟨rfl, rfl, rfl, rfl, rfl, rfl, rfl, rfl, rfl, rfl, rfl, (some_int (by omega)), trivial⟩ (fun _ hm => hm.pick [2, 3] [0, 1, 2] [0, 1] rfl rfl)
  have hj : ¬ (((j : Nat) : Int) < ((n : Nat) : Int)) := by simpa using hh
  clear hh
  refine gw_exit ?_
  refine nx_then_exit (nx_then_exit ?_)
  refine nx_blk_here ?_
  refine nx_blk_nrm (nx_then (gw_region (ad_ rfl rfl (mv_ rfl (wl_nil ?_)))))
  have hjn : (i + 1) * n = i * n + n := by rw [Nat.add_mul, Nat.one_mul]
  exact nx_round (i + 1, hl.set i (max x1 0), wl.set i (max (-x1) 0), kk, qv, ql) ⟨⟨by dsimp only; omega, by rw [List.length_set]; exact hhl, by rw [List.length_set]; exact hwl⟩, ⟨hsh2, hsw2⟩, by dsimp only; omega, hql, hqo⟩ (by dsimp only; omega) ⟨rfl, rfl, rfl, rfl, rfl, rfl, (some_int (by omega)), trivial⟩ (fun _ hm => hm.pick [0] [0, 1, 2] [0, 1] rfl rfl)
 have hi : ¬ (((i : Nat) : Int) < ((n : Nat) : Int)) := by simpa using hh
 clear hh
 refine gw_exit ?_
 refine nx_then_exit (nx_then_exit ?_)
 refine nx_blk_here ?_
 refine nx_then (sr_ (mv_ rfl (sg_ rfl (nn_ ?_))))
 refine gw_ret ?_
 obtain rfl : n = i := by omega
 have hh := hsh.all hlen hhl
 have hw2 := hsw.all hlen hwl
 subst hh hw2
 refine nx_look (R := ∃ A cc, av = .slice A k cc) (fun wx hm => own_slice (hm.ownI 2 rfl)) ?_
 rintro ⟨aA, ac, rfl⟩
 refine nx_ret1 rfl rfl fun wx hm => ?_
 exact ⟨gx, some ⟨gh, 0, none⟩, _, some ⟨gw, 0, none⟩, _, aA, k, ac, al, rfl, ⟨by have h := Nat.mul_le_mul hi0 hi0; exact hki, hal, hok⟩, hm.ownI 2 rfl, ⟨hm.bl 0, SlT.ofOwn na_len (hm.ownI 0 rfl) (by rw [List.length_map]; exact hlen), SlT.ofOwn na_len (hm.ownI 1 rfl) (by rw [List.length_map]; exact hlen)⟩, hm.g⟩
end Go.Proofs.Ytodcildcipfmcaa
namespace Go.Proofs.Ytodcildcipfmcaa
open Go.RowKit
structure Mv where
  fr : Nat
  to_ : Nat
  many : Int
def staAt (nl : List Nd) (i : Nat) : ByteArray := ((nl[i]?).map Nd.sta).getD ⟨#[]⟩
def mvEnc (nl : List Nd) (m : Mv) : List Value := [.string (staAt nl m.fr), .string (staAt nl m.to_), .int .i64 m.many]
theorem mv_len (nl : List Nd) (m : Mv) : (mvEnc nl m).length = 3 := rfl
theorem staAt_get {nl : List Nd} {i : Nat} {x : Nd} (h : nl[i]? = some x) : staAt nl i = x.sta := by unfold staAt; rw [h]; rfl
theorem mv_cells {nl : List Nd} {f t : Nat} {x y : Nd} {m : Int} (hx : nl[f]? = some x) (hy : nl[t]? = some y) : mvEnc nl ⟨f, t, m⟩ = [.string x.sta, .string y.sta, .int .i64 m] := by
  unfold mvEnc
  rw [staAt_get hx, staAt_get hy]
def outF : List Mv → Nat → Int
  | [], _ => 0
  | m :: r, i => (if m.fr = i then m.many else 0) + outF r i
def inF : List Mv → Nat → Int
  | [], _ => 0
  | m :: r, i => (if m.to_ = i then m.many else 0) + inF r i
theorem outF_app {i : Nat} : ∀ {l r : List Mv}, outF (l ++ r) i = outF l i + outF r i
  | [], r => by show outF r i = 0 + outF r i; omega
  | m :: l, r => by
    show (if m.fr = i then m.many else 0) + outF (l ++ r) i = (if m.fr = i then m.many else 0) + outF l i + outF r i
    rw [outF_app]; omega
theorem inF_app {i : Nat} : ∀ {l r : List Mv}, inF (l ++ r) i = inF l i + inF r i
  | [], r => by show inF r i = 0 + inF r i; omega
  | m :: l, r => by
    show (if m.to_ = i then m.many else 0) + inF (l ++ r) i = (if m.to_ = i then m.many else 0) + inF l i + inF r i
    rw [inF_app]; omega
theorem outF_nonneg {i : Nat} : ∀ {l : List Mv}, (∀ m ∈ l, 1 ≤ m.many) → 0 ≤ outF l i
  | [], _ => Int.le_refl _
  | m :: l, h => by
    have h1 := h m (List.mem_cons_self ..)
    have h2 := outF_nonneg (i := i) fun x hx => h x (List.mem_cons_of_mem m hx)
    show 0 ≤ (if m.fr = i then m.many else 0) + outF l i
    split <;> omega
theorem inF_nonneg {i : Nat} : ∀ {l : List Mv}, (∀ m ∈ l, 1 ≤ m.many) → 0 ≤ inF l i
  | [], _ => Int.le_refl _
  | m :: l, h => by
    have h1 := h m (List.mem_cons_self ..)
    have h2 := inF_nonneg (i := i) fun x hx => h x (List.mem_cons_of_mem m hx)
    show 0 ≤ (if m.to_ = i then m.many else 0) + inF l i
    split <;> omega
/-- One that has too many. -/
def plP (nl : List Nd) (i : Nat) : Bool := decide (0 < atL (nl.map Nd.many) i)
def MvOk (nl : List Nd) (n : Nat) (m : Mv) : Prop := (m.fr < n ∧ m.to_ < n) ∧ (plP nl m.fr = true ∧ plP nl m.to_ = false) ∧ 1 ≤ m.many ∧ m.many ≤ 1000
theorem atL_map {nl : List Nd} {f : Nd → Int} (hf : f ⟨⟨#[]⟩, 0⟩ = 0) {g : Int → Int} (hg : ∀ x, f x = g x.many) (i : Nat) : atL (nl.map f) i = g (atL (nl.map Nd.many) i) := by
  unfold atL
  rw [List.getElem?_map, List.getElem?_map]
  cases nl[i]? with
  | none =>
    have := hg ⟨⟨#[]⟩, 0⟩
    rw [hf] at this; exact this
  | some x => exact hg x
theorem atL_hv (nl : List Nd) (i : Nat) : atL (nl.map hvF) i = max (atL (nl.map Nd.many) i) 0 := atL_map (g := fun x => max x 0) rfl (fun _ => rfl) i
theorem atL_wt (nl : List Nd) (i : Nat) : atL (nl.map wtF) i = max (-(atL (nl.map Nd.many) i)) 0 := atL_map (g := fun x => max (-x) 0) rfl (fun _ => rfl) i
theorem many_bound {nl : List Nd} (h : ∀ x ∈ nl, NdB x) (i : Nat) : -1000 ≤ atL (nl.map Nd.many) i ∧ atL (nl.map Nd.many) i ≤ 1000 := by
  unfold atL
  rw [List.getElem?_map]
  cases hx : nl[i]? with
  | none => exact ⟨by decide, by decide⟩
  | some x =>
    have := h x (List.mem_of_getElem? hx)
    exact ⟨this.2.1, this.2.2⟩
/-- What the plan's loop keeps. -/
structure PlanI (nl : List Nd) (n : Nat) (al : List Arc) (hL wL : List Int) (ou : List Mv) (ls : Int) : Prop where
  lh : hL.length = n
  lw : wL.length = n
  arc : ∀ a ∈ al, (a.fr < n ∧ a.to_ < n) ∧ (plP nl a.fr = true ∧ plP nl a.to_ = false) ∧ 0 ≤ a.car ∧ a.car ≤ 1000000
  sr : ∀ i, plP nl i = true → atL wL i = 0
  sk : ∀ i, plP nl i = false → atL hL i = 0
  hB : ∀ i, 0 ≤ atL hL i ∧ atL hL i ≤ 1000
  wB : ∀ i, 0 ≤ atL wL i ∧ atL wL i ≤ 1000
  sol : Solves n (atL hL) (atL wL) al ls true
  out : ∀ i, atL (nl.map hvF) i = atL hL i + outF ou i
  in_ : ∀ i, atL (nl.map wtF) i = atL wL i + inF ou i
  mv : ∀ m ∈ ou, MvOk nl n m
theorem arc_ok {nl : List Nd} {n : Nat} (hl : nl.length = n) {a : Arc} (h : ArcOk nl a) : (a.fr < n ∧ a.to_ < n) ∧ (plP nl a.fr = true ∧ plP nl a.to_ = false) ∧ 0 ≤ a.car ∧ a.car ≤ 1000000 := by
  obtain ⟨⟨x, hx, h1⟩, ⟨y, hy, h2⟩, h3, _⟩ := h
  have e1 : atL (nl.map Nd.many) a.fr = x.many := by unfold atL; rw [List.getElem?_map, hx]; rfl
  have e2 : atL (nl.map Nd.many) a.to_ = y.many := by unfold atL; rw [List.getElem?_map, hy]; rfl
  have k1 := (List.getElem?_eq_some_iff.1 hx).1
  have k2 := (List.getElem?_eq_some_iff.1 hy).1
  refine ⟨⟨by omega, by omega⟩, ⟨decide_eq_true (by omega), decide_eq_false (by omega)⟩, h3⟩
theorem first_sr (nl : List Nd) : ∀ i, plP nl i = true → atL (nl.map wtF) i = 0 := fun i h => by
  have := of_decide_eq_true h
  rw [atL_wt]; omega
theorem first_sk (nl : List Nd) : ∀ i, plP nl i = false → atL (nl.map hvF) i = 0 := fun i h => by
  have := of_decide_eq_false h
  rw [atL_hv]; omega
theorem first_hB {nl : List Nd} (h : ∀ x ∈ nl, NdB x) : ∀ i, 0 ≤ atL (nl.map hvF) i ∧ atL (nl.map hvF) i ≤ 1000 := fun i => by
  have := many_bound h i
  rw [atL_hv]; omega
theorem first_wB {nl : List Nd} (h : ∀ x ∈ nl, NdB x) : ∀ i, 0 ≤ atL (nl.map wtF) i ∧ atL (nl.map wtF) i ≤ 1000 := fun i => by
  have := many_bound h i
  rw [atL_wt]; omega
theorem PlanI.start {nl : List Nd} {n : Nat} {al : List Arc} {ls : Int} (hl : nl.length = n) (hb : ∀ x ∈ nl, NdB x) (hok : ∀ a ∈ al, ArcOk nl a) (hs : Solves n (atL (nl.map hvF)) (atL (nl.map wtF)) al ls true) : PlanI nl n al (nl.map hvF) (nl.map wtF) [] ls :=
  ⟨by rw [List.length_map]; exact hl, by rw [List.length_map]; exact hl, fun a ha => arc_ok hl (hok a ha), first_sr nl, first_sk nl, first_hB hb, first_wB hb, hs, fun i => by show _ = _ + (0 : Int); omega, fun i => by show _ = _ + (0 : Int); omega, fun _ h => by cases h⟩
section
variable {nl : List Nd} {n : Nat} {a : Arc} {al : List Arc} {hL wL : List Int} {ou : List Mv} {ls x y : Int}
theorem PlanI.rest (h : PlanI nl n (a :: al) hL wL ou ls) (hx : hL[a.fr]? = some x) (hy : wL[a.to_]? = some y) {m : Int} (h0 : 0 ≤ m) (h1 : m ≤ x) (h2 : m ≤ y) :
    (∀ i, plP nl i = true → atL (wL.set a.to_ (y - m)) i = 0) ∧ (∀ i, plP nl i = false → atL (hL.set a.fr (x - m)) i = 0) ∧ (∀ i, 0 ≤ atL (hL.set a.fr (x - m)) i ∧ atL (hL.set a.fr (x - m)) i ≤ 1000) ∧ ∀ i, 0 ≤ atL (wL.set a.to_ (y - m)) i ∧ atL (wL.set a.to_ (y - m)) i ≤ 1000 := by
  obtain ⟨_, ⟨hp1, hp2⟩, _⟩ := h.arc a (List.mem_cons_self ..)
  have ex := atL_get hx
  have ey := atL_get hy
  rw [atL_less hx, atL_less hy]
  unfold lessF
  refine ⟨fun i hi => ?_, fun i hi => ?_, fun i => ?_, fun i => ?_⟩
  · have := h.sr i hi
    rw [if_neg (fun e => by subst e; rw [hp2] at hi; cases hi)]; omega
  · have := h.sk i hi
    rw [if_neg (fun e => by subst e; rw [hp1] at hi; cases hi)]; omega
  · have := h.hB i
    split
    · rename_i e; subst e; omega
    · omega
  · have := h.wB i
    split
    · rename_i e; subst e; omega
    · omega
def addMv (ou : List Mv) (f t us : Nat) : List Mv := if us = 0 then ou else ou ++ [⟨f, t, ((us : Nat) : Int)⟩]
theorem PlanI.step (h : PlanI nl n (a :: al) hL wL ou ls) (hx : hL[a.fr]? = some x) (hy : wL[a.to_]? = some y) {us : Nat} (h1 : (us : Int) ≤ x) (h2 : (us : Int) ≤ y) (hs : Solves n (lessF (atL hL) a.fr us) (lessF (atL wL) a.to_ us) al (ls - us * a.car) true) :
    PlanI nl n al (hL.set a.fr (x - us)) (wL.set a.to_ (y - us)) (addMv ou a.fr a.to_ us) (ls - us * a.car) := by
  obtain ⟨r1, r2, r3, r4⟩ := h.rest hx hy (m := us) (by omega) h1 h2
  have ex := atL_get hx
  have hxB := h.hB a.fr
  rw [ex] at hxB
  refine ⟨by rw [List.length_set]; exact h.lh, by rw [List.length_set]; exact h.lw, fun b hb => h.arc b (List.mem_cons_of_mem _ hb), r1, r2, r3, r4, ?_, fun i => ?_, fun i => ?_, fun m hm => ?_⟩
  · rw [atL_less hx, atL_less hy]; exact hs
  · rw [atL_less hx, h.out i]
    unfold lessF addMv
    by_cases hu : us = 0
    · rw [if_pos hu]; split <;> omega
    · rw [if_neg hu, outF_app]
      show _ = _ + (_ + ((if a.fr = i then ((us : Nat) : Int) else 0) + 0))
      split <;> omega
  · rw [atL_less hy, h.in_ i]
    unfold lessF addMv
    by_cases hu : us = 0
    · rw [if_pos hu]; split <;> omega
    · rw [if_neg hu, inF_app]
      show _ = _ + (_ + ((if a.to_ = i then ((us : Nat) : Int) else 0) + 0))
      split <;> omega
  · unfold addMv at hm
    by_cases hu : us = 0
    · rw [if_pos hu] at hm; exact h.mv m hm
    · rw [if_neg hu] at hm
      rcases List.mem_append.1 hm with hm | hm
      · exact h.mv m hm
      · rw [List.mem_singleton.1 hm]
        obtain ⟨k1, k2, _⟩ := h.arc a (List.mem_cons_self ..)
        refine ⟨k1, k2, ?_, ?_⟩ <;> dsimp only <;> omega
theorem Solves.det {hv wt : Nat → Int} {ar : List Arc} {r r' : Int} {ok : Bool} (h : Solves n hv wt ar r ok) (h' : Solves n hv wt ar r' true) : ok = true ∧ r = r' := by
  obtain ⟨gs, hs, hg, hc⟩ := (h'.yes rfl).1
  cases ok with
  | false => exact absurd hg (h.no rfl gs hs)
  | true =>
    obtain ⟨gt, ht, hg2, hc2⟩ := (h.yes rfl).1
    have k1 := (h.yes rfl).2 gs hs hg
    have k2 := (h'.yes rfl).2 gt ht hg2
    exact ⟨rfl, by omega⟩
/-- So far no number along the first arc led to the least cost. -/
def NoneYet (n : Nat) (hL wL : List Int) (a : Arc) (al : List Arc) (x y ls : Int) (mz : Nat) : Prop := ∀ m : Int, 1 ≤ m → m < mz → m ≤ x → m ≤ y → (∃ r ok, Solves n (lessF (atL hL) a.fr m) (lessF (atL wL) a.to_ m) al r ok) ∧ ∀ r, Solves n (lessF (atL hL) a.fr m) (lessF (atL wL) a.to_ m) al r true → r + m * a.car ≠ ls
theorem NoneYet.one : NoneYet n hL wL a al x y ls 1 := fun m h1 h2 => absurd h2 (by omega)
theorem NoneYet.next {mz : Nat} {r : Int} {ok : Bool} (h : NoneYet n hL wL a al x y ls mz) (hs : Solves n (lessF (atL hL) a.fr mz) (lessF (atL wL) a.to_ mz) al r ok) (hne : ok = true → r + mz * a.car ≠ ls) : NoneYet n hL wL a al x y ls (mz + 1) := fun m h1 h2 h3 h4 => by
  by_cases e : m = mz
  · subst e
    refine ⟨⟨r, ok, hs⟩, fun r' hs' => ?_⟩
    obtain ⟨e1, e2⟩ := hs.det hs'
    rw [← e2]; exact hne e1
  · exact h m h1 (by omega) h3 h4
theorem plan_zero {mz : Nat} (h : PlanI nl n (a :: al) hL wL ou ls) (hx : hL[a.fr]? = some x) (hy : wL[a.to_]? = some y) (hn : NoneYet n hL wL a al x y ls mz) (hmz : ¬ ((mz : Int) ≤ min x y)) : Solves n (lessF (atL hL) a.fr ((0 : Nat) : Int)) (lessF (atL wL) a.to_ ((0 : Nat) : Int)) al (ls - ((0 : Nat) : Int) * a.car) true := by
  have ex := atL_get hx
  have ey := atL_get hy
  have e : ls - ((0 : Nat) : Int) * a.car = ls := by
    rw [show ((0 : Nat) : Int) = 0 from rfl, Int.zero_mul]; omega
  rw [e]
  exact plan_none (h.arc a (List.mem_cons_self ..)).1 h.sol (fun m h1 h2 h3 => (hn m h1 (by rw [ex] at h2; rw [ey] at h3; omega) (by rw [← ex]; exact h2) (by rw [← ey]; exact h3)).2) (fun m h1 h2 h3 => (hn m h1 (by rw [ex] at h2; rw [ey] at h3; omega) (by rw [← ex]; exact h2) (by rw [← ey]; exact h3)).1)
/-- What a plan is. -/
structure PlanOk (nl : List Nd) (n : Nat) (ou : List Mv) : Prop where
  mv : ∀ m ∈ ou, MvOk nl n m
  out : ∀ i, i < n → outF ou i ≤ max (atL (nl.map Nd.many) i) 0
  in_ : ∀ i, i < n → inF ou i = max (-(atL (nl.map Nd.many) i)) 0
theorem PlanI.done (h : PlanI nl n [] hL wL ou ls) : PlanOk nl n ou := by
  obtain ⟨k1, k2⟩ := plan_end h.sol
  refine ⟨h.mv, fun i hi => ?_, fun i hi => ?_⟩
  · have h1 := h.out i
    have h2 := k1 i hi
    rw [atL_hv] at h1
    omega
  · have h1 := h.in_ i
    have h2 := k2 i hi
    rw [atL_wt] at h1
    omega
end
end Go.Proofs.Ytodcildcipfmcaa
namespace Go.Proofs.Ytodcildcipfmcaa
open Go.RowKit
def z14 : List Int := [0, 0, 0, 0, 0, 0, 0, 0, 0, 0, 0, 0, 0, 0]
def skey : Nat → ByteArray
  | 0 => ⟨#[97]⟩
  | 1 => ⟨#[98]⟩
  | 2 => ⟨#[99]⟩
  | _ => ⟨#[100]⟩
def sl4 : List St := [⟨⟨#[97]⟩, z14⟩, ⟨⟨#[98]⟩, z14⟩, ⟨⟨#[99]⟩, z14⟩, ⟨⟨#[100]⟩, z14⟩]
def cl1 : List Cs := [⟨⟨#[99]⟩, ⟨#[]⟩⟩]
def vkey (k : Nat) : ByteArray := (⟨#[118]⟩ : ByteArray) ++ Utf8.encode (97 + ((k : Nat) : Int))
def vehK (k : Nat) : Vh := ⟨vkey k, ⟨#[99]⟩⟩
def vhF : Nat → Nat → List Vh
  | _, 0 => []
  | k, n + 1 => vehK k :: vhF (k + 1) n
def vhL (c : Nat) : List Vh := vhF 0 c
theorem vhF_len : ∀ (n k : Nat), (vhF k n).length = n
  | 0, _ => rfl
  | n + 1, k => by rw [vhF, List.length_cons, vhF_len n]
theorem vhL_len (c : Nat) : (vhL c).length = c := vhF_len c 0
theorem vhF_succ : ∀ (n k : Nat), vhF k (n + 1) = vhF k n ++ [vehK (k + n)]
  | 0, _ => rfl
  | n + 1, k => by
    rw [vhF, vhF_succ n (k + 1), vhF, List.cons_append, show k + 1 + n = k + (n + 1) by omega]
theorem vhL_succ (c : Nat) : vhL (c + 1) = vhL c ++ [vehK c] := by
  unfold vhL; rw [vhF_succ, Nat.zero_add]
theorem vhF_mem : ∀ {n k j : Nat}, k ≤ j → j < k + n → vehK j ∈ vhF k n
  | 0, k, j, h1, h2 => absurd h2 (by omega)
  | n + 1, k, j, h1, h2 => by
    rw [vhF]
    by_cases e : j = k
    · subst e; exact List.mem_cons_self ..
    · exact List.mem_cons_of_mem _ (vhF_mem (by omega) (by omega))
theorem vkey_lit : ∀ k, k < 8 → vkey k = ⟨#[118, (97 + k).toUInt8]⟩ := by
  intro k hk
  rcases (show k = 0 ∨ k = 1 ∨ k = 2 ∨ k = 3 ∨ k = 4 ∨ k = 5 ∨ k = 6 ∨ k = 7 by omega) with rfl | rfl | rfl | rfl | rfl | rfl | rfl | rfl <;> decide +kernel
theorem vkey_size {k : Nat} (h : k < 8) : (vkey k).size = 2 := by rw [vkey_lit k h]; rfl
theorem vkey_less {k : Nat} (h : k < 7) : Go.Op.bytesLess (vkey k).toList (vkey (k + 1)).toList = true := by
  rw [vkey_lit k (by omega), vkey_lit (k + 1) (by omega)]
  rcases (show k = 0 ∨ k = 1 ∨ k = 2 ∨ k = 3 ∨ k = 4 ∨ k = 5 ∨ k = 6 by omega) with rfl | rfl | rfl | rfl | rfl | rfl | rfl <;> decide +kernel
theorem u8_inj {j k : Nat} (hj : j < 8) (hk : k < 8) (h : (97 + j).toUInt8 = (97 + k).toUInt8) : j = k := by
  have h2 := congrArg UInt8.toNat h
  rw [UInt8.toNat_ofNat', UInt8.toNat_ofNat'] at h2
  omega
theorem vkey_inj {j k : Nat} (hj : j < 8) (hk : k < 8) (h : vkey j = vkey k) : j = k := by
  rw [vkey_lit j hj, vkey_lit k hk] at h
  injection h with h
  injection h with h
  injection h with _ h
  injection h with h _
  exact u8_inj hj hk h
theorem vkey_eqb {j k : Nat} (hj : j < 8) (hk : k < 8) : ((vkey j).toList == (vkey k).toList) = decide (j = k) := by
  by_cases e : j = k
  · subst e
    rw [decide_eq_true rfl]; exact beq_self_eq_true _
  · rw [decide_eq_false e]
    cases h : ((vkey j).toList == (vkey k).toList) with
    | false => rfl
    | true => exact absurd (vkey_inj hj hk (bytes_eqb.1 h)) e
theorem skey_inj {i j : Nat} (hi : i < 4) (hj : j < 4) (h : skey i = skey j) : i = j := by
  rcases (show i = 0 ∨ i = 1 ∨ i = 2 ∨ i = 3 by omega) with rfl | rfl | rfl | rfl <;> rcases (show j = 0 ∨ j = 1 ∨ j = 2 ∨ j = 3 by omega) with rfl | rfl | rfl | rfl <;> first | rfl | (exfalso; revert h; decide +kernel)
theorem skey_eqb {j k : Nat} (hj : j < 4) (hk : k < 4) : ((skey j).toList == (skey k).toList) = decide (j = k) := by
  by_cases e : j = k
  · subst e
    rw [decide_eq_true rfl]; exact beq_self_eq_true _
  · rw [decide_eq_false e]
    cases h : ((skey j).toList == (skey k).toList) with
    | false => rfl
    | true => exact absurd (skey_inj hj hk (bytes_eqb.1 h)) e
theorem skey_size (s : Nat) : (skey s).size ≤ 1 := by
  unfold skey; split <;> decide
theorem skey_any {s : Nat} (h : s < 4) : sl4.any (stP (skey s)) = true := by
  rcases (show s = 0 ∨ s = 1 ∨ s = 2 ∨ s = 3 by omega) with rfl | rfl | rfl | rfl <;> decide +kernel
theorem skey_ne (s : Nat) : ((⟨#[]⟩ : ByteArray).toList == (skey s).toList) = false := by
  unfold skey; split <;> decide +kernel
theorem veh_ix {k C : Nat} (h : k < C) : 0 ≤ ixP (vhP (vkey k)) (vhL C) 0 := by
  have h1 : (vhL C).any (vhP (vkey k)) = true := List.any_eq_true.2 ⟨vehK k, vhF_mem (Nat.zero_le _) (by omega), beq_self_eq_true _⟩
  rw [← ix_any] at h1
  exact of_decide_eq_true h1
theorem fleet4 : ∀ C, C ≤ 8 → fleetE sl4 cl1 (vhL C) [] = 0 := by
  intro C hC
  rcases (show C = 0 ∨ C = 1 ∨ C = 2 ∨ C = 3 ∨ C = 4 ∨ C = 5 ∨ C = 6 ∨ C = 7 ∨ C = 8 by omega) with rfl | rfl | rfl | rfl | rfl | rfl | rfl | rfl | rfl <;> decide +kernel
def lastO : Option Ev → List Ev → Option Ev
  | p, [] => p
  | _, b :: r => lastO (some b) r
theorem lastO_snoc : ∀ {l : List Ev} {p : Option Ev} {x : Ev}, lastO p (l ++ [x]) = some x
  | [], _, _ => rfl
  | b :: r, p, x => by
    rw [List.cons_append, lastO, lastO_snoc]
theorem lastO_mem : ∀ {l : List Ev} {q : Ev}, lastO none l = some q → q ∈ l := by
  have gen : ∀ (l : List Ev) (p : Option Ev) (q : Ev), lastO p l = some q → p = some q ∨ q ∈ l := by
    intro l
    induction l with
    | nil => exact fun p q h => .inl h
    | cons b r ih =>
      intro p q h
      rw [lastO] at h
      rcases ih _ _ h with h | h
      · injection h with h
        subst h; exact .inr (List.mem_cons_self ..)
      · exact .inr (List.mem_cons_of_mem _ h)
  intro l q h
  rcases gen l none q h with h | h
  · cases h
  · exact h
theorem scan_snoc {E : Option Ev → Ev → Int} : ∀ {l : List Ev} {p : Option Ev} {x : Ev}, scanE E p l = 0 → E (lastO p l) x = 0 → scanE E p (l ++ [x]) = 0
  | [], p, x, _, h => by
    show scanE E p [x] = 0
    unfold scanE
    rw [if_pos (show E p x = 0 from h)]; rfl
  | b :: r, p, x, h, hx => by
    rw [List.cons_append]
    unfold scanE at h ⊢
    by_cases hb : E p b = 0
    · rw [if_pos hb] at h ⊢
      exact scan_snoc h hx
    · rw [if_neg hb] at h; exact absurd h hb
theorem lastS_snoc {v : ByteArray} : ∀ {l : List Ev} {s : Sa} {x : Ev}, lastS v (l ++ [x]) s = if (x.veh.toList == v.toList) = true then stepS (lastS v l s) x else lastS v l s
  | [], _, _ => rfl
  | b :: r, s, x => by
    rw [List.cons_append]
    show lastS v (r ++ [x]) _ = _
    rw [lastS_snoc]; rfl
theorem brkP_snoc : ∀ {l : List Ev} {i : Nat} {F : AMap} {x : Ev}, brkP l i F = [] → goodB (((l.foldl stepM F) x.veh).getD sa0) x = true → brkP (l ++ [x]) i F = []
  | [], i, F, x, _, h => by
    show brkP [x] i F = []
    unfold brkP
    rw [if_pos (show goodB ((F x.veh).getD sa0) x = true from h)]; rfl
  | b :: r, i, F, x, h, hx => by
    rw [List.cons_append]
    unfold brkP at h ⊢
    by_cases hb : goodB ((F b.veh).getD sa0) b = true
    · rw [if_pos hb] at h ⊢
      exact brkP_snoc h hx
    · rw [if_neg hb] at h; cases h
structure LogOk (C : Nat) (el : List Ev) : Prop where
  scan : scanE (evE sl4 (vhL C)) none el = 0
  brk : brkP el 0 fNil = []
theorem LogOk.snoc {C : Nat} {el : List Ev} {x : Ev} (h : LogOk C el) (hx : evE sl4 (vhL C) (lastO none el) x = 0) (hg : goodB (lastS x.veh el sa0) x = true) : LogOk C (el ++ [x]) :=
  ⟨scan_snoc h.scan hx, brkP_snoc h.brk (by rw [foldM_get]; exact hg)⟩
theorem evE_ok {C k s kd : Nat} {p : Option Ev} {at_ : Int} {to_ : ByteArray} (ha : 0 ≤ at_ ∧ at_ ≤ 5761439) (hk : k < C) (hs : s < 4) (hkd : 1 ≤ kd ∧ kd ≤ 8) (hto : if kd = 6 then ∃ t, t < 4 ∧ to_ = skey t ∧ t ≠ s else to_ = ⟨#[]⟩) (hp : ∀ q, p = some q → evOrd q ⟨at_, vkey k, skey s, kd, to_⟩ < 0) : evE sl4 (vhL C) p ⟨at_, vkey k, skey s, kd, to_⟩ = 0 := by
  have h1 : inB at_ 0 5761439 = true := inB_iff.2 ha
  have h2 : (decide (ixP (vhP (vkey k)) (vhL C) 0 < 0) || !sl4.any (stP (skey s))) = false := by
    have := veh_ix hk
    rw [decide_eq_false (by omega), skey_any hs]; rfl
  have h3 : inB ((kd : Nat) : Int) 1 8 = true := inB_iff.2 (by omega)
  have h7 : evO p ⟨at_, vkey k, skey s, kd, to_⟩ = false := by
    cases p with
    | none => rfl
    | some q =>
      have := hp q rfl
      exact decide_eq_false (by omega)
  unfold evE
  dsimp only
  rw [if_neg (by rw [h1]; decide), if_neg (by rw [h2]; decide), if_neg (by rw [h3]; decide)]
  by_cases h6 : kd = 6
  · rw [if_pos h6] at hto
    obtain ⟨t, ht, rfl, hts⟩ := hto
    have e : decide (((kd : Nat) : Int) = 6) = true := decide_eq_true (by omega)
    rw [e, skey_any ht, skey_eqb ht hs, decide_eq_false hts, h7]; rfl
  · rw [if_neg h6] at hto
    subst hto
    have e : decide (((kd : Nat) : Int) = 6) = false := decide_eq_false (by omega)
    rw [e, skey_ne s, h7, beq_self_eq_true]; rfl
structure Sim (lc : List Nat) (el : List Ev) (at_ : Int) (m : Nat) : Prop where
  ok : ∀ C, lc.length ≤ C → C ≤ 8 → LogOk C el
  len : lc.length ≤ 8
  stn : ∀ s ∈ lc, s < 4
  lt : ∀ x ∈ el, x.at_ < at_
  here : ∀ k s, lc[k]? = some s → ∃ t, lastS (vkey k) el sa0 = ⟨1, skey s, t⟩
  no : ∀ k, lc.length ≤ k → k < 8 → lastS (vkey k) el sa0 = sa0
  evs : ∀ x ∈ el, EvOk x
  size : el.length = m
theorem Sim.nil : Sim [] [] 2 0 := ⟨fun C _ _ => ⟨rfl, rfl⟩, by decide, (fun _ h => by cases h), (fun _ h => by cases h), (fun k s h => by simp at h), fun _ _ _ => rfl, (fun _ h => by cases h), rfl⟩
def EntO (lc : List Nat) (el : List Ev) : Prop := ∀ q, lastO none el = some q → q.at_ = 1 ∧ ∃ k, k + 1 = lc.length ∧ q.veh = vkey k
theorem EntO.nil : EntO [] [] := fun q h => by cases h
theorem ev_ok {at_ : Int} {k s : Nat} {kd : Int} {to_ : ByteArray} (ha : 0 ≤ at_ ∧ at_ ≤ 5761439) (hk : k < 8) (hkd : 1 ≤ kd ∧ kd ≤ 8) (ht : to_.size ≤ 1) : EvOk ⟨at_, vkey k, skey s, kd, to_⟩ := by
  refine ⟨⟨?_, ?_⟩, ⟨?_, ?_⟩, ?_, ?_, ?_⟩ <;> dsimp only
  · omega
  · omega
  · omega
  · omega
  · rw [vkey_size hk]; decide
  · have := skey_size s; omega
  · omega
theorem Sim.enter {lc : List Nat} {el : List Ev} {m s : Nat} (h : Sim lc el 2 m) (he : EntO lc el) (hl : lc.length < 8) (hs : s < 4) : Sim (lc ++ [s]) (el ++ [⟨1, vkey lc.length, skey s, 1, ⟨#[]⟩⟩]) 2 (m + 1) ∧ EntO (lc ++ [s]) (el ++ [⟨1, vkey lc.length, skey s, 1, ⟨#[]⟩⟩]) := by
  have h0 := h.no lc.length (Nat.le_refl _) hl
  refine ⟨⟨fun C h1 h2 => ?_, by rw [List.length_append, List.length_singleton]; omega, fun z hz => ?_, fun x hx => ?_, fun k z hk => ?_, fun k h1 h2 => ?_, fun x hx => ?_, by rw [List.length_append, h.size]; rfl⟩, fun q hq => ?_⟩
  · rw [List.length_append, List.length_singleton] at h1
    refine (h.ok C (by omega) h2).snoc ?_ (by dsimp only; rw [h0]; rfl)
    refine evE_ok (kd := 1) ⟨by decide, by decide⟩ (by omega) hs ⟨by decide, by decide⟩ rfl fun q hq => ?_
    obtain ⟨h3, k, h4, h5⟩ := he q hq
    rw [evOrd_neg]
    refine .inr ⟨h3, ?_⟩
    dsimp only
    rw [h5, ← h4]
    exact vkey_less (by omega)
  · rcases List.mem_append.1 hz with hz | hz
    · exact h.stn z hz
    · rw [List.mem_singleton.1 hz]; exact hs
  · rcases List.mem_append.1 hx with hx | hx
    · exact h.lt x hx
    · rw [List.mem_singleton.1 hx]; show (1 : Int) < 2; decide
  · rw [lastS_snoc]
    dsimp only
    have hkl : k < lc.length + 1 := by
      have := (List.getElem?_eq_some_iff.1 hk).1
      rwa [List.length_append] at this
    rw [vkey_eqb hl (by omega)]
    by_cases e : lc.length = k
    · subst e
      rw [List.getElem?_append_right (Nat.le_refl _), Nat.sub_self] at hk
      injection hk with hk
      subst hk
      rw [if_pos (decide_eq_true rfl), h0]
      exact ⟨1, rfl⟩
    · rw [List.getElem?_append_left (by omega)] at hk
      rw [if_neg (by rw [decide_eq_false e]; decide)]
      exact h.here k z hk
  · rw [List.length_append, List.length_singleton] at h1
    rw [lastS_snoc]
    dsimp only
    rw [vkey_eqb hl h2, if_neg (by rw [decide_eq_false (by omega)]; decide)]
    exact h.no k (by omega) h2
  · rcases List.mem_append.1 hx with hx | hx
    · exact h.evs x hx
    · rw [List.mem_singleton.1 hx]; exact ev_ok ⟨by decide, by decide⟩ hl ⟨by decide, by decide⟩ (by decide)
  · rw [lastO_snoc] at hq
    injection hq with hq
    subst hq
    exact ⟨rfl, lc.length, by rw [List.length_append]; rfl, rfl⟩
theorem Sim.move {lc : List Nat} {el : List Ev} {at_ : Int} {m k a b : Nat} (h : Sim lc el at_ m) (hk : lc[k]? = some a) (hb : b < 4) (hab : b ≠ a) (ha0 : 0 ≤ at_ ∧ at_ ≤ 5761438) : Sim (lc.set k b) (el ++ [⟨at_, vkey k, skey a, 6, skey b⟩, ⟨at_ + 1, vkey k, skey b, 7, ⟨#[]⟩⟩]) (at_ + 2) (m + 2) := by
  have hkl := (List.getElem?_eq_some_iff.1 hk).1
  have hlen := h.len
  have ha := h.stn a (List.mem_of_getElem? hk)
  obtain ⟨t, ht⟩ := h.here k a hk
  have e2 : el ++ [⟨at_, vkey k, skey a, 6, skey b⟩, ⟨at_ + 1, vkey k, skey b, 7, ⟨#[]⟩⟩] = (el ++ [⟨at_, vkey k, skey a, 6, skey b⟩]) ++ [(⟨at_ + 1, vkey k, skey b, 7, ⟨#[]⟩⟩ : Ev)] := by simp
  have hg1 : goodB (lastS (vkey k) el sa0) ⟨at_, vkey k, skey a, 6, skey b⟩ = true := by
    rw [ht]; unfold goodB; simp
  have s1 : ∀ v, lastS v (el ++ [⟨at_, vkey k, skey a, 6, skey b⟩]) sa0 = if ((vkey k).toList == v.toList) = true then ⟨4, skey b, at_⟩ else lastS v el sa0 := fun v => by
    rw [lastS_snoc]
    dsimp only
    by_cases e : ((vkey k).toList == v.toList) = true
    · rw [if_pos e, if_pos e]
      have e3 := bytes_eqb.1 e
      rw [← e3]
      unfold stepS
      rw [if_pos hg1]; rfl
    · rw [if_neg e, if_neg e]
  have s1k : lastS (vkey k) (el ++ [⟨at_, vkey k, skey a, 6, skey b⟩]) sa0 = ⟨4, skey b, at_⟩ := by rw [s1, if_pos (beq_self_eq_true _)]
  have hg2 : goodB (lastS (vkey k) (el ++ [⟨at_, vkey k, skey a, 6, skey b⟩]) sa0) ⟨at_ + 1, vkey k, skey b, 7, ⟨#[]⟩⟩ = true := by
    rw [s1k]; unfold goodB; simp
  have s2 : ∀ v, lastS v ((el ++ [⟨at_, vkey k, skey a, 6, skey b⟩]) ++ [(⟨at_ + 1, vkey k, skey b, 7, ⟨#[]⟩⟩ : Ev)]) sa0 = if ((vkey k).toList == v.toList) = true then ⟨1, skey b, at_ + 1⟩ else lastS v el sa0 := fun v => by
    rw [lastS_snoc]
    dsimp only
    by_cases e : ((vkey k).toList == v.toList) = true
    · rw [if_pos e, if_pos e]
      have e3 := bytes_eqb.1 e
      rw [← e3]
      unfold stepS
      rw [if_pos hg2]; rfl
    · rw [if_neg e, if_neg e, s1, if_neg e]
  rw [e2]
  refine ⟨fun C h1 h2 => ?_, by rw [List.length_set]; exact hlen, fun z hz => ?_, fun x hx => ?_, fun j z hj => ?_, fun j h1 h2 => ?_, fun x hx => ?_, by rw [List.length_append, List.length_append, h.size]; rfl⟩
  · rw [List.length_set] at h1
    have hl1 : LogOk C (el ++ [⟨at_, vkey k, skey a, 6, skey b⟩]) := (h.ok C h1 h2).snoc (evE_ok (kd := 6) (by omega) (by omega) ha ⟨by decide, by decide⟩ (by rw [if_pos rfl]; exact ⟨b, hb, rfl, hab⟩) fun q hq => by
      rw [evOrd_neg]
      exact .inl (h.lt q (lastO_mem hq))) hg1
    refine hl1.snoc (evE_ok (kd := 7) (by omega) (by omega) hb ⟨by decide, by decide⟩ rfl fun q hq => ?_) hg2
    rw [lastO_snoc] at hq
    injection hq with hq
    subst hq
    rw [evOrd_neg]
    exact .inl (by dsimp only; omega)
  · rcases List.mem_or_eq_of_mem_set hz with hz | rfl
    · exact h.stn z hz
    · exact hb
  · rcases List.mem_append.1 hx with hx | hx
    · rcases List.mem_append.1 hx with hx | hx
      · have := h.lt x hx; omega
      · rw [List.mem_singleton.1 hx]; dsimp only; omega
    · rw [List.mem_singleton.1 hx]; dsimp only; omega
  · rw [s2]
    have hjl : j < lc.length := by
      have := (List.getElem?_eq_some_iff.1 hj).1
      rwa [List.length_set] at this
    rw [vkey_eqb (by omega) (by omega)]
    by_cases e : k = j
    · subst e
      rw [List.getElem?_set_self hkl] at hj
      injection hj with hj
      subst hj
      rw [if_pos (decide_eq_true rfl)]
      exact ⟨_, rfl⟩
    · rw [List.getElem?_set_ne e] at hj
      rw [if_neg (by rw [decide_eq_false e]; decide)]
      exact h.here j z hj
  · rw [List.length_set] at h1
    rw [s2, vkey_eqb (by omega) h2, if_neg (by rw [decide_eq_false (by omega)]; decide)]
    exact h.no j h1 h2
  · have hz : (⟨#[]⟩ : ByteArray).size ≤ 1 := by decide
    rcases List.mem_append.1 hx with hx | hx
    · rcases List.mem_append.1 hx with hx | hx
      · exact h.evs x hx
      · rw [List.mem_singleton.1 hx]; exact ev_ok (by omega) (by omega) ⟨by decide, by decide⟩ (skey_size b)
    · rw [List.mem_singleton.1 hx]; exact ev_ok (by omega) (by omega) ⟨by decide, by decide⟩ hz
def idxF (s : Nat) : Nat → List Nat → List Nat
  | _, [] => []
  | k, x :: r => if x = s then k :: idxF s (k + 1) r else idxF s (k + 1) r
def cntR (s : Nat) : List Nat → Int
  | [] => 0
  | x :: r => (if x = s then 1 else 0) + cntR s r
theorem idxF_len {s : Nat} : ∀ {l : List Nat} {k : Nat}, ((idxF s k l).length : Int) = cntR s l
  | [], _ => rfl
  | x :: r, k => by
    have ih := idxF_len (s := s) (l := r) (k := k + 1)
    unfold idxF cntR
    by_cases e : x = s
    · rw [if_pos e, if_pos e, List.length_cons]; omega
    · rw [if_neg e, if_neg e]; omega
theorem idxF_at {s : Nat} : ∀ {l : List Nat} {k j : Nat}, j ∈ idxF s k l → k ≤ j ∧ l[j - k]? = some s
  | [], _, _, h => by cases h
  | x :: r, k, j, h => by
    unfold idxF at h
    by_cases e : x = s
    · rw [if_pos e] at h
      rcases List.mem_cons.1 h with rfl | h
      · exact ⟨Nat.le_refl _, by rw [Nat.sub_self, e]; rfl⟩
      · obtain ⟨h1, h2⟩ := idxF_at h
        exact ⟨by omega, by rw [show j - k = (j - (k + 1)) + 1 by omega, List.getElem?_cons_succ]; exact h2⟩
    · rw [if_neg e] at h
      obtain ⟨h1, h2⟩ := idxF_at h
      exact ⟨by omega, by rw [show j - k = (j - (k + 1)) + 1 by omega, List.getElem?_cons_succ]; exact h2⟩
theorem idxF_nodup {s : Nat} : ∀ {l : List Nat} {k : Nat}, (idxF s k l).Nodup
  | [], _ => List.nodup_nil
  | x :: r, k => by
    unfold idxF
    by_cases e : x = s
    · rw [if_pos e]
      exact List.nodup_cons.2 ⟨fun h => by have := (idxF_at h).1; omega, idxF_nodup⟩
    · rw [if_neg e]; exact idxF_nodup
theorem cntR_snoc {s x : Nat} : ∀ {l : List Nat}, cntR s (l ++ [x]) = cntR s l + (if x = s then 1 else 0)
  | [] => by show (if x = s then (1 : Int) else 0) + 0 = 0 + _; omega
  | y :: r => by
    show (if y = s then (1 : Int) else 0) + cntR s (r ++ [x]) = (if y = s then (1 : Int) else 0) + cntR s r + _
    rw [cntR_snoc]; omega
theorem cntR_set {s a b : Nat} : ∀ {l : List Nat} {k : Nat}, l[k]? = some a → cntR s (l.set k b) = cntR s l - (if a = s then 1 else 0) + (if b = s then 1 else 0)
  | [], _, h => by simp at h
  | y :: r, 0, h => by
    simp at h
    subst h
    show (if b = s then (1 : Int) else 0) + cntR s r = (if y = s then (1 : Int) else 0) + cntR s r - _ + _
    omega
  | y :: r, k + 1, h => by
    have ih := cntR_set (s := s) (b := b) (l := r) (k := k) (by simpa using h)
    show (if y = s then (1 : Int) else 0) + cntR s (r.set k b) = (if y = s then (1 : Int) else 0) + cntR s r - _ + _
    rw [ih]; omega
def rdyL (lc : List Nat) (s : Nat) : List ByteArray := (idxF s 0 lc).map vkey
theorem rdyL_len (lc : List Nat) (s : Nat) : ((rdyL lc s).length : Int) = cntR s lc := by unfold rdyL; rw [List.length_map]; exact idxF_len
theorem filt_idx {p : Vh → Bool} {s : Nat} : ∀ {l : List Nat} {k : Nat}, (∀ j x, l[j]? = some x → p (vehK (k + j)) = decide (x = s)) → ((vhF k l.length).filter p).map Vh.key = (idxF s k l).map vkey
  | [], _, _ => rfl
  | x :: r, k, h => by
    have h0 := h 0 x rfl
    rw [Nat.add_zero] at h0
    have ih := filt_idx (p := p) (s := s) (l := r) (k := k + 1) fun j y hj => by
      have := h (j + 1) y (by simpa using hj)
      rw [show k + 1 + j = k + (j + 1) by omega]; exact this
    rw [List.length_cons, vhF]
    unfold idxF
    by_cases e : x = s
    · rw [decide_eq_true e] at h0
      rw [List.filter_cons_of_pos h0, if_pos e, List.map_cons, List.map_cons, ih]; rfl
    · rw [decide_eq_false e] at h0
      rw [List.filter_cons_of_neg (by rw [h0]; decide), if_neg e, ih]
theorem Sim.evs0 {lc : List Nat} {el : List Ev} {at_ : Int} {m : Nat} (h : Sim lc el at_ m) (hm : m ≤ 3000) : evsE sl4 cl1 (vhL lc.length) [] el = 0 := by
  have h1 := fleet4 lc.length h.len
  rw [evs_two h1]
  unfold logE
  rw [if_neg (by rw [h.size]; omega)]
  exact (h.ok _ (Nat.le_refl _) h.len).scan
theorem take_all {at_ : Int} : ∀ {el : List Ev}, (∀ x ∈ el, x.at_ < at_) → el.takeWhile (fun x => decide (x.at_ ≤ at_)) = el
  | [], _ => rfl
  | x :: r, h => by
    have h1 := h x (List.mem_cons_self ..)
    rw [List.takeWhile_cons_of_pos (p := fun x : Ev => decide (x.at_ ≤ at_)) (a := x) (decide_eq_true (by omega)), take_all fun y hy => h y (List.mem_cons_of_mem _ hy)]
theorem Sim.ready {lc : List Nat} {el : List Ev} {at_ : Int} {m s : Nat} (h : Sim lc el at_ m) (hm : m ≤ 3000) (ha : 0 ≤ at_ ∧ at_ ≤ 5761439) (hs : s < 4) :
    rdE sl4 cl1 (vhL lc.length) [] el (skey s) ⟨#[99]⟩ at_ = 0 ∧ rfsL cl1 ⟨#[99]⟩ el at_ (skey s) (vhL lc.length) cl1.length = rdyL lc s := by
  have h0 := h.evs0 hm
  have hsort := (log_ok (evs_ok h0).2).1
  have hlen := h.len
  refine ⟨?_, ?_⟩
  · unfold rdE
    have e1 : whenE (!sl4.any (stP (skey s)) || decide (ixP (csP ⟨#[99]⟩) cl1 0 < 0)) 8 = 0 := by
      rw [skey_any hs]; decide +kernel
    have e2 : momentE at_ = 0 := by
      unfold momentE
      rw [inB_iff.2 ha]; rfl
    rw [h0, e1, e2]; rfl
  · have e : rfsL cl1 ⟨#[99]⟩ el at_ (skey s) (vhL lc.length) cl1.length = rfL cl1 ⟨#[99]⟩ el at_ (skey s) (vhL lc.length) 0 := by
      unfold rfsL
      show (List.range 1).flatMap _ = _
      simp
    rw [e]
    unfold rfL rdyL vhL
    refine filt_idx fun j x hj => ?_
    have hjl := (List.getElem?_eq_some_iff.1 hj).1
    obtain ⟨t, ht⟩ := h.here j x hj
    have hst : stateR el (vkey j) at_ = ⟨1, skey x, t⟩ := by
      rw [stateR_eq hsort ha.1, take_all h.lt]; exact ht
    rw [Nat.zero_add]
    unfold thatB readyB vehK
    dsimp only
    rw [hst]
    have e3 : stepsV cl1 ⟨#[99]⟩ ⟨#[99]⟩ = ((0 : Nat) : Int) := by decide +kernel
    rw [e3]
    dsimp only
    rw [skey_eqb (h.stn x (List.mem_of_getElem? hj)) hs]; simp
theorem Sim.whole {lc : List Nat} {el : List Ev} {at_ : Int} {m : Nat} (h : Sim lc el at_ m) : brokenP el = [] := by
  unfold brokenP
  rw [(h.ok _ (Nat.le_refl _) h.len).brk]; rfl
end Go.Proofs.Ytodcildcipfmcaa
namespace Go.Proofs.Ytodcildcipfmcaa
open Go.RowKit
/-- The needs that are drawn, and the cars that stand there. -/
def NeedsP (nl : List Nd) (lc : List Nat) (i : Nat) : Prop := nl.length = i ∧ ∀ j, j < i → ∃ z, nl[j]? = some ⟨skey j, z⟩ ∧ -1 ≤ z ∧ z ≤ 2 ∧ cntR j lc = max z 0
theorem cntR_none {s : Nat} : ∀ {l : List Nat}, (∀ x ∈ l, x < s) → cntR s l = 0
  | [], _ => rfl
  | x :: r, h => by
    have h1 := h x (List.mem_cons_self ..)
    show (if x = s then (1 : Int) else 0) + cntR s r = 0
    rw [if_neg (by omega), cntR_none fun y hy => h y (List.mem_cons_of_mem _ hy)]; rfl
theorem NeedsP.zero : NeedsP [] [] 0 := ⟨rfl, fun j hj => absurd hj (by omega)⟩
/-- One station more: z cars there. -/
theorem NeedsP.next {nl : List Nd} {lc lc2 : List Nat} {i : Nat} {z : Int} (h : NeedsP nl lc i) (hz : -1 ≤ z ∧ z ≤ 2) (hc : ∀ s, cntR s lc2 = cntR s lc + (if i = s then max z 0 else 0)) (hl : ∀ x ∈ lc, x < i) : NeedsP (nl ++ [⟨skey i, z⟩]) lc2 (i + 1) := by
  refine ⟨by rw [List.length_append, h.1]; rfl, fun j hj => ?_⟩
  by_cases e : j = i
  · subst e
    refine ⟨z, ?_, hz.1, hz.2, ?_⟩
    · rw [List.getElem?_append_right (by rw [h.1]; omega), h.1, Nat.sub_self]; rfl
    · rw [hc, cntR_none hl, if_pos rfl]; omega
  · obtain ⟨y, h1, h2, h3, h4⟩ := h.2 j (by omega)
    refine ⟨y, ?_, h2, h3, ?_⟩
    · rw [List.getElem?_append_left (by rw [h.1]; omega)]; exact h1
    · rw [hc, if_neg (by omega), h4]; omega
theorem NeedsP.ndB {nl : List Nd} {lc : List Nat} {i : Nat} (h : NeedsP nl lc i) : ∀ x ∈ nl, NdB x := fun x hx => by
  obtain ⟨j, hj⟩ := List.getElem?_of_mem hx
  have hlt := (List.getElem?_eq_some_iff.1 hj).1
  obtain ⟨z, h1, h2, h3, _⟩ := h.2 j (by rw [← h.1]; exact hlt)
  rw [hj] at h1
  injection h1 with h1
  subst h1
  have := skey_size j
  unfold NdB
  dsimp only
  omega
section
variable {nl : List Nd} {lc0 : List Nat} {ou : List Mv}
theorem NeedsP.sta (h : NeedsP nl lc0 4) {s : Nat} (hs : s < 4) : staAt nl s = skey s := by
  obtain ⟨z, h1, _⟩ := h.2 s hs
  exact staAt_get h1
theorem NeedsP.atn (h : NeedsP nl lc0 4) {s : Nat} (hs : s < 4) : cntR s lc0 = max (atL (nl.map Nd.many) s) 0 ∧ -1 ≤ atL (nl.map Nd.many) s ∧ atL (nl.map Nd.many) s ≤ 2 := by
  obtain ⟨z, h1, h2, h3, h4⟩ := h.2 s hs
  have e : atL (nl.map Nd.many) s = z := by unfold atL; rw [List.getElem?_map, h1]; rfl
  rw [e]; exact ⟨h4, h2, h3⟩
/-- How many cars there are at each station. -/
def PSt (nl : List Nd) (ou : List Mv) (p : Nat) (lc : List Nat) : Prop := ∀ s, s < 4 → cntR s lc = max (atL (nl.map Nd.many) s) 0 - outF (ou.take p) s + inF (ou.take p) s
theorem PSt.zero (h : NeedsP nl lc0 4) : PSt nl ou 0 lc0 := fun s hs => by
  rw [(h.atn hs).1]
  show _ = _ - (0 : Int) + 0
  omega
theorem outF_split (p : Nat) (i : Nat) : outF ou i = outF (ou.take p) i + outF (ou.drop p) i := by
  conv => lhs; rw [← List.take_append_drop p ou]
  exact outF_app
theorem PlanOk.one (hP : PlanOk nl 4 ou) : ∀ m ∈ ou, 1 ≤ m.many := fun m hm => (hP.mv m hm).2.2.1
theorem move_ok {p : Nat} {lc : List Nat} {f t : Nat} {mn : Int} (hP : PlanOk nl 4 ou) (hn : NeedsP nl lc0 4) (h : PSt nl ou p lc) (hx : ou[p]? = some ⟨f, t, mn⟩) : (f < 4 ∧ t < 4) ∧ t ≠ f ∧ (1 ≤ mn ∧ mn ≤ 2) ∧ mn ≤ cntR f lc := by
  obtain ⟨⟨h1, h2⟩, ⟨h3, h4⟩, h5, _⟩ := hP.mv _ (List.mem_of_getElem? hx)
  dsimp only at h1 h2 h3 h4 h5
  have hp := (List.getElem?_eq_some_iff.1 hx).1
  have hd : ou.drop p = ⟨f, t, mn⟩ :: ou.drop (p + 1) := by
    obtain ⟨hh, e⟩ := List.getElem?_eq_some_iff.1 hx
    rw [List.drop_eq_getElem_cons hh, e]
  have k1 := hP.out f h1
  have k2 := hn.atn h1
  have k3 := outF_split (ou := ou) p f
  have k4 : outF (ou.drop p) f = mn + outF (ou.drop (p + 1)) f := by
    rw [hd]
    show (if f = f then mn else 0) + _ = _
    rw [if_pos rfl]
  have k5 : 0 ≤ outF (ou.drop (p + 1)) f := outF_nonneg fun m hm => hP.one m (List.mem_of_mem_drop hm)
  have k6 : 0 ≤ outF (ou.take p) f := outF_nonneg fun m hm => hP.one m (List.mem_of_mem_take hm)
  have k7 : 0 ≤ inF (ou.take p) f := inF_nonneg fun m hm => hP.one m (List.mem_of_mem_take hm)
  have k8 := h f h1
  refine ⟨⟨h1, h2⟩, fun e => ?_, ⟨h5, by omega⟩, by omega⟩
  subst e
  rw [h3] at h4; cases h4
theorem PSt.next {p : Nat} {lc lc2 : List Nat} {f t : Nat} {mn : Int} (h : PSt nl ou p lc) (hx : ou[p]? = some ⟨f, t, mn⟩) (hc : ∀ s, cntR s lc2 = cntR s lc - (if f = s then mn else 0) + (if t = s then mn else 0)) : PSt nl ou (p + 1) lc2 := fun s hs => by
  have h1 := h s hs
  rw [hc, h1, List.take_add_one, hx, Option.toList_some, outF_app, inF_app]
  show _ = _ - (_ + ((if f = s then mn else 0) + 0)) + (_ + ((if t = s then mn else 0) + 0))
  omega
theorem PSt.done {p : Nat} {lc : List Nat} (hP : PlanOk nl 4 ou) (h : PSt nl ou p lc) (hp : ou.length ≤ p) {s : Nat} (hs : s < 4) (hz : atL (nl.map Nd.many) s < 0) : cntR s lc = -(atL (nl.map Nd.many) s) := by
  have h1 := h s hs
  rw [List.take_of_length_le hp] at h1
  have h2 := hP.out s hs
  have h3 := hP.in_ s hs
  have h4 : 0 ≤ outF ou s := outF_nonneg hP.one
  omega
end
/-- While the first of those who stand at a go to b. -/
structure MvI (lc lc2 idx : List Nat) (a b j : Nat) : Prop where
  at_ : ∀ q k, j ≤ q → idx[q]? = some k → lc2[k]? = some a
  cnt : ∀ s, cntR s lc2 = cntR s lc - (if a = s then ((j : Nat) : Int) else 0) + (if b = s then ((j : Nat) : Int) else 0)
  len : lc2.length = lc.length
theorem MvI.zero {lc : List Nat} {a b : Nat} : MvI lc lc (idxF a 0 lc) a b 0 := ⟨fun q k _ hk => by
  have := (idxF_at (List.mem_of_getElem? hk)).2
  rwa [Nat.sub_zero] at this, fun s => by split <;> split <;> omega, rfl⟩
theorem MvI.step {lc lc2 idx : List Nat} {a b j k : Nat} (h : MvI lc lc2 idx a b j) (hn : idx.Nodup) (hk : idx[j]? = some k) : MvI lc (lc2.set k b) idx a b (j + 1) := by
  have hka := h.at_ j k (Nat.le_refl _) hk
  refine ⟨fun q i hq hi => ?_, fun s => ?_, by rw [List.length_set]; exact h.len⟩
  · have hne : k ≠ i := fun e => by
      subst e
      obtain ⟨h1, e1⟩ := List.getElem?_eq_some_iff.1 hk
      obtain ⟨h2, e2⟩ := List.getElem?_eq_some_iff.1 hi
      have := (List.nodup_iff_pairwise_ne.1 hn)
      have h3 := List.pairwise_iff_getElem.1 this j q h1 h2 (by omega)
      rw [e1, e2] at h3
      exact h3 rfl
    rw [List.getElem?_set_ne hne]
    exact h.at_ q i (by omega) hi
  · rw [cntR_set hka, h.cnt s]
    split <;> split <;> omega
end Go.Proofs.Ytodcildcipfmcaa
