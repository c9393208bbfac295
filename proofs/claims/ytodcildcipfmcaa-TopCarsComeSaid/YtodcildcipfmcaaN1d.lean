/- Several texts as one: Plc Plk Pld Ple Plg Ifc Alc Tcc -/
import Derived.Test.YtodcildcipfmcaaN1c
import Derived.Test.YtodcildcipfmcaaN1a
import Derived.Test.YtodcildcipfmcaaProg
import Derived.OneCell
import Derived.Test.YtodcildcipfmcaaN1b
import Derived.Laws.Build
import Derived.Laws.Slices
import Derived.Laws.Strings
import Derived.Laws.Runes
set_option maxRecDepth 100000
set_option maxHeartbeats 4000000
namespace Go.Proofs.Ytodcildcipfmcaa
open Go.RowKit
theorem ways_any (al : List Arc) (ll : List Int) (p : Nat → Int) (gx : Nat) (hA wA aA lA : Option Addr) (n hc wc k ac lc : Nat) (w : World) (hx : Blk w gx 77 [.slice hA n hc, .slice wA n wc, .slice aA k ac]) (ha : SlT arEnc 4 79 w aA k al) (hl : SlT naEnc 1 3 w lA n ll)
  (hp : Pot al (atL ll) p) (hok : ∀ a ∈ al, (a.fr < n ∧ a.to_ < n) ∧ 0 ≤ a.car ∧ a.car ≤ 1000000 ∧ 0 ≤ a.flow) (hn : n ≤ 10) (hk : k ≤ 1000) :
  Calls Try.prog 37 #[.pointer (some ⟨gx, 0, none⟩), .slice lA n lc] w (fun e w' => ∃ (dA : Option Addr) (dc : Nat) (bA : Option Addr) (bc : Nat) (dl : List Int) (bl : List ByK), e = .returned (.tuple #[.slice dA n dc, .slice bA n bc]) ∧ (Ways al (atL ll) n p dl bl ∧ Closed2 al dl ∧ dl.length = n ∧ bl.length = n) ∧
   w'.ownsRow w.heap.size 3 1 (.slice dA n dc) n (dl.flatMap naEnc) ∧ SlT byEnc 2 111 w' bA n bl ∧ w.grownBy w' none) := by
 refine gw_enter ⟨142, w, none, []⟩ Try.func37 rfl Try.ntmps37 rfl (mem0 (X := [BlkOld w.heap.size none gx 77 [.slice hA n hc, .slice wA n wc, .slice aA k ac], SlOld arEnc 4 79 w.heap.size none aA k al, SlOld naEnc 1 3 w.heap.size none lA n ll]) (allF_cons hx.old (allF_cons ha.old (allF_cons hl.old allF_nil))) (allL_cons BlkOld.lasts (allL_cons SlOld.lasts (allL_cons SlOld.lasts allL_nil)))) ?_
 refine sr_ ?_
 have hal := ha.len
 have hll := hl.len
 have hMn : (0 : Int) ≤ 1000000 := by decide
 have hfar : farI = 1125899906842624 := rfl
 refine sg_ rfl (sg_ rfl (nn_ ?_))
 refine gw_cut (γ := Nat × Nat) (I := (fun g => True)) (S' := (fun g => [(0, .pointer (some ⟨gx, 0, none⟩)), (1, .slice lA n lc), (4, .slice (some ⟨g.1, 0, none⟩) n n), (5, .slice (some ⟨g.2, 0, none⟩) n n)])) (K' := (fun g => fun _ => True)) (L' := (fun g => [])) (O' := (fun g => [⟨.slice (some ⟨g.1, 0, none⟩) n n, 3, 1, n, (List.replicate n (0 : Int)).flatMap naEnc⟩, ⟨.slice (some ⟨g.2, 0, none⟩) n n, 111, 2, n, (List.replicate n (some (0, false) : ByK)).flatMap byEnc⟩])) (X' := (fun g => [BlkOld w.heap.size none gx 77 [.slice hA n hc, .slice wA n wc, .slice aA k ac], SlOld arEnc 4 79 w.heap.size none aA k al, SlOld naEnc 1 3 w.heap.size none lA n ll])) ?_ ?_
 ·refine gd (fun wz => (BlkOld w.heap.size none gx 77 [.slice hA n hc, .slice wA n wc, .slice aA k ac]) wz ∧ (SlOld arEnc 4 79 w.heap.size none aA k al) wz ∧ (SlOld naEnc 1 3 w.heap.size none lA n ll) wz ∧ True) mixed (fun _ hm => ⟨hm.fa 0, hm.fa 1, hm.fa 2, trivial⟩) fun z => ?_
  refine wt 0 14 1 rfl z (ov_move rfl) ?_
  refine wt 1 14 3 rfl z (ov_nilcheck rfl) ?_
  refine wt 2 14 7 rfl z (ov_field fo77_0 rfl rfl) ?_
  refine wt 3 14 15 rfl z (ov_load (v := .slice hA n hc) sc22 rfl (fun _ hm => (hm.1).2) rfl) ?_
  refine wt 4 14 31 rfl z (ov_len es22 rfl) ?_
  refine wt 6 14 95 rfl z (ov_move rfl) ?_
  refine wt 7 14 223 rfl z (ov_nilcheck rfl) ?_
  refine wt 8 14 479 rfl z (ov_field fo77_0 rfl rfl) ?_
  refine wt 9 14 991 rfl z (ov_load (v := .slice hA n hc) sc22 rfl (fun _ hm => (hm.1).2) rfl) ?_
  refine wt 10 14 2015 rfl z (ov_len es22 rfl) ?_
  refine wa_all [5, 11] (by kernel_rfl) rfl ⟨⟨_, rfl, ?_⟩, ⟨_, rfl, ?_⟩, trivial⟩
  ·refine wl_makeO (n := n) (sz := 1) (e := 3) (by_ := 8) (z := .int .i64 0) (by kernel_rfl) (by kernel_rfl) rfl rfl (by omega) (by omega) (by omega) (by unfold maxLen; omega) (made_flat (enc := naEnc) (x := (0 : Int)) rfl rfl (by decide) (n)) rfl fun g1 => ?_
   refine wl_nil ?_
   refine nw 14 2047 (fun _ hm => ⟨hm.fa 0, hm.fa 1, hm.fa 2, trivial⟩) fun z => ?_
   refine wt 12 14 6143 rfl z (ov_assign rfl) ?_
   refine wa1 11 rfl ?_
   refine wl_makeO (n := n) (sz := 2) (e := 111) (by_ := 16) (z := .agg #[.int .i64 0, .bool false]) (by kernel_rfl) (by kernel_rfl) rfl rfl (by omega) (by omega) (by omega) (by unfold maxLen; omega) (made_flat (enc := byEnc) (x := (some (0, false) : ByK)) rfl rfl (by decide) (n)) rfl fun g2 => ?_
   refine wl_nil ?_
   refine nw 14 8191 (fun _ hm => ⟨hm.fa 0, hm.fa 1, hm.fa 2, trivial⟩) fun z => ?_
   refine wt 13 14 16383 rfl z (ov_assign rfl) ?_
   refine wa_done (by kernel_rfl) ?_
   exact nx_meet (g1, g2) trivial ⟨rfl, rfl, rfl, rfl, trivial⟩ (fun _ hm => hm.pick [] [1, 0] [0, 1, 2] rfl rfl)
  refine wl_makeO (n := n) (sz := 2) (e := 111) (by_ := 16) (z := .agg #[.int .i64 0, .bool false]) (by kernel_rfl) (by kernel_rfl) rfl rfl (by omega) (by omega) (by omega) (by unfold maxLen; omega) (made_flat (enc := byEnc) (x := (some (0, false) : ByK)) rfl rfl (by decide) (n)) rfl fun g3 => ?_
  refine wl_nil ?_
  refine nw 14 4063 (fun _ hm => ⟨hm.fa 0, hm.fa 1, hm.fa 2, trivial⟩) fun z => ?_
  refine wa1 5 rfl ?_
  refine wl_makeO (n := n) (sz := 1) (e := 3) (by_ := 8) (z := .int .i64 0) (by kernel_rfl) (by kernel_rfl) rfl rfl (by omega) (by omega) (by omega) (by unfold maxLen; omega) (made_flat (enc := naEnc) (x := (0 : Int)) rfl rfl (by decide) (n)) rfl fun g4 => ?_
  refine wl_nil ?_
  refine nw 14 4095 (fun _ hm => ⟨hm.fa 0, hm.fa 1, hm.fa 2, trivial⟩) fun z => ?_
  refine wt 12 14 8191 rfl z (ov_assign rfl) ?_
  refine wt 13 14 16383 rfl z (ov_assign rfl) ?_
  refine wa_done (by kernel_rfl) ?_
  exact nx_meet (g4, g3) trivial ⟨rfl, rfl, rfl, rfl, trivial⟩ (fun _ hm => hm.pick [] [0, 1] [0, 1, 2] rfl rfl)
 rintro ⟨zd, gb⟩ hinv
 replace hinv : True := hinv
 dsimp only
 refine gw_seq (sr_ (mv_ rfl (wl_ov (ov_len es22 rfl) rfl (mv_ rfl (nn_ (gw_block ?_))))))
 refine gw_loop (γ := Nat × List Int × List ByK) (fun gg => (gg.1 ≤ n ∧ gg.2.1.length = n ∧ gg.2.2.length = n) ∧ Start1 ll gg.2.1 gg.2.2 gg.1) (fun gg => [(0, .pointer (some ⟨gx, 0, none⟩)), (1, .slice lA n lc), (4, .slice (some ⟨zd, 0, none⟩) n n), (5, .slice (some ⟨gb, 0, none⟩) n n), (23, .int .i64 ((n : Nat) : Int)), (24, .int .i64 ((gg.1 : Nat) : Int))]) (fun gg => fun _ => True) (fun gg => []) (fun gg => [⟨.slice (some ⟨zd, 0, none⟩) n n, 3, 1, n, gg.2.1.flatMap naEnc⟩, ⟨.slice (some ⟨gb, 0, none⟩) n n, 111, 2, n, gg.2.2.flatMap byEnc⟩]) (fun gg => [BlkOld w.heap.size none gx 77 [.slice hA n hc, .slice wA n wc, .slice aA k ac], SlOld arEnc 4 79 w.heap.size none aA k al, SlOld naEnc 1 3 w.heap.size none lA n ll]) (fun gg => n - gg.1) (0, (List.replicate n (0 : Int)), (List.replicate n (some (0, false) : ByK))) ⟨⟨Nat.zero_le _, List.length_replicate, List.length_replicate⟩, Start1.zero⟩ ⟨rfl, rfl, rfl, rfl, rfl, rfl, trivial⟩ (fun _ hm => hm.pick [] [0, 1] [0, 1, 2] rfl rfl) ?_
 rintro ⟨i, dl, bl⟩ hinv
 replace hinv : (i ≤ n ∧ dl.length = n ∧ bl.length = n) ∧ Start1 ll dl bl i := hinv
 dsimp only
 refine sr_ ?_
 obtain ⟨⟨hi0, hdl, hbl⟩, hst⟩ := hinv
 refine wl_ov (ov_lss rfl rfl) rfl (nn_ (gw_seq ?_))
 refine gw_cond rfl (fun hh => ?_) (fun hh => ?_)
 ·have hi : ((i : Nat) : Int) < ((n : Nat) : Int) := by simpa using hh
  clear hh
  refine gw_skip (nx_then (gw_seq (gw_block (sr_ ?_))))
  obtain ⟨u, hu⟩ : ∃ x, dl[i]? = some x := ⟨_, List.getElem?_eq_getElem (by omega)⟩
  obtain ⟨v, hv⟩ : ∃ x, bl[i]? = some x := ⟨_, List.getElem?_eq_getElem (by omega)⟩
  refine mv_ rfl (sg_ rfl (nn_ (sr_ (mv_ rfl (mv_ rfl (mv_ rfl (mv_ rfl ?_)))))))
  refine wl_ov (ov_build (cs := [.int .i64 (-1), .bool false]) rfl (by kernel_rfl)) rfl ?_
  refine wl_ov (ov_index (j := i) es22 rfl rfl (by omega)) rfl ?_
  refine wl_storeE (l := dl) (j := i) (r := 0) (el := u) (el' := 1125899906842624) 0 sc3 rfl rfl rfl rfl na_len rfl hu hdl (show 0 < 1 by decide) rfl rfl ?_
  refine wl_ov (ov_index (j := i) es107 rfl rfl (by omega)) rfl ?_
  have hsb : splice (byEnc v) 0 [.int .i64 (-1), .bool false] = byEnc none := by rcases v with _ | ⟨v0, v1⟩ <;> rfl
  refine wl_storesE (l := bl) (j := i) (r := 0) (el := v) (el' := none) 1 rz111 rfl rfl rfl rfl rfl by_len rfl hv hbl (by decide) hsb rfl ?_
  obtain ⟨b, off, hA, _, _⟩ := hl.get (by omega)
  subst hA
  obtain ⟨y, hy⟩ : ∃ x, ll[i]? = some x := ⟨_, List.getElem?_eq_getElem (by omega)⟩
  refine nn_ (sr_ (mv_ rfl (mv_ rfl ?_)))
  refine wl_ov (ov_index (j := i) es22 rfl rfl (by omega)) rfl ?_
  refine wl_ov (ov_elem1 (k := 0) (v := .int .i64 y) sc3 rfl (fun _ hm => (hm.fact 2 rfl).1) hy rfl rfl) rfl ?_
  refine wl_ov (ov_gtr rfl rfl) rfl ?_
  refine nn_ ?_
  refine gw_cond rfl (fun hh => ?_) (fun hh => ?_)
  ·have h0 : 0 < y := by simpa using hh
   clear hh
   refine gw_region (mv_ rfl (mv_ rfl ?_))
   refine wl_ov (ov_index (j := i) es22 rfl rfl (by omega)) rfl ?_
   refine wl_storeE (l := (dl.set i 1125899906842624)) (j := i) (r := 0) (el := 1125899906842624) (el' := 0) 0 sc3 rfl rfl rfl rfl na_len rfl (List.getElem?_set_self (by omega)) (by rw [List.length_set]; exact hdl) (show 0 < 1 by decide) rfl rfl ?_
   rw [List.set_set]
   refine wl_nil (nx_blk_nrm (nx_then (gw_region (ad_ rfl rfl (mv_ rfl (wl_nil ?_))))))
   exact nx_round (i + 1, dl.set i 0, bl.set i none) ⟨⟨by dsimp only; omega, by rw [List.length_set]; exact hdl, by rw [List.length_set]; exact hbl⟩, hst.next (by omega) (by omega) (by rw [atL_get hy, if_pos h0])⟩ (by dsimp only; omega) ⟨rfl, rfl, rfl, rfl, rfl, (some_int (by omega)), trivial⟩ (fun _ hm => hm.pick [] [0, 1] [0, 1, 2] rfl rfl)
  have h0 : ¬ (0 < y) := by simpa using hh
  clear hh
  refine gw_skip (nx_blk_nrm (nx_then (gw_region (ad_ rfl rfl (mv_ rfl (wl_nil ?_))))))
  exact nx_round (i + 1, dl.set i 1125899906842624, bl.set i none) ⟨⟨by dsimp only; omega, by rw [List.length_set]; exact hdl, by rw [List.length_set]; exact hbl⟩, hst.next (by omega) (by omega) (by rw [atL_get hy, if_neg h0]; rfl)⟩ (by dsimp only; omega) ⟨rfl, rfl, rfl, rfl, rfl, (some_int (by omega)), trivial⟩ (fun _ hm => hm.pick [] [0, 1] [0, 1, 2] rfl rfl)
 have hi : ¬ (((i : Nat) : Int) < ((n : Nat) : Int)) := by simpa using hh
 clear hh
 refine gw_exit ?_
 refine nx_then_exit (nx_then_exit ?_)
 refine nx_blk_here ?_
 refine nx_then (gw_seq (sr_ ?_))
 obtain rfl : n = i := by omega
 have hw0 := hst.ways (ar := al) hp hll hdl hbl
 refine sg_ rfl (nn_ (gw_block ?_))
 refine gw_loop (γ := Bool × List Int × List ByK) (fun gg => (gg.2.1.length = n ∧ gg.2.2.length = n) ∧ Ways al (atL ll) n p gg.2.1 gg.2.2 ∧ (gg.1 = false → Closed2 al gg.2.1)) (fun gg => [(0, .pointer (some ⟨gx, 0, none⟩)), (4, .slice (some ⟨zd, 0, none⟩) n n), (5, .slice (some ⟨gb, 0, none⟩) n n), (7, .bool gg.1)]) (fun gg => fun _ => True) (fun gg => []) (fun gg => [⟨.slice (some ⟨zd, 0, none⟩) n n, 3, 1, n, gg.2.1.flatMap naEnc⟩, ⟨.slice (some ⟨gb, 0, none⟩) n n, 111, 2, n, gg.2.2.flatMap byEnc⟩]) (fun gg => [BlkOld w.heap.size none gx 77 [.slice hA n hc, .slice wA n wc, .slice aA k ac], SlOld arEnc 4 79 w.heap.size none aA k al, SlOld naEnc 1 3 w.heap.size none lA n ll]) (fun gg => 2 * dSum n (1000000 * n) gg.2.1 + (if gg.1 = true then 1 else 0)) (true, dl, bl) ⟨⟨hdl, hbl⟩, hw0, (fun h => by cases h)⟩ ⟨rfl, rfl, rfl, rfl, trivial⟩ (fun _ hm => hm.pick [] [0, 1] [0, 1, 2] rfl rfl) ?_
 rintro ⟨ch, dl, bl⟩ hinv
 replace hinv : (dl.length = n ∧ bl.length = n) ∧ Ways al (atL ll) n p dl bl ∧ (ch = false → Closed2 al dl) := hinv
 dsimp only
 refine gw_seq (sr_ ?_)
 obtain ⟨⟨hdl2, hbl2⟩, hw1, hcl⟩ := hinv
 refine mv_ rfl (nn_ ?_)
 refine gw_cond rfl (fun hh => ?_) (fun hh => ?_)
 ·have hch : ch = true := by simpa using hh
  clear hh
  refine gw_skip (nx_then (gw_block (sr_ ?_)))
  subst hch
  refine sg_ rfl (nn_ (sr_ (mv_ rfl (wl_ov (ov_nilcheck rfl) rfl (fd_ fo77_2 rfl rfl ?_)))))
  refine wl_ov (ov_load (v := .slice aA k ac) sc75 rfl (fun _ hm => (hm.fact 0 rfl).2) rfl) rfl ?_
  refine wl_ov (ov_len es75 rfl) rfl (mv_ rfl (nn_ (gw_block ?_)))
  refine gw_loop (γ := Nat × Bool × List Int × List ByK) (fun gg => (gg.1 ≤ k ∧ gg.2.2.1.length = n ∧ gg.2.2.2.length = n) ∧ Ways al (atL ll) n p gg.2.2.1 gg.2.2.2 ∧ dSum n (1000000 * n) gg.2.2.1 ≤ dSum n (1000000 * n) dl ∧ (gg.2.1 = true → dSum n (1000000 * n) gg.2.2.1 < dSum n (1000000 * n) dl) ∧ (gg.2.1 = false → dSum n (1000000 * n) gg.2.2.1 = dSum n (1000000 * n) dl ∧ ClosedN al gg.2.2.1 gg.1)) (fun gg => [(0, .pointer (some ⟨gx, 0, none⟩)), (4, .slice (some ⟨zd, 0, none⟩) n n), (5, .slice (some ⟨gb, 0, none⟩) n n), (7, .bool gg.2.1), (47, .slice aA k ac), (48, .int .i64 ((k : Nat) : Int)), (49, .int .i64 ((gg.1 : Nat) : Int))]) (fun gg => fun _ => True) (fun gg => []) (fun gg => [⟨.slice (some ⟨zd, 0, none⟩) n n, 3, 1, n, gg.2.2.1.flatMap naEnc⟩, ⟨.slice (some ⟨gb, 0, none⟩) n n, 111, 2, n, gg.2.2.2.flatMap byEnc⟩]) (fun gg => [BlkOld w.heap.size none gx 77 [.slice hA n hc, .slice wA n wc, .slice aA k ac], SlOld arEnc 4 79 w.heap.size none aA k al, SlOld naEnc 1 3 w.heap.size none lA n ll]) (fun gg => k - gg.1) (0, false, dl, bl) ⟨⟨Nat.zero_le _, hdl2, hbl2⟩, hw1, Nat.le_refl _, (fun h => by cases h), fun _ => ⟨rfl, ClosedN.zero⟩⟩ ⟨rfl, rfl, rfl, rfl, rfl, rfl, rfl, trivial⟩ (fun _ hm => hm.pick [] [0, 1] [0, 1, 2] rfl rfl) ?_
  rintro ⟨i, ch, ql, cl⟩ hinv
  replace hinv : (i ≤ k ∧ ql.length = n ∧ cl.length = n) ∧ Ways al (atL ll) n p ql cl ∧ dSum n (1000000 * n) ql ≤ dSum n (1000000 * n) dl ∧ (ch = true → dSum n (1000000 * n) ql < dSum n (1000000 * n) dl) ∧ (ch = false → dSum n (1000000 * n) ql = dSum n (1000000 * n) dl ∧ ClosedN al ql i) := hinv
  dsimp only
  refine sr_ ?_
  obtain ⟨⟨hi0, hql, hcl2⟩, hw2, hle, hlt, hcn⟩ := hinv
  refine wl_ov (ov_lss rfl rfl) rfl (nn_ (gw_seq ?_))
  refine gw_cond rfl (fun hh => ?_) (fun hh => ?_)
  ·have hi : ((i : Nat) : Int) < ((k : Nat) : Int) := by simpa using hh
   clear hh
   refine gw_skip (nx_then (gw_seq (gw_block (sr_ ?_))))
   obtain ⟨b, off, hA, _, _⟩ := ha.get (by omega)
   subst hA
   obtain ⟨x, hx⟩ : ∃ x, al[i]? = some x := ⟨_, List.getElem?_eq_getElem (by omega)⟩
   obtain ⟨f, t, cr, fl⟩ := x
   obtain ⟨⟨hfn, htn⟩, hcr0, hcr1, hfl0⟩ := hok _ (List.mem_of_getElem? hx)
   dsimp only at hfn htn hcr0 hcr1 hfl0
   have hM : ∀ a ∈ al, 0 ≤ a.car ∧ a.car ≤ 1000000 := fun a ha => ⟨(hok a ha).2.1, (hok a ha).2.2.1⟩
   refine mv_ rfl ?_
   refine wl_ov (ov_index (j := i) es75 rfl rfl (by omega)) rfl ?_
   refine wl_ov (ov_elem (vs := [.int .i64 ((f : Nat) : Int), .int .i64 ((t : Nat) : Int), .int .i64 cr, .int .i64 fl]) rz79 rfl (fun _ hm => (hm.fact 1 rfl).1) hx rfl rfl) rfl ?_
   refine wl_alloc zc79 rfl fun g5 => ?_
   refine sg_ rfl ?_
   refine wl_stores (cs' := [.int .i64 ((f : Nat) : Int), .int .i64 ((t : Nat) : Int), .int .i64 cr, .int .i64 fl]) 0 rz79 rfl rfl rfl rfl rfl rfl rfl rfl ?_
   refine nn_ ?_
   obtain ⟨u1, hu1⟩ : ∃ x, ql[f]? = some x := ⟨_, List.getElem?_eq_getElem (by omega)⟩
   obtain ⟨v1, hv1⟩ : ∃ x, ql[t]? = some x := ⟨_, List.getElem?_eq_getElem (by omega)⟩
   have du1 := dAt_get hu1
   have dv1 := dAt_get hv1
   have eu1 := hw2.lowAll hM hMn f
   have ev1 := hw2.lowAll hM hMn t
   rw [du1] at eu1
   rw [dv1] at ev1
   have gu1 := hw2.top f
   have gv1 := hw2.top t
   rw [du1] at gu1
   rw [dv1] at gv1
   refine gw_cut (γ := Bool × List Int × List ByK) (I := (fun gg => (gg.2.1.length = n ∧ gg.2.2.length = n) ∧ Ways al (atL ll) n p gg.2.1 gg.2.2 ∧ dSum n (1000000 * n) gg.2.1 ≤ dSum n (1000000 * n) dl ∧ (gg.1 = true → dSum n (1000000 * n) gg.2.1 < dSum n (1000000 * n) dl) ∧ (gg.1 = false → (dSum n (1000000 * n) gg.2.1 = dSum n (1000000 * n) dl ∧ ClosedN al gg.2.1 i) ∧ (dAt gg.2.1 f < farI → dAt gg.2.1 t ≤ dAt gg.2.1 f + cr)))) (S' := (fun gg => [(0, .pointer (some ⟨gx, 0, none⟩)), (4, .slice (some ⟨zd, 0, none⟩) n n), (5, .slice (some ⟨gb, 0, none⟩) n n), (7, .bool gg.1), (8, .int .i64 ((i : Nat) : Int)), (9, .pointer (some ⟨g5, 0, none⟩)), (47, .slice (some ⟨b, off, none⟩) k ac), (48, .int .i64 ((k : Nat) : Int)), (49, .int .i64 ((i : Nat) : Int))])) (K' := (fun gg => fun _ => True)) (L' := (fun gg => [(g5, 79, [.int .i64 ((f : Nat) : Int), .int .i64 ((t : Nat) : Int), .int .i64 cr, .int .i64 fl])])) (O' := (fun gg => [⟨.slice (some ⟨zd, 0, none⟩) n n, 3, 1, n, gg.2.1.flatMap naEnc⟩, ⟨.slice (some ⟨gb, 0, none⟩) n n, 111, 2, n, gg.2.2.flatMap byEnc⟩])) (X' := (fun gg => [BlkOld w.heap.size none gx 77 [.slice hA n hc, .slice wA n wc, .slice (some ⟨b, off, none⟩) k ac], SlOld arEnc 4 79 w.heap.size none (some ⟨b, off, none⟩) k al, SlOld naEnc 1 3 w.heap.size none lA n ll])) ?_ ?_
   ·refine gw_seq ?_
    refine gd (fun wz => Blk wz g5 79 [.int .i64 ((f : Nat) : Int), .int .i64 ((t : Nat) : Int), .int .i64 cr, .int .i64 fl] ∧ (BlkOld w.heap.size none gx 77 [.slice hA n hc, .slice wA n wc, .slice (some ⟨b, off, none⟩) k ac]) wz ∧ (SlOld arEnc 4 79 w.heap.size none (some ⟨b, off, none⟩) k al) wz ∧ (SlOld naEnc 1 3 w.heap.size none lA n ll) wz ∧ wz.ownsRow w.heap.size 3 1 (.slice (some ⟨zd, 0, none⟩) n n) n (ql.flatMap naEnc) ∧ wz.ownsRow w.heap.size 111 2 (.slice (some ⟨gb, 0, none⟩) n n) n (cl.flatMap byEnc) ∧ True) mixed (fun _ hm => ⟨hm.bl 0, hm.fa 0, hm.fa 1, hm.fa 2, hm.ownI 0 rfl, hm.ownI 1 rfl, trivial⟩) fun z => ?_
    refine wt 0 22 1 rfl z (ov_move rfl) ?_
    refine wt 1 22 3 rfl z (ov_field fo79_0 rfl rfl) ?_
    refine wt 2 22 7 rfl z (ov_load sc3 rfl (fun _ hm => hm.1) rfl) ?_
    refine wt 3 22 15 rfl z (ov_index (j := f) es22 rfl rfl (by omega)) ?_
    refine wt 4 22 31 rfl z (ov_elem1 (k := 0) (v := .int .i64 u1) sc3 rfl (fun _ hm => (SlT.ofOwn na_len (hm.2.2.2.2.1) hql)) hu1 rfl rfl) ?_
    refine wt 5 22 63 rfl z (ov_lss rfl rfl) ?_
    refine wt 6 22 127 rfl z (ov_move rfl) ?_
    rcases Bool.eq_false_or_eq_true (decide (u1 < 1125899906842624)) with hg6 | hg6
    ·refine wa_set 60 rfl (congrArg Value.bool hg6) ?_
     replace hg6 := of_decide_eq_true hg6
     refine wto 7 22 255 rfl rfl rfl z (ov_move rfl) ?_
     refine wto 8 22 511 rfl rfl rfl z (ov_field fo79_0 rfl rfl) ?_
     refine wto 9 22 1023 rfl rfl rfl z (ov_load sc3 rfl (fun _ hm => hm.1) rfl) ?_
     refine wto 10 22 2047 rfl rfl rfl z (ov_index (j := f) es22 rfl rfl (by omega)) ?_
     refine wto 11 22 4095 rfl rfl rfl z (ov_elem1 (k := 0) (v := .int .i64 u1) sc3 rfl (fun _ hm => (SlT.ofOwn na_len (hm.2.2.2.2.1) hql)) hu1 rfl rfl) ?_
     refine wto 12 22 8191 rfl rfl rfl z (ov_field fo79_2 rfl rfl) ?_
     refine wto 13 22 16383 rfl rfl rfl z (ov_load sc3 rfl (fun _ hm => hm.1) rfl) ?_
     refine wto 14 22 32767 rfl rfl rfl z (ov_add rfl rfl (by omega) (by omega)) ?_
     refine wto 15 22 65535 rfl rfl rfl z (ov_move rfl) ?_
     refine wto 16 22 131071 rfl rfl rfl z (ov_field fo79_1 rfl rfl) ?_
     refine wto 17 22 262143 rfl rfl rfl z (ov_load sc3 rfl (fun _ hm => hm.1) rfl) ?_
     refine wto 18 22 524287 rfl rfl rfl z (ov_index (j := t) es22 rfl rfl (by omega)) ?_
     refine wto 19 22 1048575 rfl rfl rfl z (ov_elem1 (k := 0) (v := .int .i64 v1) sc3 rfl (fun _ hm => (SlT.ofOwn na_len (hm.2.2.2.2.1) hql)) hv1 rfl rfl) ?_
     refine wto 20 22 2097151 rfl rfl rfl z (ov_lss rfl rfl) ?_
     refine wt 21 22 4194303 rfl z (ov_pick_t rfl rfl) ?_
     refine wa_done (by kernel_rfl) ?_
     refine nx_then ?_
     refine gw_cond rfl (fun hh => ?_) (fun hh => ?_)
     ·have hcd : u1 + cr < v1 := by simpa using hh
      clear hh
      refine gd (fun wz => Blk wz g5 79 [.int .i64 ((f : Nat) : Int), .int .i64 ((t : Nat) : Int), .int .i64 cr, .int .i64 fl] ∧ (BlkOld w.heap.size none gx 77 [.slice hA n hc, .slice wA n wc, .slice (some ⟨b, off, none⟩) k ac]) wz ∧ (SlOld arEnc 4 79 w.heap.size none (some ⟨b, off, none⟩) k al) wz ∧ (SlOld naEnc 1 3 w.heap.size none lA n ll) wz ∧ True) mixed (fun _ hm => ⟨hm.bl 0, hm.fa 0, hm.fa 1, hm.fa 2, trivial⟩) fun z => ?_
      refine wt 0 21 1 rfl z (ov_move rfl) ?_
      refine wt 1 21 3 rfl z (ov_field fo79_1 rfl rfl) ?_
      refine wt 2 21 7 rfl z (ov_load sc3 rfl (fun _ hm => hm.1) rfl) ?_
      refine wt 3 21 15 rfl z (ov_move rfl) ?_
      refine wt 4 21 31 rfl z (ov_field fo79_1 rfl rfl) ?_
      refine wt 5 21 63 rfl z (ov_load sc3 rfl (fun _ hm => hm.1) rfl) ?_
      refine wt 6 21 127 rfl z (ov_move rfl) ?_
      refine wt 7 21 255 rfl z (ov_field fo79_0 rfl rfl) ?_
      refine wt 8 21 511 rfl z (ov_load sc3 rfl (fun _ hm => hm.1) rfl) ?_
      refine wt 9 21 1023 rfl z (ov_index (j := f) es22 rfl rfl (by omega)) ?_
      refine wt 11 21 3071 rfl z (ov_field fo79_2 rfl rfl) ?_
      refine wt 12 21 7167 rfl z (ov_load sc3 rfl (fun _ hm => hm.1) rfl) ?_
      refine wt 14 21 23551 rfl z (ov_move rfl) ?_
      refine wt 15 21 56319 rfl z (ov_build (cs := [.int .i64 ((i : Nat) : Int), .bool false]) rfl (by kernel_rfl)) ?_
      refine wa1 10 rfl ?_
      refine wl_ov (ov_elem1 (k := 0) (v := .int .i64 u1) sc3 rfl (fun _ hm => (SlT.ofOwn na_len (hm.ownI 0 rfl) hql)) hu1 rfl rfl) rfl ?_
      refine wl_nil ?_
      refine nw 21 57343 (fun _ hm => ⟨hm.bl 0, hm.fa 0, hm.fa 1, hm.fa 2, trivial⟩) fun z => ?_
      refine wt 13 21 65535 rfl z (ov_add rfl rfl (by omega) (by omega)) ?_
      refine wt 16 21 131071 rfl z (ov_index (j := t) es22 rfl rfl (by omega)) ?_
      refine wa1 17 rfl ?_
      have hlt1 : u1 + cr < v1 := by first | assumption | omega | simp_all
      have hlt2 : u1 < farI := by rw [hfar]; first | assumption | omega | simp_all
      obtain ⟨hn1, hn2⟩ := hw2.less hp hM hMn (⟨(⟨f, t, cr, fl⟩ : Arc), hx, .inl ⟨rfl, rfl, rfl, rfl⟩⟩ : EdgeK al i false f t cr) (by rw [du1]; exact hlt2) (by rw [du1, dv1]; exact hlt1) htn
      rw [du1] at hn1 hn2
      refine wl_storeE (l := ql) (j := t) (r := 0) (el := v1) (el' := (u1 + cr)) 0 sc3 rfl rfl rfl rfl na_len rfl hv1 hql (show 0 < 1 by decide) rfl rfl ?_
      refine wl_nil ?_
      refine nw 21 262143 (fun _ hm => ⟨hm.bl 0, hm.fa 0, hm.fa 1, hm.fa 2, trivial⟩) fun z => ?_
      refine wt 18 21 524287 rfl z (ov_index (j := t) es107 rfl rfl (by omega)) ?_
      refine wa1 19 rfl ?_
      obtain ⟨ob, hob⟩ : ∃ x, cl[t]? = some x := ⟨_, List.getElem?_eq_getElem (by omega)⟩
      have hsb : splice (byEnc ob) 0 [.int .i64 ((i : Nat) : Int), .bool false] = byEnc (some (i, false)) := by rcases ob with _ | ⟨v0, v1⟩ <;> rfl
      refine wl_storesE (l := cl) (j := t) (r := 0) (el := ob) (el' := some (i, false)) 1 rz111 rfl rfl rfl rfl rfl by_len rfl hob hcl2 (by decide) hsb rfl ?_
      refine wl_nil ?_
      refine nw 21 1048575 (fun _ hm => ⟨hm.bl 0, hm.fa 0, hm.fa 1, hm.fa 2, trivial⟩) fun z => ?_
      refine wt 20 21 2097151 rfl z (ov_assign rfl) ?_
      refine wa_done (by kernel_rfl) ?_
      exact nx_meet (true, ql.set t (u1 + cr), cl.set t (some (i, false))) ⟨⟨by rw [List.length_set]; exact hql, by rw [List.length_set]; exact hcl2⟩, hn1, by dsimp only; omega, (fun _ => by dsimp only; omega), (fun h => by cases h)⟩ ⟨rfl, rfl, rfl, rfl, rfl, rfl, rfl, rfl, rfl, trivial⟩ (fun _ hm => hm.pick [0] [0, 1] [0, 1, 2] rfl rfl)
     have hcd : ¬ (u1 + cr < v1) := by simpa using hh
     clear hh
     refine gw_skip ?_
     have hno : dAt ql f < farI → dAt ql t ≤ dAt ql f + cr := fun h9 => by
      rw [du1] at h9 ⊢
      rw [dv1]
      rw [hfar] at h9
      first | omega | (simp_all; omega) | simp_all
     exact nx_meet (ch, ql, cl) ⟨⟨hql, hcl2⟩, hw2, hle, hlt, fun h9 => ⟨hcn h9, hno⟩⟩ ⟨rfl, rfl, rfl, rfl, rfl, rfl, rfl, rfl, rfl, trivial⟩ (fun _ hm => hm.pick [0] [0, 1] [0, 1, 2] rfl rfl)
    refine wa_set 60 rfl (congrArg Value.bool hg6) ?_
    replace hg6 := of_decide_eq_false hg6
    refine wtf 7 22 255 rfl rfl rfl z ?_
    refine wtf 8 22 511 rfl rfl rfl z ?_
    refine wtf 9 22 1023 rfl rfl rfl z ?_
    refine wtf 10 22 2047 rfl rfl rfl z ?_
    refine wtf 11 22 4095 rfl rfl rfl z ?_
    refine wtf 12 22 8191 rfl rfl rfl z ?_
    refine wtf 13 22 16383 rfl rfl rfl z ?_
    refine wtf 14 22 32767 rfl rfl rfl z ?_
    refine wtf 15 22 65535 rfl rfl rfl z ?_
    refine wtf 16 22 131071 rfl rfl rfl z ?_
    refine wtf 17 22 262143 rfl rfl rfl z ?_
    refine wtf 18 22 524287 rfl rfl rfl z ?_
    refine wtf 19 22 1048575 rfl rfl rfl z ?_
    refine wtf 20 22 2097151 rfl rfl rfl z ?_
    refine wt 21 22 4194303 rfl z (ov_pick_f rfl rfl) ?_
    refine wa_done (by kernel_rfl) ?_
    refine nx_then (cf_ rfl (gw_skip ?_))
    have hno : dAt ql f < farI → dAt ql t ≤ dAt ql f + cr := fun h9 => by
     rw [du1] at h9 ⊢
     rw [dv1]
     rw [hfar] at h9
     first | omega | (simp_all; omega) | simp_all
    exact nx_meet (ch, ql, cl) ⟨⟨hql, hcl2⟩, hw2, hle, hlt, fun h9 => ⟨hcn h9, hno⟩⟩ ⟨rfl, rfl, rfl, rfl, rfl, rfl, rfl, rfl, rfl, trivial⟩ (fun _ hm => hm.pick [0] [0, 1] [0, 1, 2] rfl rfl)
   rintro ⟨c1, rl, sl⟩ hinv
   replace hinv : (rl.length = n ∧ sl.length = n) ∧ Ways al (atL ll) n p rl sl ∧ dSum n (1000000 * n) rl ≤ dSum n (1000000 * n) dl ∧ (c1 = true → dSum n (1000000 * n) rl < dSum n (1000000 * n) dl) ∧ (c1 = false → (dSum n (1000000 * n) rl = dSum n (1000000 * n) dl ∧ ClosedN al rl i) ∧ (dAt rl f < farI → dAt rl t ≤ dAt rl f + cr)) := hinv
   dsimp only
   refine gw_seq ?_
   obtain ⟨⟨hql3, hcl3⟩, hw3, hle3, hlt3, hcn3⟩ := hinv
   clear hw2 hle hlt hcn
   obtain ⟨u2, hu2⟩ : ∃ x, rl[f]? = some x := ⟨_, List.getElem?_eq_getElem (by omega)⟩
   obtain ⟨v2, hv2⟩ : ∃ x, rl[t]? = some x := ⟨_, List.getElem?_eq_getElem (by omega)⟩
   have du2 := dAt_get hu2
   have dv2 := dAt_get hv2
   have eu2 := hw3.lowAll hM hMn f
   have ev2 := hw3.lowAll hM hMn t
   rw [du2] at eu2
   rw [dv2] at ev2
   have gu2 := hw3.top f
   have gv2 := hw3.top t
   rw [du2] at gu2
   rw [dv2] at gv2
   refine gd (fun wz => Blk wz g5 79 [.int .i64 ((f : Nat) : Int), .int .i64 ((t : Nat) : Int), .int .i64 cr, .int .i64 fl] ∧ (BlkOld w.heap.size none gx 77 [.slice hA n hc, .slice wA n wc, .slice (some ⟨b, off, none⟩) k ac]) wz ∧ (SlOld arEnc 4 79 w.heap.size none (some ⟨b, off, none⟩) k al) wz ∧ (SlOld naEnc 1 3 w.heap.size none lA n ll) wz ∧ wz.ownsRow w.heap.size 3 1 (.slice (some ⟨zd, 0, none⟩) n n) n (rl.flatMap naEnc) ∧ wz.ownsRow w.heap.size 111 2 (.slice (some ⟨gb, 0, none⟩) n n) n (sl.flatMap byEnc) ∧ True) mixed (fun _ hm => ⟨hm.bl 0, hm.fa 0, hm.fa 1, hm.fa 2, hm.ownI 0 rfl, hm.ownI 1 rfl, trivial⟩) fun z => ?_
   refine wt 0 27 1 rfl z (ov_field fo79_3 rfl rfl) ?_
   refine wt 1 27 3 rfl z (ov_load sc3 rfl (fun _ hm => hm.1) rfl) ?_
   refine wt 2 27 7 rfl z (ov_gtr rfl rfl) ?_
   refine wt 3 27 15 rfl z (ov_move rfl) ?_
   rcases Bool.eq_false_or_eq_true (decide (0 < fl)) with hg7 | hg7
   ·refine wa_set 97 rfl (congrArg Value.bool hg7) ?_
    replace hg7 := of_decide_eq_true hg7
    refine wto 4 27 31 rfl rfl rfl z (ov_move rfl) ?_
    refine wto 5 27 63 rfl rfl rfl z (ov_field fo79_1 rfl rfl) ?_
    refine wto 6 27 127 rfl rfl rfl z (ov_load sc3 rfl (fun _ hm => hm.1) rfl) ?_
    refine wto 7 27 255 rfl rfl rfl z (ov_index (j := t) es22 rfl rfl (by omega)) ?_
    refine wto 8 27 511 rfl rfl rfl z (ov_elem1 (k := 0) (v := .int .i64 v2) sc3 rfl (fun _ hm => (SlT.ofOwn na_len (hm.2.2.2.2.1) hql3)) hv2 rfl rfl) ?_
    refine wto 9 27 1023 rfl rfl rfl z (ov_lss rfl rfl) ?_
    refine wt 10 27 2047 rfl z (ov_pick_t rfl rfl) ?_
    refine wt 11 27 4095 rfl z (ov_move rfl) ?_
    rcases Bool.eq_false_or_eq_true (decide (v2 < 1125899906842624)) with hg8 | hg8
    ·refine wa_set 105 rfl (congrArg Value.bool hg8) ?_
     replace hg8 := of_decide_eq_true hg8
     refine wto 12 27 8191 rfl rfl rfl z (ov_move rfl) ?_
     refine wto 13 27 16383 rfl rfl rfl z (ov_field fo79_1 rfl rfl) ?_
     refine wto 14 27 32767 rfl rfl rfl z (ov_load sc3 rfl (fun _ hm => hm.1) rfl) ?_
     refine wto 15 27 65535 rfl rfl rfl z (ov_index (j := t) es22 rfl rfl (by omega)) ?_
     refine wto 16 27 131071 rfl rfl rfl z (ov_elem1 (k := 0) (v := .int .i64 v2) sc3 rfl (fun _ hm => (SlT.ofOwn na_len (hm.2.2.2.2.1) hql3)) hv2 rfl rfl) ?_
     refine wto 17 27 262143 rfl rfl rfl z (ov_field fo79_2 rfl rfl) ?_
     refine wto 18 27 524287 rfl rfl rfl z (ov_load sc3 rfl (fun _ hm => hm.1) rfl) ?_
     refine wto 19 27 1048575 rfl rfl rfl z (ov_sub rfl rfl (by omega) (by omega)) ?_
     refine wto 20 27 2097151 rfl rfl rfl z (ov_move rfl) ?_
     refine wto 21 27 4194303 rfl rfl rfl z (ov_field fo79_0 rfl rfl) ?_
     refine wto 22 27 8388607 rfl rfl rfl z (ov_load sc3 rfl (fun _ hm => hm.1) rfl) ?_
     refine wto 23 27 16777215 rfl rfl rfl z (ov_index (j := f) es22 rfl rfl (by omega)) ?_
     refine wto 24 27 33554431 rfl rfl rfl z (ov_elem1 (k := 0) (v := .int .i64 u2) sc3 rfl (fun _ hm => (SlT.ofOwn na_len (hm.2.2.2.2.1) hql3)) hu2 rfl rfl) ?_
     refine wto 25 27 67108863 rfl rfl rfl z (ov_lss rfl rfl) ?_
     refine wt 26 27 134217727 rfl z (ov_pick_t rfl rfl) ?_
     refine wa_done (by kernel_rfl) ?_
     refine nx_then ?_
     refine gw_cond rfl (fun hh => ?_) (fun hh => ?_)
     ·have hcd : v2 - cr < u2 := by simpa using hh
      clear hh
      refine gd (fun wz => Blk wz g5 79 [.int .i64 ((f : Nat) : Int), .int .i64 ((t : Nat) : Int), .int .i64 cr, .int .i64 fl] ∧ (BlkOld w.heap.size none gx 77 [.slice hA n hc, .slice wA n wc, .slice (some ⟨b, off, none⟩) k ac]) wz ∧ (SlOld arEnc 4 79 w.heap.size none (some ⟨b, off, none⟩) k al) wz ∧ (SlOld naEnc 1 3 w.heap.size none lA n ll) wz ∧ True) mixed (fun _ hm => ⟨hm.bl 0, hm.fa 0, hm.fa 1, hm.fa 2, trivial⟩) fun z => ?_
      refine wt 0 21 1 rfl z (ov_move rfl) ?_
      refine wt 1 21 3 rfl z (ov_field fo79_0 rfl rfl) ?_
      refine wt 2 21 7 rfl z (ov_load sc3 rfl (fun _ hm => hm.1) rfl) ?_
      refine wt 3 21 15 rfl z (ov_move rfl) ?_
      refine wt 4 21 31 rfl z (ov_field fo79_0 rfl rfl) ?_
      refine wt 5 21 63 rfl z (ov_load sc3 rfl (fun _ hm => hm.1) rfl) ?_
      refine wt 6 21 127 rfl z (ov_move rfl) ?_
      refine wt 7 21 255 rfl z (ov_field fo79_1 rfl rfl) ?_
      refine wt 8 21 511 rfl z (ov_load sc3 rfl (fun _ hm => hm.1) rfl) ?_
      refine wt 9 21 1023 rfl z (ov_index (j := t) es22 rfl rfl (by omega)) ?_
      refine wt 11 21 3071 rfl z (ov_field fo79_2 rfl rfl) ?_
      refine wt 12 21 7167 rfl z (ov_load sc3 rfl (fun _ hm => hm.1) rfl) ?_
      refine wt 14 21 23551 rfl z (ov_move rfl) ?_
      refine wt 15 21 56319 rfl z (ov_build (cs := [.int .i64 ((i : Nat) : Int), .bool true]) rfl (by kernel_rfl)) ?_
      refine wa1 10 rfl ?_
      refine wl_ov (ov_elem1 (k := 0) (v := .int .i64 v2) sc3 rfl (fun _ hm => (SlT.ofOwn na_len (hm.ownI 0 rfl) hql3)) hv2 rfl rfl) rfl ?_
      refine wl_nil ?_
      refine nw 21 57343 (fun _ hm => ⟨hm.bl 0, hm.fa 0, hm.fa 1, hm.fa 2, trivial⟩) fun z => ?_
      refine wt 13 21 65535 rfl z (ov_sub rfl rfl (by omega) (by omega)) ?_
      refine wt 16 21 131071 rfl z (ov_index (j := f) es22 rfl rfl (by omega)) ?_
      refine wa1 17 rfl ?_
      have hfp : 0 < fl := by first | assumption | omega | simp_all
      have hlt1 : v2 - cr < u2 := by first | assumption | omega | simp_all
      have hlt2 : v2 < farI := by rw [hfar]; first | assumption | omega | simp_all
      obtain ⟨hn1, hn2⟩ := hw3.less hp hM hMn (⟨(⟨f, t, cr, fl⟩ : Arc), hx, .inr ⟨rfl, hfp, rfl, rfl, rfl⟩⟩ : EdgeK al i true t f (-cr)) (by rw [dv2]; exact hlt2) (by rw [du2, dv2]; omega) hfn
      rw [dv2, ← Int.sub_eq_add_neg] at hn1 hn2
      refine wl_storeE (l := rl) (j := f) (r := 0) (el := u2) (el' := (v2 - cr)) 0 sc3 rfl rfl rfl rfl na_len rfl hu2 hql3 (show 0 < 1 by decide) rfl rfl ?_
      refine wl_nil ?_
      refine nw 21 262143 (fun _ hm => ⟨hm.bl 0, hm.fa 0, hm.fa 1, hm.fa 2, trivial⟩) fun z => ?_
      refine wt 18 21 524287 rfl z (ov_index (j := f) es107 rfl rfl (by omega)) ?_
      refine wa1 19 rfl ?_
      obtain ⟨ob, hob⟩ : ∃ x, sl[f]? = some x := ⟨_, List.getElem?_eq_getElem (by omega)⟩
      have hsb : splice (byEnc ob) 0 [.int .i64 ((i : Nat) : Int), .bool true] = byEnc (some (i, true)) := by rcases ob with _ | ⟨v0, v1⟩ <;> rfl
      refine wl_storesE (l := sl) (j := f) (r := 0) (el := ob) (el' := some (i, true)) 1 rz111 rfl rfl rfl rfl rfl by_len rfl hob hcl3 (by decide) hsb rfl ?_
      refine wl_nil ?_
      refine nw 21 1048575 (fun _ hm => ⟨hm.bl 0, hm.fa 0, hm.fa 1, hm.fa 2, trivial⟩) fun z => ?_
      refine wt 20 21 2097151 rfl z (ov_assign rfl) ?_
      refine wa_done (by kernel_rfl) ?_
      refine nx_blk_nrm (nx_then (gw_region (ad_ rfl rfl (mv_ rfl (wl_nil ?_)))))
      exact nx_round (i + 1, true, rl.set f (v2 - cr), sl.set f (some (i, true))) ⟨⟨by dsimp only; omega, by rw [List.length_set]; exact hql3, by rw [List.length_set]; exact hcl3⟩, hn1, by dsimp only; omega, (fun _ => by dsimp only; omega), (fun h => by cases h)⟩ (by dsimp only; omega) ⟨rfl, rfl, rfl, rfl, rfl, rfl, (some_int (by omega)), trivial⟩ (fun _ hm => hm.pick [] [0, 1] [0, 1, 2] rfl rfl)
     have hcd : ¬ (v2 - cr < u2) := by simpa using hh
     clear hh
     refine gw_skip (nx_blk_nrm (nx_then (gw_region ?_)))
     have hno : 0 < fl → dAt rl t < farI → dAt rl f ≤ dAt rl t - cr := fun h8 h9 => by
      rw [dv2] at h9 ⊢
      rw [du2]
      rw [hfar] at h9
      first | omega | (simp_all; omega) | simp_all
     refine ad_ rfl rfl (mv_ rfl (wl_nil ?_))
     exact nx_round (i + 1, c1, rl, sl) ⟨⟨by dsimp only; omega, hql3, hcl3⟩, hw3, hle3, hlt3, fun h9 => ⟨(hcn3 h9).1.1, (hcn3 h9).1.2.next hx (hcn3 h9).2 hno⟩⟩ (by dsimp only; omega) ⟨rfl, rfl, rfl, rfl, rfl, rfl, (some_int (by omega)), trivial⟩ (fun _ hm => hm.pick [] [0, 1] [0, 1, 2] rfl rfl)
    refine wa_set 105 rfl (congrArg Value.bool hg8) ?_
    replace hg8 := of_decide_eq_false hg8
    refine wtf 12 27 8191 rfl rfl rfl z ?_
    refine wtf 13 27 16383 rfl rfl rfl z ?_
    refine wtf 14 27 32767 rfl rfl rfl z ?_
    refine wtf 15 27 65535 rfl rfl rfl z ?_
    refine wtf 16 27 131071 rfl rfl rfl z ?_
    refine wtf 17 27 262143 rfl rfl rfl z ?_
    refine wtf 18 27 524287 rfl rfl rfl z ?_
    refine wtf 19 27 1048575 rfl rfl rfl z ?_
    refine wtf 20 27 2097151 rfl rfl rfl z ?_
    refine wtf 21 27 4194303 rfl rfl rfl z ?_
    refine wtf 22 27 8388607 rfl rfl rfl z ?_
    refine wtf 23 27 16777215 rfl rfl rfl z ?_
    refine wtf 24 27 33554431 rfl rfl rfl z ?_
    refine wtf 25 27 67108863 rfl rfl rfl z ?_
    refine wt 26 27 134217727 rfl z (ov_pick_f rfl rfl) ?_
    refine wa_done (by kernel_rfl) ?_
    refine nx_then (cf_ rfl (gw_skip (nx_blk_nrm (nx_then (gw_region (ad_ rfl rfl (mv_ rfl (wl_nil ?_))))))))
    have hno : 0 < fl → dAt rl t < farI → dAt rl f ≤ dAt rl t - cr := fun h8 h9 => by
     rw [dv2] at h9 ⊢
     rw [du2]
     rw [hfar] at h9
     first | omega | (simp_all; omega) | simp_all
    exact nx_round (i + 1, c1, rl, sl) ⟨⟨by dsimp only; omega, hql3, hcl3⟩, hw3, hle3, hlt3, fun h9 => ⟨(hcn3 h9).1.1, (hcn3 h9).1.2.next hx (hcn3 h9).2 hno⟩⟩ (by dsimp only; omega) ⟨rfl, rfl, rfl, rfl, rfl, rfl, (some_int (by omega)), trivial⟩ (fun _ hm => hm.pick [] [0, 1] [0, 1, 2] rfl rfl)
   refine wa_set 97 rfl (congrArg Value.bool hg7) ?_
   replace hg7 := of_decide_eq_false hg7
   refine wtf 4 27 31 rfl rfl rfl z ?_
   refine wtf 5 27 63 rfl rfl rfl z ?_
   refine wtf 6 27 127 rfl rfl rfl z ?_
   refine wtf 7 27 255 rfl rfl rfl z ?_
   refine wtf 8 27 511 rfl rfl rfl z ?_
   refine wtf 9 27 1023 rfl rfl rfl z ?_
   refine wt 10 27 2047 rfl z (ov_pick_f rfl rfl) ?_
   refine wt 11 27 4095 rfl z (ov_move rfl) ?_
   refine wtf 12 27 8191 rfl rfl rfl z ?_
   refine wtf 13 27 16383 rfl rfl rfl z ?_
   refine wtf 14 27 32767 rfl rfl rfl z ?_
   refine wtf 15 27 65535 rfl rfl rfl z ?_
   refine wtf 16 27 131071 rfl rfl rfl z ?_
   refine wtf 17 27 262143 rfl rfl rfl z ?_
   refine wtf 18 27 524287 rfl rfl rfl z ?_
   refine wtf 19 27 1048575 rfl rfl rfl z ?_
   refine wtf 20 27 2097151 rfl rfl rfl z ?_
   refine wtf 21 27 4194303 rfl rfl rfl z ?_
   refine wtf 22 27 8388607 rfl rfl rfl z ?_
   refine wtf 23 27 16777215 rfl rfl rfl z ?_
   refine wtf 24 27 33554431 rfl rfl rfl z ?_
   refine wtf 25 27 67108863 rfl rfl rfl z ?_
   refine wt 26 27 134217727 rfl z (ov_pick_f rfl rfl) ?_
   refine wa_done (by kernel_rfl) ?_
   refine nx_then (cf_ rfl (gw_skip (nx_blk_nrm (nx_then (gw_region (ad_ rfl rfl (mv_ rfl (wl_nil ?_))))))))
   have hno : 0 < fl → dAt rl t < farI → dAt rl f ≤ dAt rl t - cr := fun h8 h9 => by
    rw [dv2] at h9 ⊢
    rw [du2]
    rw [hfar] at h9
    first | omega | (simp_all; omega) | simp_all
   exact nx_round (i + 1, c1, rl, sl) ⟨⟨by dsimp only; omega, hql3, hcl3⟩, hw3, hle3, hlt3, fun h9 => ⟨(hcn3 h9).1.1, (hcn3 h9).1.2.next hx (hcn3 h9).2 hno⟩⟩ (by dsimp only; omega) ⟨rfl, rfl, rfl, rfl, rfl, rfl, (some_int (by omega)), trivial⟩ (fun _ hm => hm.pick [] [0, 1] [0, 1, 2] rfl rfl)
  have hi : ¬ (((i : Nat) : Int) < ((k : Nat) : Int)) := by simpa using hh
  clear hh
  refine gw_exit ?_
  refine nx_then_exit (nx_then_exit ?_)
  refine nx_blk_here ?_
  refine nx_blk_nrm ?_
  have hall : ch = false → Closed2 al ql := fun h9 => (hcn h9).2.all (by omega)
  exact nx_round (ch, ql, cl) ⟨⟨hql, hcl2⟩, hw2, hall⟩ (by
   dsimp only
   cases ch with
   | true => have := hlt rfl; simp; omega
   | false => have := (hcn rfl).1; simp; omega) ⟨rfl, rfl, rfl, rfl, trivial⟩ (fun _ hm => hm.pick [] [0, 1] [0, 1, 2] rfl rfl)
 have hch : ch = false := by simpa using hh
 clear hh
 refine gw_exit ?_
 refine nx_then_exit (nx_then_exit ?_)
 refine nx_blk_here ?_
 refine nx_then (sr_ (mv_ rfl (mv_ rfl (sg_ rfl (sg_ rfl (nn_ ?_))))))
 refine gw_ret ?_
 refine nx_ret2 rfl rfl rfl fun wx hm => ?_
 exact ⟨some ⟨zd, 0, none⟩, n, some ⟨gb, 0, none⟩, n, dl, bl, rfl, ⟨hw1, hcl hch, hdl2, hbl2⟩, hm.ownI 0 rfl, SlT.ofOwn by_len (hm.ownI 1 rfl) hbl2, hm.g⟩
end Go.Proofs.Ytodcildcipfmcaa
namespace Go.Proofs.Ytodcildcipfmcaa
open Go.RowKit
theorem ar_one : ∀ x, ∀ v ∈ arEnc x, v.oneCell' = true := fun x v hv => by
  unfold arEnc at hv
  simp only [List.mem_cons, List.not_mem_nil, or_false] at hv
  rcases hv with rfl | rfl | rfl | rfl <;> rfl
theorem int_info : ∃ i z, Try.prog.info? 3 = some i ∧ i.zero = some z ∧ i.size = 1 ∧ i.bytes = 8 ∧ z.cells.size = 1 := info_parts (by kernel_rfl)
set_option maxRecDepth 100000 in
set_option maxHeartbeats 1000000 in
theorem cloneInts_pos (l : List Int) (A : Option Addr) (n c : Nat) (w : World) (hl : SlT naEnc 1 3 w A n l) (hn0 : 0 < n) (hn : n ≤ 1000000) :
    Calls Try.prog 36 #[.slice A n c] w (fun e w' => ∃ A' c', e = .returned (.slice A' n c') ∧ w'.ownsRow w.heap.size 3 1 (.slice A' n c') n (l.flatMap naEnc) ∧ w.grownBy w' none) := by
  obtain ⟨b, off, rfl, hbl, hfl⟩ := hl.flat na_len hn0
  have hlen := hl.len
  obtain ⟨i0, z0, hi, hz, hsz, hby, hzs⟩ := int_info
  have hnews : ∀ (o : Obj) j u, (l.flatMap naEnc)[j]? = some u → (w.alloc o).cell? ((⟨b, off, none⟩ : Addr).add j) = some u := fun o j u hj =>
    (World.cell?_of_block (Below.heap_alloc w o _ (by unfold Addr.add; split <;> exact hbl))).trans (hfl j u hj)
  have hone := flat_one naEnc na_one l
  have hll := flat_len naEnc 1 na_len l
  rw [hlen] at hll
  clear hfl hl
  have Hnews := Lib.hid hnews
  clear hnews
  have he : ∀ w : World, (binOp .eql 22 (.slice (some ⟨b, off, none⟩) n c) (.slice none 0 0)).run Try.prog w = .ok (.bool false) w := fun _ => rfl
  go_enter Try.func36, Try.ntmps36
  go_wp2_with (at_builtin; refine wpList_append_own_at _ rfl _ _ 22 rfl w.heap.size 3 i0 z0 1 8 Try.underlying22 hi hz hsz hby hzs (by decide) (.slice (some ⟨w.heap.size, 0, none⟩) 0 0) 0 [] rfl ⟨rfl, .inr ⟨w.heap.size, 0, #[], rfl, Nat.le_refl _, heap_alloc_new w _, Nat.le_refl _, by decide, rfl, rfl⟩⟩ ⟨b, off, none⟩ n c (l.flatMap naEnc) rfl hll (Hnews.out _) hone (by unfold maxLen; omega) (by omega) (by simp) ?_; intro v' w' hown hgrow hnil hat)
  rw [Nat.zero_add, List.nil_append] at hown
  have hown2 := hown
  obtain ⟨_, ho⟩ := hown2
  rcases ho with ⟨_, h0⟩ | ⟨g, cap, cur, rfl, hg, _⟩
  · omega
  · go_ret
    exact ⟨some ⟨g, 0, none⟩, cap, rfl, hown, grow_own (grow_alloc (World.grownBy.refl _ _) _) hgrow (fun k h => by cases h; exact Nat.le_refl _)⟩
set_option maxRecDepth 100000 in
set_option maxHeartbeats 1000000 in
theorem cloneInts_empty (a : Addr) (c : Nat) (w : World) :
    Calls Try.prog 36 #[.slice (some a) 0 c] w (fun e w' => ∃ A' c', e = .returned (.slice A' 0 c') ∧ w'.ownsRow w.heap.size 3 1 (.slice A' 0 c') 0 [] ∧ w.grownBy w' none) := by
  obtain ⟨i0, z0, hi, hz, hsz, hby, hzs⟩ := int_info
  have he : ∀ w : World, (binOp .eql 22 (.slice (some a) 0 c) (.slice none 0 0)).run Try.prog w = .ok (.bool false) w := fun _ => rfl
  go_enter Try.func36, Try.ntmps36
  go_wp2_with (at_builtin; refine wpList_append_own_at _ rfl _ _ 22 rfl w.heap.size 3 i0 z0 1 8 Try.underlying22 hi hz hsz hby hzs (by decide) (.slice (some ⟨w.heap.size, 0, none⟩) 0 0) 0 [] rfl ⟨rfl, .inr ⟨w.heap.size, 0, #[], rfl, Nat.le_refl _, heap_alloc_new w _, Nat.le_refl _, by decide, rfl, rfl⟩⟩ a 0 c [] rfl rfl (fun j u hj => by simp at hj) (fun v hv => by cases hv) (by unfold maxLen; omega) (by omega) (by simp) ?_; intro v' w' hown hgrow hnil hat)
  rw [Nat.zero_add, List.nil_append] at hown
  have hown2 := hown
  obtain ⟨_, ho⟩ := hown2
  rcases ho with ⟨rfl, _⟩ | ⟨g, cap, cur, rfl, hg, _⟩
  · go_ret
    exact ⟨none, 0, rfl, hown, grow_own (grow_alloc (World.grownBy.refl _ _) _) hgrow (fun k h => by cases h; exact Nat.le_refl _)⟩
  · go_ret
    exact ⟨some ⟨g, 0, none⟩, cap, rfl, hown, grow_own (grow_alloc (World.grownBy.refl _ _) _) hgrow (fun k h => by cases h; exact Nat.le_refl _)⟩
set_option maxRecDepth 100000 in
set_option maxHeartbeats 400000 in
theorem cloneInts_nil (c : Nat) (w : World) : Calls Try.prog 36 #[.slice none 0 c] w (fun e w' => e = .returned (.slice none 0 0) ∧ w = w') := by
  have he : ∀ w : World, (binOp .eql 22 (.slice none 0 c) (.slice none 0 0)).run Try.prog w = .ok (.bool true) w := fun _ => rfl
  go_enter Try.func36, Try.ntmps36
  go_wp2_with fail
  go_ret
  exact ⟨rfl, rfl⟩
theorem cloneInts_any (l : List Int) (A : Option Addr) (n c : Nat) (w : World) (hl : SlT naEnc 1 3 w A n l) (hn : n ≤ 1000000) :
    Calls Try.prog 36 #[.slice A n c] w (fun e w' => ∃ A' c', e = .returned (.slice A' n c') ∧ w'.ownsRow w.heap.size 3 1 (.slice A' n c') n (l.flatMap naEnc) ∧ w.grownBy w' none) := by
  by_cases h0 : n = 0
  · subst h0
    have hl0 : l = [] := List.length_eq_zero_iff.1 hl.len
    subst hl0
    cases A with
    | none => exact (cloneInts_nil c w).mono fun e w' ⟨he, hw⟩ => ⟨none, 0, he, ⟨rfl, .inl ⟨rfl, rfl⟩⟩, hw ▸ World.grownBy.refl _ _⟩
    | some a => exact cloneInts_empty a c w
  · exact cloneInts_pos l A n c w hl (by omega) hn
theorem arc_info : ∃ i z, Try.prog.info? 79 = some i ∧ i.zero = some z ∧ i.size = 4 ∧ i.bytes = 32 ∧ z.cells.size = 4 := info_parts (by kernel_rfl)
set_option maxRecDepth 100000 in
set_option maxHeartbeats 1000000 in
theorem cloneArcs_pos (l : List Arc) (A : Option Addr) (n c : Nat) (w : World) (hl : SlT arEnc 4 79 w A n l) (hn0 : 0 < n) (hn : n ≤ 1000000) :
    Calls Try.prog 38 #[.slice A n c] w (fun e w' => ∃ A' c', e = .returned (.slice A' n c') ∧ w'.ownsRow w.heap.size 79 4 (.slice A' n c') n (l.flatMap arEnc) ∧ w.grownBy w' none) := by
  obtain ⟨b, off, rfl, hbl, hfl⟩ := hl.flat ar_len hn0
  have hlen := hl.len
  obtain ⟨i0, z0, hi, hz, hsz, hby, hzs⟩ := arc_info
  have hnews : ∀ (o : Obj) j u, (l.flatMap arEnc)[j]? = some u → (w.alloc o).cell? ((⟨b, off, none⟩ : Addr).add j) = some u := fun o j u hj =>
    (World.cell?_of_block (Below.heap_alloc w o _ (by unfold Addr.add; split <;> exact hbl))).trans (hfl j u hj)
  have hone := flat_one arEnc ar_one l
  have hll := flat_len arEnc 4 ar_len l
  rw [hlen] at hll
  clear hfl hl
  have Hnews := Lib.hid hnews
  clear hnews
  have he : ∀ w : World, (binOp .eql 75 (.slice (some ⟨b, off, none⟩) n c) (.slice none 0 0)).run Try.prog w = .ok (.bool false) w := fun _ => rfl
  go_enter Try.func38, Try.ntmps38
  go_wp2_with (at_builtin; refine wpList_append_own_at _ rfl _ _ 75 rfl w.heap.size 79 i0 z0 4 32 Try.underlying75 hi hz hsz hby hzs (by decide) (.slice (some ⟨w.heap.size, 0, none⟩) 0 0) 0 [] rfl ⟨rfl, .inr ⟨w.heap.size, 0, #[], rfl, Nat.le_refl _, heap_alloc_new w _, Nat.le_refl _, by decide, rfl, rfl⟩⟩ ⟨b, off, none⟩ n c (l.flatMap arEnc) rfl hll (Hnews.out _) hone (by unfold maxLen; omega) (by omega) (by simp) ?_; intro v' w' hown hgrow hnil hat)
  rw [Nat.zero_add, List.nil_append] at hown
  have hown2 := hown
  obtain ⟨_, ho⟩ := hown2
  rcases ho with ⟨_, h0⟩ | ⟨g, cap, cur, rfl, hg, _⟩
  · omega
  · go_ret
    exact ⟨some ⟨g, 0, none⟩, cap, rfl, hown, grow_own (grow_alloc (World.grownBy.refl _ _) _) hgrow (fun k h => by cases h; exact Nat.le_refl _)⟩
set_option maxRecDepth 100000 in
set_option maxHeartbeats 1000000 in
theorem cloneArcs_empty (a : Addr) (c : Nat) (w : World) :
    Calls Try.prog 38 #[.slice (some a) 0 c] w (fun e w' => ∃ A' c', e = .returned (.slice A' 0 c') ∧ w'.ownsRow w.heap.size 79 4 (.slice A' 0 c') 0 [] ∧ w.grownBy w' none) := by
  obtain ⟨i0, z0, hi, hz, hsz, hby, hzs⟩ := arc_info
  have he : ∀ w : World, (binOp .eql 75 (.slice (some a) 0 c) (.slice none 0 0)).run Try.prog w = .ok (.bool false) w := fun _ => rfl
  go_enter Try.func38, Try.ntmps38
  go_wp2_with (at_builtin; refine wpList_append_own_at _ rfl _ _ 75 rfl w.heap.size 79 i0 z0 4 32 Try.underlying75 hi hz hsz hby hzs (by decide) (.slice (some ⟨w.heap.size, 0, none⟩) 0 0) 0 [] rfl ⟨rfl, .inr ⟨w.heap.size, 0, #[], rfl, Nat.le_refl _, heap_alloc_new w _, Nat.le_refl _, by decide, rfl, rfl⟩⟩ a 0 c [] rfl rfl (fun j u hj => by simp at hj) (fun v hv => by cases hv) (by unfold maxLen; omega) (by omega) (by simp) ?_; intro v' w' hown hgrow hnil hat)
  rw [Nat.zero_add, List.nil_append] at hown
  have hown2 := hown
  obtain ⟨_, ho⟩ := hown2
  rcases ho with ⟨rfl, _⟩ | ⟨g, cap, cur, rfl, hg, _⟩
  · go_ret
    exact ⟨none, 0, rfl, hown, grow_own (grow_alloc (World.grownBy.refl _ _) _) hgrow (fun k h => by cases h; exact Nat.le_refl _)⟩
  · go_ret
    exact ⟨some ⟨g, 0, none⟩, cap, rfl, hown, grow_own (grow_alloc (World.grownBy.refl _ _) _) hgrow (fun k h => by cases h; exact Nat.le_refl _)⟩
set_option maxRecDepth 100000 in
set_option maxHeartbeats 400000 in
theorem cloneArcs_nil (c : Nat) (w : World) : Calls Try.prog 38 #[.slice none 0 c] w (fun e w' => e = .returned (.slice none 0 0) ∧ w = w') := by
  have he : ∀ w : World, (binOp .eql 75 (.slice none 0 c) (.slice none 0 0)).run Try.prog w = .ok (.bool true) w := fun _ => rfl
  go_enter Try.func38, Try.ntmps38
  go_wp2_with fail
  go_ret
  exact ⟨rfl, rfl⟩
theorem cloneArcs_any (l : List Arc) (A : Option Addr) (n c : Nat) (w : World) (hl : SlT arEnc 4 79 w A n l) (hn : n ≤ 1000000) :
    Calls Try.prog 38 #[.slice A n c] w (fun e w' => ∃ A' c', e = .returned (.slice A' n c') ∧ w'.ownsRow w.heap.size 79 4 (.slice A' n c') n (l.flatMap arEnc) ∧ w.grownBy w' none) := by
  by_cases h0 : n = 0
  · subst h0
    have hl0 : l = [] := List.length_eq_zero_iff.1 hl.len
    subst hl0
    cases A with
    | none => exact (cloneArcs_nil c w).mono fun e w' ⟨he, hw⟩ => ⟨none, 0, he, ⟨rfl, .inl ⟨rfl, rfl⟩⟩, hw ▸ World.grownBy.refl _ _⟩
    | some a => exact cloneArcs_empty a c w
  · exact cloneArcs_pos l A n c w hl (by omega) hn
end Go.Proofs.Ytodcildcipfmcaa
namespace Go.Proofs.Ytodcildcipfmcaa
open Go.RowKit
theorem solve_row (al0 : List Arc) (hL wL : List Int) (P : Nat → Bool) (gx base ga : Nat) (hA wA : Option Addr) (n hc wc k ac : Nat) (w : World) (hx : Blk w gx 77 [.slice hA n hc, .slice wA n wc, .slice (some ⟨ga, 0, none⟩) k ac]) (hh : SlT naEnc 1 3 w hA n hL) (hv : SlT naEnc 1 3 w wA n wL) (h : RowK base 79 4 k ac ga (al0.flatMap arEnc) w) (hk1 : al0.length = k) (hk : k ≤ 1000)
  (harc : ∀ a ∈ al0, (a.fr < n ∧ a.to_ < n) ∧ (P a.fr = true ∧ P a.to_ = false) ∧ 0 ≤ a.car ∧ a.car ≤ 1000000) (hsr : ∀ i, P i = true → atL wL i = 0) (hsk : ∀ i, P i = false → atL hL i = 0) (hhB : ∀ i, 0 ≤ atL hL i ∧ atL hL i ≤ 1000) (hwB : ∀ i, 0 ≤ atL wL i ∧ atL wL i ≤ 1000) (hn0 : 0 < n) (hn : n ≤ 10) :
  Calls Try.prog 16 #[.pointer (some ⟨gx, 0, none⟩)] w (fun e w' => ∃ (r : Int) (ok : Bool) (al : List Arc), e = .returned (.tuple #[.int .i64 r, .bool ok]) ∧ Solves n (atL hL) (atL wL) al0 r ok ∧ SameA al0 al ∧ RowK base 79 4 k ac ga (al.flatMap arEnc) w' ∧ w.grownBy w' (some ga)) := by
 refine gw_enter ⟨202, w, (some ga), [111]⟩ Try.func16 rfl Try.ntmps16 rfl (memR (X := [BlkOld w.heap.size (some ga) gx 77 [.slice hA n hc, .slice wA n wc, .slice (some ⟨ga, 0, none⟩) k ac], SlOld naEnc 1 3 w.heap.size (some ga) hA n hL, SlOld naEnc 1 3 w.heap.size (some ga) wA n wL]) h (allF_cons (hx.oldOwn h (by decide)) (allF_cons (hh.oldOwn h (by decide)) (allF_cons (hv.oldOwn h (by decide)) allF_nil))) (allL_cons BlkOld.lasts (allL_cons SlOld.lasts (allL_cons SlOld.lasts allL_nil)))) ?_
 refine sr_ ?_
 have hhl := hh.len
 have hvl := hv.len
 have hfar : farI = 1125899906842624 := rfl
 have hal := hk1
 refine sg_ rfl (sg_ rfl (nn_ (gw_seq ?_)))
 refine gd (fun wz => (BlkOld w.heap.size (some ga) gx 77 [.slice hA n hc, .slice wA n wc, .slice (some ⟨ga, 0, none⟩) k ac]) wz ∧ (SlOld naEnc 1 3 w.heap.size (some ga) hA n hL) wz ∧ (SlOld naEnc 1 3 w.heap.size (some ga) wA n wL) wz ∧ True) mixed (fun _ hm => ⟨hm.fa 0, hm.fa 1, hm.fa 2, trivial⟩) fun z => ?_
 refine wt 0 12 1 rfl z (ov_move rfl) ?_
 refine wt 1 12 3 rfl z (ov_nilcheck rfl) ?_
 refine wt 2 12 7 rfl z (ov_field fo77_0 rfl rfl) ?_
 refine wt 3 12 15 rfl z (ov_load (v := .slice hA n hc) sc22 rfl (fun _ hm => (hm.1).2) rfl) ?_
 refine wt 5 12 47 rfl z (ov_move rfl) ?_
 refine wt 6 12 111 rfl z (ov_nilcheck rfl) ?_
 refine wt 7 12 239 rfl z (ov_field fo77_1 rfl rfl) ?_
 refine wt 8 12 495 rfl z (ov_load (v := .slice wA n wc) sc22 rfl (fun _ hm => (hm.1).2) rfl) ?_
 refine wa1 4 rfl ?_
 refine wl_callgo (γ := Option Addr × Nat) (val := (fun g => .slice g.1 n g.2)) (φ := (fun g => True)) (fun g => ⟨.slice g.1 n g.2, 3, 1, n, hL.flatMap naEnc⟩) rfl cb36 rfl rfl (fun wx hm => (cloneInts_any hL hA n hc wx (hm.fact 1 rfl).1 (by omega)).mono fun _ _ ⟨A, c, he, ho, hg⟩ => ⟨(A, c), he, trivial, ho, hg⟩) ?_
 rintro ⟨lA, lc⟩ hphi
 dsimp only at hphi ⊢
 refine wl_nil ?_
 refine nw 12 511 (fun _ hm => ⟨hm.fa 0, hm.fa 1, hm.fa 2, trivial⟩) fun z => ?_
 refine wa1 9 rfl ?_
 refine wl_callgo (γ := Option Addr × Nat) (val := (fun g => .slice g.1 n g.2)) (φ := (fun g => True)) (fun g => ⟨.slice g.1 n g.2, 3, 1, n, wL.flatMap naEnc⟩) rfl cb36 rfl rfl (fun wx hm => (cloneInts_any wL wA n wc wx (hm.fact 2 rfl).1 (by omega)).mono fun _ _ ⟨A, c, he, ho, hg⟩ => ⟨(A, c), he, trivial, ho, hg⟩) ?_
 rintro ⟨kA, kc⟩ hphi
 dsimp only at hphi ⊢
 refine wl_nil ?_
 refine nw 12 1023 (fun _ hm => ⟨hm.fa 0, hm.fa 1, hm.fa 2, trivial⟩) fun z => ?_
 refine wt 10 12 2047 rfl z (ov_assign rfl) ?_
 refine wt 11 12 4095 rfl z (ov_assign rfl) ?_
 refine wa_done (by kernel_rfl) ?_
 refine nx_then (gw_seq (sr_ (mv_ rfl (wl_ov (ov_nilcheck rfl) rfl (fd_ fo77_2 rfl rfl ?_)))))
 refine wl_ov (ov_load (v := .slice (some ⟨ga, 0, none⟩) k ac) sc75 rfl (fun _ hm => (hm.fact 0 rfl).2) rfl) rfl ?_
 refine wl_ov (ov_len es75 rfl) rfl (mv_ rfl (nn_ (gw_block ?_)))
 refine gw_look (R := ∃ g, lA = some ⟨g, 0, none⟩) (fun wx hm => own_addr (hm.ownI 1 rfl) (by omega)) ?_
 rintro ⟨gl, rfl⟩
 refine gw_look (R := ∃ g, kA = some ⟨g, 0, none⟩) (fun wx hm => own_addr (hm.ownI 0 rfl) (by omega)) ?_
 rintro ⟨gk, rfl⟩
 refine gw_loop (γ := Nat × List Arc) (fun gg => (gg.1 ≤ k ∧ gg.2.length = k) ∧ SameA al0 gg.2 ∧ ZeroN gg.2 gg.1) (fun gg => [(0, .pointer (some ⟨gx, 0, none⟩)), (2, .int .i64 0), (3, .bool false), (4, .slice (some ⟨gl, 0, none⟩) n lc), (5, .slice (some ⟨gk, 0, none⟩) n kc), (32, .int .i64 ((k : Nat) : Int)), (33, .int .i64 ((gg.1 : Nat) : Int))]) (fun gg => RowK base 79 4 k ac ga ((gg.2).flatMap arEnc)) (fun gg => []) (fun gg => [⟨.slice (some ⟨gk, 0, none⟩) n kc, 3, 1, n, wL.flatMap naEnc⟩, ⟨.slice (some ⟨gl, 0, none⟩) n lc, 3, 1, n, hL.flatMap naEnc⟩]) (fun gg => [BlkOld w.heap.size (some ga) gx 77 [.slice hA n hc, .slice wA n wc, .slice (some ⟨ga, 0, none⟩) k ac], SlOld naEnc 1 3 w.heap.size (some ga) hA n hL, SlOld naEnc 1 3 w.heap.size (some ga) wA n wL]) (fun gg => k - gg.1) (0, al0) ⟨⟨Nat.zero_le _, hal⟩, SameA.refl _, fun j hj => absurd hj (by omega)⟩ ⟨rfl, rfl, rfl, rfl, rfl, rfl, rfl, trivial⟩ (fun _ hm => hm.pick [] [0, 1] [0, 1, 2] rfl rfl) ?_
 rintro ⟨i, ql⟩ hinv
 replace hinv : (i ≤ k ∧ ql.length = k) ∧ SameA al0 ql ∧ ZeroN ql i := hinv
 dsimp only
 refine sr_ ?_
 obtain ⟨⟨hi0, hql⟩, hsm, hzn⟩ := hinv
 refine wl_ov (ov_lss rfl rfl) rfl (nn_ (gw_seq ?_))
 refine gw_cond rfl (fun hh => ?_) (fun hh => ?_)
 ·have hi : ((i : Nat) : Int) < ((k : Nat) : Int) := by simpa using hh
  clear hh
  refine gw_skip (nx_then (gw_seq (gw_block (sr_ ?_))))
  obtain ⟨x, hx⟩ : ∃ x, ql[i]? = some x := ⟨_, List.getElem?_eq_getElem (by omega)⟩
  obtain ⟨f, t, cr, fl⟩ := x
  refine mv_ rfl (sg_ rfl (nn_ (gw_region (mv_ rfl (wl_ov (ov_nilcheck rfl) rfl (fd_ fo77_2 rfl rfl ?_))))))
  refine wl_ov (ov_load (v := .slice (some ⟨ga, 0, none⟩) k ac) sc75 rfl (fun _ hm => (hm.fact 0 rfl).2) rfl) rfl ?_
  refine mv_ rfl ?_
  refine wl_ov (ov_index (j := i) es75 rfl rfl (by omega)) rfl ?_
  refine fd_ fo79_3 rfl rfl ?_
  refine wl_storeRow (l := ql) (j := i) (r := 3) (el := ⟨f, t, cr, fl⟩) (el' := ⟨f, t, cr, 0⟩) rfl sc3 rfl rfl rfl ar_len rfl hx hql (by decide) rfl rfl ?_
  refine wl_nil (nx_blk_nrm (nx_then (gw_region (ad_ rfl rfl (mv_ rfl (wl_nil ?_))))))
  exact nx_round (i + 1, ql.set i ⟨f, t, cr, 0⟩) ⟨⟨by dsimp only; omega, by rw [List.length_set]; exact hql⟩, hsm.trans (setF_same 0 hx), hzn.next (by omega)⟩ (by dsimp only; omega) ⟨rfl, rfl, rfl, rfl, rfl, rfl, (some_int (by omega)), trivial⟩ (fun _ hm => hm.pick [] [0, 1] [0, 1, 2] rfl rfl)
 have hi : ¬ (((i : Nat) : Int) < ((k : Nat) : Int)) := by simpa using hh
 clear hh
 refine gw_exit ?_
 refine nx_then_exit (nx_then_exit ?_)
 refine nx_blk_here ?_
 refine nx_then (sr_ ?_)
 have hq0 := hsm
 have hz0 := hzn.all (by omega)
 have harc1 := hq0.all (p := fun i j c => (i < n ∧ j < n) ∧ (P i = true ∧ P j = false) ∧ 0 ≤ c ∧ c ≤ 1000000) harc
 obtain ⟨hf0, hp0⟩ := Flw.zero (n := n) (M := 1000000) (P := P) (have_ := atL hL) (want := atL wL) harc1 hz0 hsr hsk (fun i => (hhB i).1) (fun i => (hwB i).1)
 have ho0 : ∀ i, i < n → atF Arc.fr ql i ≤ 0 := fun i _ => by have h2 := hf0.out i; omega
 have hc0 : costF ql = 0 := by
  have h1 := cost_bound (H := 0) (hv := fun _ => 0) (n := n) (M := 1000000) (fun a ha => (harc1 a ha).1.1) (fun a ha => (harc1 a ha).2.2) (fun a ha => by rw [hz0 a ha]; exact Int.le_refl _) (by decide) ho0 (fun _ _ => Int.le_refl _)
  omega
 refine sg_ rfl (nn_ (gw_block ?_))
 refine gw_loop (γ := List Arc × List Int × List Int × Int) (fun gg => (gg.1.length = k ∧ SameA al0 gg.1) ∧ (gg.2.1.length = n ∧ gg.2.2.1.length = n) ∧ Flw n 1000000 P (atL hL) (atL wL) (atL gg.2.1) (atL gg.2.2.1) gg.1 ∧ (∃ p, Pot gg.1 (atL gg.2.1) p) ∧ gg.2.2.2 = costF gg.1) (fun gg => [(0, .pointer (some ⟨gx, 0, none⟩)), (4, .slice (some ⟨gl, 0, none⟩) n lc), (5, .slice (some ⟨gk, 0, none⟩) n kc), (7, .int .i64 gg.2.2.2)]) (fun gg => RowK base 79 4 k ac ga ((gg.1).flatMap arEnc)) (fun gg => []) (fun gg => [⟨.slice (some ⟨gl, 0, none⟩) n lc, 3, 1, n, gg.2.1.flatMap naEnc⟩, ⟨.slice (some ⟨gk, 0, none⟩) n kc, 3, 1, n, gg.2.2.1.flatMap naEnc⟩]) (fun gg => [BlkOld w.heap.size (some ga) gx 77 [.slice hA n hc, .slice wA n wc, .slice (some ⟨ga, 0, none⟩) k ac], SlOld naEnc 1 3 w.heap.size (some ga) hA n hL, SlOld naEnc 1 3 w.heap.size (some ga) wA n wL]) (fun gg => (sumN n (atL gg.2.2.1)).toNat) (ql, hL, wL, 0) ⟨⟨hql, hq0⟩, ⟨hhl, hvl⟩, hf0, ⟨_, hp0⟩, hc0.symm⟩ ⟨rfl, rfl, rfl, rfl, trivial⟩ (fun _ hm => hm.pick [] [1, 0] [0, 1, 2] rfl rfl) ?_
 rintro ⟨pl, ul, vl, sm⟩ hinv
 replace hinv : (pl.length = k ∧ SameA al0 pl) ∧ (ul.length = n ∧ vl.length = n) ∧ Flw n 1000000 P (atL hL) (atL wL) (atL ul) (atL vl) pl ∧ (∃ p, Pot pl (atL ul) p) ∧ sm = costF pl := hinv
 dsimp only
 refine gw_block (sr_ ?_)
 obtain ⟨⟨hpl, hsame⟩, ⟨hul, hvl2⟩, hf, ⟨p, hp⟩, hsmc⟩ := hinv
 have harc2 := hf.arc
 obtain ⟨hflB, hulB, hvlB⟩ := hf.bounds (H := 1000) (fun i => (hhB i).2) (fun i => (hwB i).2)
 have hcar2 : ∀ a ∈ pl, 0 ≤ a.car ∧ a.car ≤ 1000000 := fun a ha => (harc2 a ha).2.2
 have hsmB := cost_bound (H := 1000) (fun a ha => (harc2 a ha).1.1) hcar2 hf.pos (by decide) (fun i _ => by have h1 := hf.out i; have h2 := hf.lf i; show atF Arc.fr pl i ≤ atL hL i; omega) (fun i _ => (hhB i).2)
 rw [← hsmc] at hsmB
 refine mv_ rfl (mv_ rfl ?_)
 refine wl_callgox (γ := Option Addr × Nat × Option Addr × Nat × List Int × List ByK) (val := fun g => .tuple #[.slice g.1 n g.2.1, .slice g.2.2.1 n g.2.2.2.1]) (φ := fun g => Ways pl (atL ul) n p g.2.2.2.2.1 g.2.2.2.2.2 ∧ Closed2 pl g.2.2.2.2.1 ∧ g.2.2.2.2.1.length = n ∧ g.2.2.2.2.2.length = n) (Y := fun g wy => SlT byEnc 2 111 wy g.2.2.1 n g.2.2.2.2.2) (fun g => ⟨.slice g.1 n g.2.1, 3, 1, n, g.2.2.2.2.1.flatMap naEnc⟩) rfl cb37 rfl rfl (fun wx hm => (ways_any pl ul p gx hA wA (some ⟨ga, 0, none⟩) (some ⟨gl, 0, none⟩) n hc wc k ac lc wx (hm.fact 0 rfl).2 (RowK.get hm.k ar_len hpl) (SlT.ofOwn na_len (hm.ownI 0 rfl) hul) hp (fun a ha => ⟨(harc2 a ha).1, (hcar2 a ha).1, (hcar2 a ha).2, hf.pos a ha⟩) hn (by omega)).mono fun _ _ ⟨dA, dc, bA, bc, dl, bl, he, hw, ho, hb, hg⟩ => ⟨(dA, dc, bA, bc, dl, bl), he, hw, ho, hg, hb⟩) (fun _ => SlT.lasts2 rfl) ?_
 rintro ⟨dA, dc, bA, bc, dl, bl⟩ hws
 dsimp only at hws ⊢
 obtain ⟨hw, hcl, hdl, hbl⟩ := hws
 refine wl_look (R := ∃ g, dA = some ⟨g, 0, none⟩) (fun wx hm => own_addr (hm.ownI 0 rfl) (by omega)) ?_
 rintro ⟨zd, rfl⟩
 refine wl_look (R := ∃ b o, bA = some ⟨b, o, none⟩) (fun wx hm => by obtain ⟨b, off, hA, _, _⟩ := SlT.get (hm.fact 0 rfl) (by omega); exact ⟨b, off, hA⟩) ?_
 rintro ⟨bb, bo, rfl⟩
 refine mv_ rfl (wl_ov (ov_extract rfl rfl) rfl (wl_ov (ov_extract rfl rfl) rfl (sg_ rfl (sg_ rfl (nn_ (sr_ (sg_ rfl ?_)))))))
 refine wl_set 10 (v' := .int .i64 (-1)) rfl rfl ?_
 refine sg_ rfl (nn_ (gw_seq (sr_ (mv_ rfl (wl_ov (ov_len es22 rfl) rfl (mv_ rfl (nn_ (gw_block ?_))))))))
 refine gw_loop (γ := Nat × Bool × Option Nat) (fun gg => gg.1 ≤ n ∧ Pick1 vl dl gg.1 gg.2.1 gg.2.2) (fun gg => [(0, .pointer (some ⟨gx, 0, none⟩)), (4, .slice (some ⟨gl, 0, none⟩) n lc), (5, .slice (some ⟨gk, 0, none⟩) n kc), (7, .int .i64 sm), (8, .slice (some ⟨zd, 0, none⟩) n dc), (9, .slice (some ⟨bb, bo, none⟩) n bc), (10, .int .i64 (toI gg.2.2)), (11, .bool gg.2.1), (50, .slice (some ⟨gk, 0, none⟩) n kc), (51, .int .i64 ((n : Nat) : Int)), (52, .int .i64 ((gg.1 : Nat) : Int))]) (fun gg => RowK base 79 4 k ac ga ((pl).flatMap arEnc)) (fun gg => []) (fun gg => [⟨.slice (some ⟨zd, 0, none⟩) n dc, 3, 1, n, dl.flatMap naEnc⟩, ⟨.slice (some ⟨gl, 0, none⟩) n lc, 3, 1, n, ul.flatMap naEnc⟩, ⟨.slice (some ⟨gk, 0, none⟩) n kc, 3, 1, n, vl.flatMap naEnc⟩]) (fun gg => [fun wy => SlT byEnc 2 111 wy (some ⟨bb, bo, none⟩) n bl, BlkOld w.heap.size (some ga) gx 77 [.slice hA n hc, .slice wA n wc, .slice (some ⟨ga, 0, none⟩) k ac], SlOld naEnc 1 3 w.heap.size (some ga) hA n hL, SlOld naEnc 1 3 w.heap.size (some ga) wA n wL]) (fun gg => n - gg.1) (0, false, none) ⟨Nat.zero_le _, Pick1.zero⟩ ⟨rfl, rfl, rfl, rfl, rfl, rfl, rfl, rfl, rfl, rfl, rfl, trivial⟩ (fun _ hm => hm.pick [] [0, 1, 2] [0, 1, 2, 3] rfl rfl) ?_
 rintro ⟨i, wa, tq⟩ hinv
 replace hinv : i ≤ n ∧ Pick1 vl dl i wa tq := hinv
 dsimp only
 refine sr_ ?_
 obtain ⟨hi0, hpk⟩ := hinv
 refine wl_ov (ov_lss rfl rfl) rfl (nn_ (gw_seq ?_))
 refine gw_cond rfl (fun hh => ?_) (fun hh => ?_)
 ·have hi : ((i : Nat) : Int) < ((n : Nat) : Int) := by simpa using hh
  clear hh
  refine gw_skip (nx_then (gw_seq (gw_block (sr_ ?_))))
  obtain ⟨y, hy⟩ : ∃ x, vl[i]? = some x := ⟨_, List.getElem?_eq_getElem (by omega)⟩
  obtain ⟨di, hdi⟩ : ∃ x, dl[i]? = some x := ⟨_, List.getElem?_eq_getElem (by omega)⟩
  have edi := dAt_get hdi
  refine mv_ rfl ?_
  refine wl_ov (ov_index (j := i) es22 rfl rfl (by omega)) rfl ?_
  refine wl_ov (ov_elem1 (k := 0) (v := .int .i64 y) sc3 rfl (fun _ hm => (SlT.ofOwn na_len (hm.ownI 2 rfl) hvl2)) hy rfl rfl) rfl ?_
  refine sg_ rfl (sg_ rfl (nn_ ?_))
  refine gw_cut (γ := Bool) (I := (fun (wb : Bool) => wb = (wa || decide (0 < y)))) (S' := (fun (wb : Bool) => [(0, .pointer (some ⟨gx, 0, none⟩)), (4, .slice (some ⟨gl, 0, none⟩) n lc), (5, .slice (some ⟨gk, 0, none⟩) n kc), (7, .int .i64 sm), (8, .slice (some ⟨zd, 0, none⟩) n dc), (9, .slice (some ⟨bb, bo, none⟩) n bc), (10, .int .i64 (toI tq)), (11, .bool wb), (12, .int .i64 ((i : Nat) : Int)), (13, .int .i64 y), (50, .slice (some ⟨gk, 0, none⟩) n kc), (51, .int .i64 ((n : Nat) : Int)), (52, .int .i64 ((i : Nat) : Int))])) (K' := (fun (wb : Bool) => RowK base 79 4 k ac ga ((pl).flatMap arEnc))) (L' := (fun (wb : Bool) => [])) (O' := (fun (wb : Bool) => [⟨.slice (some ⟨zd, 0, none⟩) n dc, 3, 1, n, dl.flatMap naEnc⟩, ⟨.slice (some ⟨gl, 0, none⟩) n lc, 3, 1, n, ul.flatMap naEnc⟩, ⟨.slice (some ⟨gk, 0, none⟩) n kc, 3, 1, n, vl.flatMap naEnc⟩])) (X' := (fun (wb : Bool) => [fun wy => SlT byEnc 2 111 wy (some ⟨bb, bo, none⟩) n bl, BlkOld w.heap.size (some ga) gx 77 [.slice hA n hc, .slice wA n wc, .slice (some ⟨ga, 0, none⟩) k ac], SlOld naEnc 1 3 w.heap.size (some ga) hA n hL, SlOld naEnc 1 3 w.heap.size (some ga) wA n wL])) ?_ ?_
  ·refine gw_region (mv_ rfl (mv_ rfl ?_))
   rcases Bool.eq_false_or_eq_true wa with hwa | hwa
   ·refine wl_set 58 rfl (congrArg Value.bool hwa) ?_
    refine goff rfl rfl rfl (goff rfl rfl rfl (pt_ rfl rfl (sg_ rfl (wl_nil ?_))))
    exact nx_meet true (by rw [hwa]; rfl) ⟨rfl, rfl, rfl, rfl, rfl, rfl, rfl, rfl, rfl, rfl, rfl, rfl, rfl, trivial⟩ (fun _ hm => hm.pick [] [0, 1, 2] [0, 1, 2, 3] rfl rfl)
   refine wl_set 58 rfl (congrArg Value.bool hwa) ?_
   refine wl_guard_on rfl rfl rfl (mv_ rfl (wl_guard_on rfl rfl rfl ?_))
   refine wl_ov (ov_gtr rfl rfl) rfl ?_
   refine pf_ rfl rfl (sg_ rfl (wl_nil ?_))
   exact nx_meet (decide (0 < y)) (by rw [hwa]; rfl) ⟨rfl, rfl, rfl, rfl, rfl, rfl, rfl, rfl, rfl, rfl, rfl, rfl, rfl, trivial⟩ (fun _ hm => hm.pick [] [0, 1, 2] [0, 1, 2, 3] rfl rfl)
  intro wb hinv
  replace hinv : wb = (wa || decide (0 < y)) := hinv
  refine gw_seq ?_
  rcases tq with _ | q
  ·refine gw_set 10 (v' := .int .i64 (-1)) rfl rfl ?_
   refine gd (fun wz => (fun wy => SlT byEnc 2 111 wy (some ⟨bb, bo, none⟩) n bl) wz ∧ (BlkOld w.heap.size (some ga) gx 77 [.slice hA n hc, .slice wA n wc, .slice (some ⟨ga, 0, none⟩) k ac]) wz ∧ (SlOld naEnc 1 3 w.heap.size (some ga) hA n hL) wz ∧ (SlOld naEnc 1 3 w.heap.size (some ga) wA n wL) wz ∧ wz.ownsRow w.heap.size 3 1 (.slice (some ⟨zd, 0, none⟩) n dc) n (dl.flatMap naEnc) ∧ wz.ownsRow w.heap.size 3 1 (.slice (some ⟨gl, 0, none⟩) n lc) n (ul.flatMap naEnc) ∧ wz.ownsRow w.heap.size 3 1 (.slice (some ⟨gk, 0, none⟩) n kc) n (vl.flatMap naEnc) ∧ True) mixed (fun _ hm => ⟨hm.fa 0, hm.fa 1, hm.fa 2, hm.fa 3, hm.ownI 0 rfl, hm.ownI 1 rfl, hm.ownI 2 rfl, trivial⟩) fun z => ?_
   refine wt 0 24 1 rfl z (ov_move rfl) ?_
   refine wt 1 24 3 rfl z (ov_gtr rfl rfl) ?_
   refine wt 2 24 7 rfl z (ov_move rfl) ?_
   rcases Bool.eq_false_or_eq_true (decide (0 < y)) with hg1 | hg1
   ·refine wa_set 64 rfl (congrArg Value.bool hg1) ?_
    replace hg1 := of_decide_eq_true hg1
    refine wto 3 24 15 rfl rfl rfl z (ov_move rfl) ?_
    refine wto 4 24 31 rfl rfl rfl z (ov_move rfl) ?_
    refine wto 5 24 63 rfl rfl rfl z (ov_index (j := i) es22 rfl rfl (by omega)) ?_
    refine wto 6 24 127 rfl rfl rfl z (ov_elem1 (k := 0) (v := .int .i64 di) sc3 rfl (fun _ hm => (SlT.ofOwn na_len (hm.2.2.2.2.1) hdl)) hdi rfl rfl) ?_
    refine wto 7 24 255 rfl rfl rfl z (ov_lss rfl rfl) ?_
    refine wt 8 24 511 rfl z (ov_pick_t rfl rfl) ?_
    refine wt 9 24 1023 rfl z (ov_move rfl) ?_
    rcases Bool.eq_false_or_eq_true (decide (di < 1125899906842624)) with hg2 | hg2
    ·refine wa_set 71 rfl (congrArg Value.bool hg2) ?_
     replace hg2 := of_decide_eq_true hg2
     refine wto 10 24 2047 rfl rfl rfl z (ov_move rfl) ?_
     refine wto 11 24 4095 rfl rfl rfl z (ov_lss rfl rfl) ?_
     refine wa_set 73 (v' := .bool true) rfl (congrArg Value.bool (by decide)) ?_
     refine wto 12 24 8191 rfl rfl rfl z (ov_move rfl) ?_
     refine wtf 13 24 16383 rfl rfl rfl z ?_
     refine wtf 14 24 32767 rfl rfl rfl z ?_
     refine wtf 15 24 65535 rfl rfl rfl z ?_
     refine wtf 16 24 131071 rfl rfl rfl z ?_
     refine wtf 17 24 262143 rfl rfl rfl z ?_
     refine wtf 18 24 524287 rfl rfl rfl z ?_
     refine wtf 19 24 1048575 rfl rfl rfl z ?_
     refine wtf 20 24 2097151 rfl rfl rfl z ?_
     refine wtf 21 24 4194303 rfl rfl rfl z ?_
     refine wto 22 24 8388607 rfl rfl rfl z (ov_pick_t rfl rfl) ?_
     refine wt 23 24 16777215 rfl z (ov_pick_t rfl rfl) ?_
     refine wa_done (by kernel_rfl) ?_
     refine nx_then (ct_ rfl (gw_region (mv_ rfl (sg_ rfl (wl_nil (nx_blk_nrm (nx_then (gw_region (ad_ rfl rfl (mv_ rfl (wl_nil ?_)))))))))))
     have hnx : Pick1 vl dl (i + 1) wb (some i) := hpk.next hy hinv (.inr ⟨rfl, by first | assumption | omega | simp_all, by rw [edi, hfar]; first | assumption | omega | simp_all⟩)
     exact nx_round (i + 1, wb, some i) ⟨by dsimp only; omega, hnx⟩ (by dsimp only; omega) ⟨rfl, rfl, rfl, rfl, rfl, rfl, rfl, rfl, rfl, rfl, (some_int (by omega)), trivial⟩ (fun _ hm => hm.pick [] [0, 1, 2] [0, 1, 2, 3] rfl rfl)
    refine wa_set 71 rfl (congrArg Value.bool hg2) ?_
    replace hg2 := of_decide_eq_false hg2
    refine wtf 10 24 2047 rfl rfl rfl z ?_
    refine wtf 11 24 4095 rfl rfl rfl z ?_
    refine wtf 12 24 8191 rfl rfl rfl z ?_
    refine wtu 13 24 16383 rfl rfl rfl z ?_
    refine wtu 14 24 32767 rfl rfl rfl z ?_
    refine wtu 15 24 65535 rfl rfl rfl z ?_
    refine wtu 16 24 131071 rfl rfl rfl z ?_
    refine wtu 17 24 262143 rfl rfl rfl z ?_
    refine wtu 18 24 524287 rfl rfl rfl z ?_
    refine wtu 19 24 1048575 rfl rfl rfl z ?_
    refine wtu 20 24 2097151 rfl rfl rfl z ?_
    refine wtu 21 24 4194303 rfl rfl rfl z ?_
    refine wtf 22 24 8388607 rfl rfl rfl z ?_
    refine wt 23 24 16777215 rfl z (ov_pick_f rfl rfl) ?_
    refine wa_done (by kernel_rfl) ?_
    refine nx_then (cf_ rfl (gw_skip (nx_blk_nrm (nx_then (gw_region (ad_ rfl rfl (mv_ rfl (wl_nil ?_))))))))
    have hnx : Pick1 vl dl (i + 1) wb (none) := hpk.next hy hinv (.inl ⟨rfl, fun h8 h9 h7 => by
     rw [edi, hfar] at h7
     first | omega | (cases h8; done) | (simp_all; done) | (simp_all; omega)⟩)
    exact nx_round (i + 1, wb, none) ⟨by dsimp only; omega, hnx⟩ (by dsimp only; omega) ⟨rfl, rfl, rfl, rfl, rfl, rfl, rfl, rfl, rfl, rfl, (some_int (by omega)), trivial⟩ (fun _ hm => hm.pick [] [0, 1, 2] [0, 1, 2, 3] rfl rfl)
   refine wa_set 64 rfl (congrArg Value.bool hg1) ?_
   replace hg1 := of_decide_eq_false hg1
   refine wtf 3 24 15 rfl rfl rfl z ?_
   refine wtf 4 24 31 rfl rfl rfl z ?_
   refine wtf 5 24 63 rfl rfl rfl z ?_
   refine wtf 6 24 127 rfl rfl rfl z ?_
   refine wtf 7 24 255 rfl rfl rfl z ?_
   refine wt 8 24 511 rfl z (ov_pick_f rfl rfl) ?_
   refine wt 9 24 1023 rfl z (ov_move rfl) ?_
   refine wtf 10 24 2047 rfl rfl rfl z ?_
   refine wtf 11 24 4095 rfl rfl rfl z ?_
   refine wtf 12 24 8191 rfl rfl rfl z ?_
   refine wtu 13 24 16383 rfl rfl rfl z ?_
   refine wtu 14 24 32767 rfl rfl rfl z ?_
   refine wtu 15 24 65535 rfl rfl rfl z ?_
   refine wtu 16 24 131071 rfl rfl rfl z ?_
   refine wtu 17 24 262143 rfl rfl rfl z ?_
   refine wtu 18 24 524287 rfl rfl rfl z ?_
   refine wtu 19 24 1048575 rfl rfl rfl z ?_
   refine wtu 20 24 2097151 rfl rfl rfl z ?_
   refine wtu 21 24 4194303 rfl rfl rfl z ?_
   refine wtf 22 24 8388607 rfl rfl rfl z ?_
   refine wt 23 24 16777215 rfl z (ov_pick_f rfl rfl) ?_
   refine wa_done (by kernel_rfl) ?_
   refine nx_then (cf_ rfl (gw_skip (nx_blk_nrm (nx_then (gw_region (ad_ rfl rfl (mv_ rfl (wl_nil ?_))))))))
   have hnx : Pick1 vl dl (i + 1) wb (none) := hpk.next hy hinv (.inl ⟨rfl, fun h8 h9 h7 => by
    rw [edi, hfar] at h7
    first | omega | (cases h8; done) | (simp_all; done) | (simp_all; omega)⟩)
   exact nx_round (i + 1, wb, none) ⟨by dsimp only; omega, hnx⟩ (by dsimp only; omega) ⟨rfl, rfl, rfl, rfl, rfl, rfl, rfl, rfl, rfl, rfl, (some_int (by omega)), trivial⟩ (fun _ hm => hm.pick [] [0, 1, 2] [0, 1, 2, 3] rfl rfl)
  obtain ⟨hqi, hql0, hqd⟩ := hpk.hit q rfl
  obtain ⟨dq, hdq⟩ : ∃ x, dl[q]? = some x := ⟨_, List.getElem?_eq_getElem (by omega)⟩
  refine gw_set 10 (v' := .int .i64 ((q : Nat) : Int)) rfl rfl ?_
  refine gd (fun wz => (fun wy => SlT byEnc 2 111 wy (some ⟨bb, bo, none⟩) n bl) wz ∧ (BlkOld w.heap.size (some ga) gx 77 [.slice hA n hc, .slice wA n wc, .slice (some ⟨ga, 0, none⟩) k ac]) wz ∧ (SlOld naEnc 1 3 w.heap.size (some ga) hA n hL) wz ∧ (SlOld naEnc 1 3 w.heap.size (some ga) wA n wL) wz ∧ wz.ownsRow w.heap.size 3 1 (.slice (some ⟨zd, 0, none⟩) n dc) n (dl.flatMap naEnc) ∧ wz.ownsRow w.heap.size 3 1 (.slice (some ⟨gl, 0, none⟩) n lc) n (ul.flatMap naEnc) ∧ wz.ownsRow w.heap.size 3 1 (.slice (some ⟨gk, 0, none⟩) n kc) n (vl.flatMap naEnc) ∧ True) mixed (fun _ hm => ⟨hm.fa 0, hm.fa 1, hm.fa 2, hm.fa 3, hm.ownI 0 rfl, hm.ownI 1 rfl, hm.ownI 2 rfl, trivial⟩) fun z => ?_
  refine wt 0 24 1 rfl z (ov_move rfl) ?_
  refine wt 1 24 3 rfl z (ov_gtr rfl rfl) ?_
  refine wt 2 24 7 rfl z (ov_move rfl) ?_
  rcases Bool.eq_false_or_eq_true (decide (0 < y)) with hg3 | hg3
  ·refine wa_set 64 rfl (congrArg Value.bool hg3) ?_
   replace hg3 := of_decide_eq_true hg3
   refine wto 3 24 15 rfl rfl rfl z (ov_move rfl) ?_
   refine wto 4 24 31 rfl rfl rfl z (ov_move rfl) ?_
   refine wto 5 24 63 rfl rfl rfl z (ov_index (j := i) es22 rfl rfl (by omega)) ?_
   refine wto 6 24 127 rfl rfl rfl z (ov_elem1 (k := 0) (v := .int .i64 di) sc3 rfl (fun _ hm => (SlT.ofOwn na_len (hm.2.2.2.2.1) hdl)) hdi rfl rfl) ?_
   refine wto 7 24 255 rfl rfl rfl z (ov_lss rfl rfl) ?_
   refine wt 8 24 511 rfl z (ov_pick_t rfl rfl) ?_
   refine wt 9 24 1023 rfl z (ov_move rfl) ?_
   rcases Bool.eq_false_or_eq_true (decide (di < 1125899906842624)) with hg4 | hg4
   ·refine wa_set 71 rfl (congrArg Value.bool hg4) ?_
    replace hg4 := of_decide_eq_true hg4
    refine wto 10 24 2047 rfl rfl rfl z (ov_move rfl) ?_
    refine wto 11 24 4095 rfl rfl rfl z (ov_lss rfl rfl) ?_
    refine wto 12 24 8191 rfl rfl rfl z (ov_move rfl) ?_
    rcases Bool.eq_false_or_eq_true (decide (((q : Nat) : Int) < 0)) with hg5 | hg5
    ·refine wa_set 74 rfl (congrArg Value.bool hg5) ?_
     replace hg5 := of_decide_eq_true hg5
     refine wtf 13 24 16383 rfl rfl rfl z ?_
     refine wtf 14 24 32767 rfl rfl rfl z ?_
     refine wtf 15 24 65535 rfl rfl rfl z ?_
     refine wtf 16 24 131071 rfl rfl rfl z ?_
     refine wtf 17 24 262143 rfl rfl rfl z ?_
     refine wtf 18 24 524287 rfl rfl rfl z ?_
     refine wtf 19 24 1048575 rfl rfl rfl z ?_
     refine wtf 20 24 2097151 rfl rfl rfl z ?_
     refine wtf 21 24 4194303 rfl rfl rfl z ?_
     refine wto 22 24 8388607 rfl rfl rfl z (ov_pick_t rfl rfl) ?_
     refine wt 23 24 16777215 rfl z (ov_pick_t rfl rfl) ?_
     refine wa_done (by kernel_rfl) ?_
     refine nx_then (ct_ rfl (gw_region (mv_ rfl (sg_ rfl (wl_nil (nx_blk_nrm (nx_then (gw_region (ad_ rfl rfl (mv_ rfl (wl_nil ?_)))))))))))
     have hnx : Pick1 vl dl (i + 1) wb (some i) := hpk.next hy hinv (.inr ⟨rfl, by first | assumption | omega | simp_all, by rw [edi, hfar]; first | assumption | omega | simp_all⟩)
     exact nx_round (i + 1, wb, some i) ⟨by dsimp only; omega, hnx⟩ (by dsimp only; omega) ⟨rfl, rfl, rfl, rfl, rfl, rfl, rfl, rfl, rfl, rfl, (some_int (by omega)), trivial⟩ (fun _ hm => hm.pick [] [0, 1, 2] [0, 1, 2, 3] rfl rfl)
    refine wa_set 74 rfl (congrArg Value.bool hg5) ?_
    replace hg5 := of_decide_eq_false hg5
    refine wto 13 24 16383 rfl rfl rfl z (ov_move rfl) ?_
    refine wto 14 24 32767 rfl rfl rfl z (ov_move rfl) ?_
    refine wto 15 24 65535 rfl rfl rfl z (ov_index (j := i) es22 rfl rfl (by omega)) ?_
    refine wto 16 24 131071 rfl rfl rfl z (ov_elem1 (k := 0) (v := .int .i64 di) sc3 rfl (fun _ hm => (SlT.ofOwn na_len (hm.2.2.2.2.1) hdl)) hdi rfl rfl) ?_
    refine wto 17 24 262143 rfl rfl rfl z (ov_move rfl) ?_
    refine wto 18 24 524287 rfl rfl rfl z (ov_move rfl) ?_
    refine wto 19 24 1048575 rfl rfl rfl z (ov_index (j := q) es22 rfl rfl (by omega)) ?_
    refine wto 20 24 2097151 rfl rfl rfl z (ov_elem1 (k := 0) (v := .int .i64 dq) sc3 rfl (fun _ hm => (SlT.ofOwn na_len (hm.2.2.2.2.1) hdl)) hdq rfl rfl) ?_
    refine wto 21 24 4194303 rfl rfl rfl z (ov_lss rfl rfl) ?_
    refine wto 22 24 8388607 rfl rfl rfl z (ov_pick_f rfl rfl) ?_
    refine wt 23 24 16777215 rfl z (ov_pick_t rfl rfl) ?_
    refine wa_done (by kernel_rfl) ?_
    refine nx_then ?_
    refine gw_cond rfl (fun hh => ?_) (fun hh => ?_)
    ·have hcd : di < dq := by simpa using hh
     clear hh
     refine gw_region ?_
     have hnx : Pick1 vl dl (i + 1) wb (some i) := hpk.next hy hinv (.inr ⟨rfl, by first | assumption | omega | simp_all, by rw [edi, hfar]; first | assumption | omega | simp_all⟩)
     refine mv_ rfl (sg_ rfl (wl_nil (nx_blk_nrm (nx_then (gw_region (ad_ rfl rfl (mv_ rfl (wl_nil ?_))))))))
     exact nx_round (i + 1, wb, some i) ⟨by dsimp only; omega, hnx⟩ (by dsimp only; omega) ⟨rfl, rfl, rfl, rfl, rfl, rfl, rfl, rfl, rfl, rfl, (some_int (by omega)), trivial⟩ (fun _ hm => hm.pick [] [0, 1, 2] [0, 1, 2, 3] rfl rfl)
    have hcd : ¬ (di < dq) := by simpa using hh
    clear hh
    refine gw_skip (nx_blk_nrm (nx_then (gw_region ?_)))
    have hnx : Pick1 vl dl (i + 1) wb (some q) := hpk.next hy hinv (.inl ⟨rfl, fun h8 h9 h7 => by
     rw [edi, hfar] at h7
     first | omega | (cases h8; done) | (simp_all; done) | (simp_all; omega)⟩)
    refine ad_ rfl rfl (mv_ rfl (wl_nil ?_))
    exact nx_round (i + 1, wb, some q) ⟨by dsimp only; omega, hnx⟩ (by dsimp only; omega) ⟨rfl, rfl, rfl, rfl, rfl, rfl, rfl, rfl, rfl, rfl, (some_int (by omega)), trivial⟩ (fun _ hm => hm.pick [] [0, 1, 2] [0, 1, 2, 3] rfl rfl)
   refine wa_set 71 rfl (congrArg Value.bool hg4) ?_
   replace hg4 := of_decide_eq_false hg4
   refine wtf 10 24 2047 rfl rfl rfl z ?_
   refine wtf 11 24 4095 rfl rfl rfl z ?_
   refine wtf 12 24 8191 rfl rfl rfl z ?_
   refine wtu 13 24 16383 rfl rfl rfl z ?_
   refine wtu 14 24 32767 rfl rfl rfl z ?_
   refine wtu 15 24 65535 rfl rfl rfl z ?_
   refine wtu 16 24 131071 rfl rfl rfl z ?_
   refine wtu 17 24 262143 rfl rfl rfl z ?_
   refine wtu 18 24 524287 rfl rfl rfl z ?_
   refine wtu 19 24 1048575 rfl rfl rfl z ?_
   refine wtu 20 24 2097151 rfl rfl rfl z ?_
   refine wtu 21 24 4194303 rfl rfl rfl z ?_
   refine wtf 22 24 8388607 rfl rfl rfl z ?_
   refine wt 23 24 16777215 rfl z (ov_pick_f rfl rfl) ?_
   refine wa_done (by kernel_rfl) ?_
   refine nx_then (cf_ rfl (gw_skip (nx_blk_nrm (nx_then (gw_region (ad_ rfl rfl (mv_ rfl (wl_nil ?_))))))))
   have hnx : Pick1 vl dl (i + 1) wb (some q) := hpk.next hy hinv (.inl ⟨rfl, fun h8 h9 h7 => by
    rw [edi, hfar] at h7
    first | omega | (cases h8; done) | (simp_all; done) | (simp_all; omega)⟩)
   exact nx_round (i + 1, wb, some q) ⟨by dsimp only; omega, hnx⟩ (by dsimp only; omega) ⟨rfl, rfl, rfl, rfl, rfl, rfl, rfl, rfl, rfl, rfl, (some_int (by omega)), trivial⟩ (fun _ hm => hm.pick [] [0, 1, 2] [0, 1, 2, 3] rfl rfl)
  refine wa_set 64 rfl (congrArg Value.bool hg3) ?_
  replace hg3 := of_decide_eq_false hg3
  refine wtf 3 24 15 rfl rfl rfl z ?_
  refine wtf 4 24 31 rfl rfl rfl z ?_
  refine wtf 5 24 63 rfl rfl rfl z ?_
  refine wtf 6 24 127 rfl rfl rfl z ?_
  refine wtf 7 24 255 rfl rfl rfl z ?_
  refine wt 8 24 511 rfl z (ov_pick_f rfl rfl) ?_
  refine wt 9 24 1023 rfl z (ov_move rfl) ?_
  refine wtf 10 24 2047 rfl rfl rfl z ?_
  refine wtf 11 24 4095 rfl rfl rfl z ?_
  refine wtf 12 24 8191 rfl rfl rfl z ?_
  refine wtu 13 24 16383 rfl rfl rfl z ?_
  refine wtu 14 24 32767 rfl rfl rfl z ?_
  refine wtu 15 24 65535 rfl rfl rfl z ?_
  refine wtu 16 24 131071 rfl rfl rfl z ?_
  refine wtu 17 24 262143 rfl rfl rfl z ?_
  refine wtu 18 24 524287 rfl rfl rfl z ?_
  refine wtu 19 24 1048575 rfl rfl rfl z ?_
  refine wtu 20 24 2097151 rfl rfl rfl z ?_
  refine wtu 21 24 4194303 rfl rfl rfl z ?_
  refine wtf 22 24 8388607 rfl rfl rfl z ?_
  refine wt 23 24 16777215 rfl z (ov_pick_f rfl rfl) ?_
  refine wa_done (by kernel_rfl) ?_
  refine nx_then (cf_ rfl (gw_skip (nx_blk_nrm (nx_then (gw_region (ad_ rfl rfl (mv_ rfl (wl_nil ?_))))))))
  have hnx : Pick1 vl dl (i + 1) wb (some q) := hpk.next hy hinv (.inl ⟨rfl, fun h8 h9 h7 => by
   rw [edi, hfar] at h7
   first | omega | (cases h8; done) | (simp_all; done) | (simp_all; omega)⟩)
  exact nx_round (i + 1, wb, some q) ⟨by dsimp only; omega, hnx⟩ (by dsimp only; omega) ⟨rfl, rfl, rfl, rfl, rfl, rfl, rfl, rfl, rfl, rfl, (some_int (by omega)), trivial⟩ (fun _ hm => hm.pick [] [0, 1, 2] [0, 1, 2, 3] rfl rfl)
 have hi : ¬ (((i : Nat) : Int) < ((n : Nat) : Int)) := by simpa using hh
 clear hh
 refine gw_exit ?_
 refine nx_then_exit (nx_then_exit ?_)
 refine nx_blk_here ?_
 refine nx_then (gw_seq (sr_ ?_))
 obtain rfl : n = i := by omega
 rcases tq with _ | q
 ·refine wl_set 10 (v' := .int .i64 (-1)) rfl rfl ?_
  refine mv_ rfl (wl_ov (ov_lss rfl rfl) rfl ?_)
  refine wl_set 89 (v' := .bool true) rfl (congrArg Value.bool (by decide)) ?_
  refine nn_ (ct_ rfl (sr_ (mv_ rfl (mv_ rfl (wl_ov (ov_un_not rfl) rfl (sg_ rfl (sg_ rfl (nn_ ?_))))))))
  refine gw_ret ?_
  refine nx_then_ret (nx_blk_ret (nx_then_ret (nx_blk_ret ?_)))
  have hend := solve_end hf hp hw hcl (by decide) (by rw [hfar]; omega) hpk.wa (hpk.no rfl)
  rw [← hsmc] at hend
  refine nx_ret2 rfl rfl rfl fun wx hm => ?_
  exact ⟨_, _, pl, rfl, hend.same hsame.symm, hsame, hm.k, hm.g⟩
 obtain ⟨hqn, hql0, hqd⟩ := hpk.hit q rfl
 refine wl_set 10 (v' := .int .i64 ((q : Nat) : Int)) rfl rfl ?_
 obtain ⟨y0, hy0⟩ : ∃ x, vl[q]? = some x := ⟨_, List.getElem?_eq_getElem (by omega)⟩
 obtain ⟨dq, hdq⟩ : ∃ x, dl[q]? = some x := ⟨_, List.getElem?_eq_getElem (by omega)⟩
 have ey0 := atL_get hy0
 have edq := dAt_get hdq
 rw [ey0] at hql0
 have hy0B := hvlB q
 rw [ey0] at hy0B
 obtain ⟨L0, hL0⟩ := hw.path q hqd
 have hL0n := hL0.len hw
 have hfd0 : Fnd pl bl dl L0 y0 y0 q L0 := ⟨hql0, Int.le_refl _, hL0, hqd, fun x h1 h2 => absurd h1 h2⟩
 refine mv_ rfl (wl_ov (ov_lss rfl rfl) rfl ?_)
 refine wl_set 89 (v' := .bool false) rfl (congrArg Value.bool (decide_eq_false (by omega))) ?_
 refine nn_ (cf_ rfl (gw_skip (nx_then (sr_ (mv_ rfl (mv_ rfl ?_))))))
 refine wl_ov (ov_index (j := q) es22 rfl rfl (by omega)) rfl ?_
 refine wl_ov (ov_elem1 (k := 0) (v := .int .i64 y0) sc3 rfl (fun _ hm => (SlT.ofOwn na_len (hm.ownI 2 rfl) hvl2)) hy0 rfl rfl) rfl ?_
 refine mv_ rfl (sg_ rfl (sg_ rfl (nn_ (gw_seq (gw_block ?_)))))
 refine gw_loop (γ := Nat × Int × List Nat) (fun gg => (gg.1 < n ∧ gg.2.2.getLast? = L0.getLast?) ∧ Fnd pl bl dl L0 y0 gg.2.1 gg.1 gg.2.2) (fun gg => [(0, .pointer (some ⟨gx, 0, none⟩)), (4, .slice (some ⟨gl, 0, none⟩) n lc), (5, .slice (some ⟨gk, 0, none⟩) n kc), (7, .int .i64 sm), (8, .slice (some ⟨zd, 0, none⟩) n dc), (9, .slice (some ⟨bb, bo, none⟩) n bc), (10, .int .i64 ((q : Nat) : Int)), (14, .int .i64 gg.2.1), (15, .int .i64 ((gg.1 : Nat) : Int))]) (fun gg => RowK base 79 4 k ac ga ((pl).flatMap arEnc)) (fun gg => []) (fun gg => [⟨.slice (some ⟨zd, 0, none⟩) n dc, 3, 1, n, dl.flatMap naEnc⟩, ⟨.slice (some ⟨gl, 0, none⟩) n lc, 3, 1, n, ul.flatMap naEnc⟩, ⟨.slice (some ⟨gk, 0, none⟩) n kc, 3, 1, n, vl.flatMap naEnc⟩]) (fun gg => [fun wy => SlT byEnc 2 111 wy (some ⟨bb, bo, none⟩) n bl, BlkOld w.heap.size (some ga) gx 77 [.slice hA n hc, .slice wA n wc, .slice (some ⟨ga, 0, none⟩) k ac], SlOld naEnc 1 3 w.heap.size (some ga) hA n hL, SlOld naEnc 1 3 w.heap.size (some ga) wA n wL]) (fun gg => gg.2.2.length) (q, y0, L0) ⟨⟨hqn, rfl⟩, hfd0⟩ ⟨rfl, rfl, rfl, rfl, rfl, rfl, rfl, rfl, rfl, trivial⟩ (fun _ hm => hm.pick [] [0, 1, 2] [0, 1, 2, 3] rfl rfl) ?_
 rintro ⟨at1, mn, l⟩ hinv
 replace hinv : (at1 < n ∧ l.getLast? = L0.getLast?) ∧ Fnd pl bl dl L0 y0 mn at1 l := hinv
 dsimp only
 refine gw_seq (sr_ ?_)
 obtain ⟨⟨hat1, hlast⟩, hfd⟩ := hinv
 obtain ⟨ob, hob⟩ : ∃ x, bl[at1]? = some x := ⟨_, List.getElem?_eq_getElem (by omega)⟩
 obtain rfl | ⟨kq, bq, rfl⟩ := by_cs ob
 ·have hdone := fun many (h : many ≤ mn) => hfd.done hob h
  have hlat := hfd.way.ends hob
  have hmp := hfd.pos
  have hmle := hfd.le
  have hL0l : L0.getLast? = some at1 := by rw [← hlast, hlat]; rfl
  have hr0 : 0 < atL ul at1 := by
   have h1 := hfd.hit
   rcases hw.root at1 hob with ⟨h2, _⟩ | ⟨_, h2⟩
   ·omega
   exact h2
  clear hfd hlast
  obtain ⟨z0, hz0⟩ : ∃ x, ul[at1]? = some x := ⟨_, List.getElem?_eq_getElem (by omega)⟩
  have ez0 := atL_get hz0
  rw [ez0] at hr0
  have hz0B := hulB at1
  rw [ez0] at hz0B
  refine mv_ rfl (mv_ rfl ?_)
  refine wl_ov (ov_index (j := at1) es107 rfl rfl (by omega)) rfl ?_
  refine fd_ fo111_0 rfl rfl ?_
  refine wl_ov (ov_elem1 (k := 0) (v := .int .i64 (-1)) sc3 rfl (fun _ hm => (hm.fact 0 rfl)) hob rfl rfl) rfl ?_
  refine wl_ov (ov_geq rfl rfl) rfl ?_
  refine wl_set 103 (v' := .bool false) rfl (congrArg Value.bool (by decide)) ?_
  refine nn_ (cf_ rfl ?_)
  refine gw_exit ?_
  refine nx_then_exit (nx_then_exit ?_)
  refine nx_blk_here ?_
  refine nx_then (sr_ (mv_ rfl (mv_ rfl (mv_ rfl ?_))))
  refine wl_ov (ov_index (j := at1) es22 rfl rfl (by omega)) rfl ?_
  refine wl_ov (ov_elem1 (k := 0) (v := .int .i64 z0) sc3 rfl (fun _ hm => (SlT.ofOwn na_len (hm.ownI 1 rfl) hul)) hz0 rfl rfl) rfl ?_
  refine wl_ov (ov_min rfl rfl) rfl ?_
  refine sg_ rfl (nn_ (sr_ (mv_ rfl (mv_ rfl ?_))))
  refine wl_ov (ov_index (j := at1) es22 rfl rfl (by omega)) rfl ?_
  refine wl_ov (ov_elem1 (k := 0) (v := .int .i64 z0) sc3 rfl (fun _ hm => (SlT.ofOwn na_len (hm.ownI 1 rfl) hul)) hz0 rfl rfl) rfl ?_
  refine mv_ rfl ?_
  refine wl_ov (ov_sub rfl rfl (by omega) (by omega)) rfl ?_
  refine wl_ov (ov_index (j := at1) es22 rfl rfl (by omega)) rfl ?_
  obtain ⟨mm, hmm⟩ : ∃ x, x = min mn z0 := ⟨_, rfl⟩
  have hm0 : 0 < mm := by omega
  have hm1 : mm ≤ mn := by omega
  have hm2 : mm ≤ z0 := by omega
  rw [← hmm]
  refine wl_storeE (l := ul) (j := at1) (r := 0) (el := z0) (el' := (z0 - mm)) 1 sc3 rfl rfl rfl rfl na_len rfl hz0 hul (show 0 < 1 by decide) rfl rfl ?_
  refine nn_ (sr_ (mv_ rfl (mv_ rfl ?_)))
  refine wl_ov (ov_index (j := q) es22 rfl rfl (by omega)) rfl ?_
  refine wl_ov (ov_elem1 (k := 0) (v := .int .i64 y0) sc3 rfl (fun _ hm => (SlT.ofOwn na_len (hm.ownI 2 rfl) hvl2)) hy0 rfl rfl) rfl ?_
  refine mv_ rfl ?_
  refine wl_ov (ov_sub rfl rfl (by omega) (by omega)) rfl ?_
  refine wl_ov (ov_index (j := q) es22 rfl rfl (by omega)) rfl ?_
  refine wl_storeE (l := vl) (j := q) (r := 0) (el := y0) (el' := (y0 - mm)) 2 sc3 rfl rfl rfl rfl na_len rfl hy0 hvl2 (show 0 < 1 by decide) rfl rfl ?_
  have hdqB := hw.high hcl hcar2 (by decide) hqd
  have hdqL := hw.lowAll hcar2 (by decide) q
  rw [edq] at hdqB hdqL
  obtain ⟨hmb1, hmb2⟩ := mulB (a := mm) (b := dq) (A := 1000) (B := 10000000) (by omega) (by omega) (by omega) (by omega)
  obtain ⟨p1, hp1, hpd⟩ := hw.newPot hp hcl hcar2 (by decide) (by rw [hfar]; omega)
  have hag0 := Aug.start (p := p1) hf hp1 hL0 hqd (hdone mm hm1)
  refine nn_ (sr_ (mv_ rfl (mv_ rfl (mv_ rfl (mv_ rfl ?_)))))
  refine wl_ov (ov_index (j := q) es22 rfl rfl (by omega)) rfl ?_
  refine wl_ov (ov_elem1 (k := 0) (v := .int .i64 dq) sc3 rfl (fun _ hm => (SlT.ofOwn na_len (hm.ownI 0 rfl) hdl)) hdq rfl rfl) rfl ?_
  refine wl_ov (ov_mul rfl rfl (by omega) (by omega)) rfl ?_
  refine ad_ rfl rfl (sg_ rfl (nn_ (sr_ (mv_ rfl (sg_ rfl (nn_ (gw_block ?_)))))))
  refine gw_loop (γ := Nat × List Arc × List Nat × Nat) (fun gg => (gg.1 < n ∧ gg.2.2.1.getLast? = L0.getLast? ∧ gg.2.1.length = k) ∧ (gg.2.2.2 + gg.2.2.1.length ≤ 10 ∧ ∀ b ∈ gg.2.1, b.flow ≤ 1000 + 1000 * (gg.2.2.2 : Int)) ∧ Aug pl gg.2.1 p1 dl bl mm q gg.1 gg.2.2.1) (fun gg => [(0, .pointer (some ⟨gx, 0, none⟩)), (4, .slice (some ⟨gl, 0, none⟩) n lc), (5, .slice (some ⟨gk, 0, none⟩) n kc), (7, .int .i64 (sm + (mm * dq))), (9, .slice (some ⟨bb, bo, none⟩) n bc), (14, .int .i64 mm), (15, .int .i64 ((gg.1 : Nat) : Int))]) (fun gg => RowK base 79 4 k ac ga ((gg.2.1).flatMap arEnc)) (fun gg => []) (fun gg => [⟨.slice (some ⟨zd, 0, none⟩) n dc, 3, 1, n, dl.flatMap naEnc⟩, ⟨.slice (some ⟨gl, 0, none⟩) n lc, 3, 1, n, (ul.set at1 (z0 - mm)).flatMap naEnc⟩, ⟨.slice (some ⟨gk, 0, none⟩) n kc, 3, 1, n, (vl.set q (y0 - mm)).flatMap naEnc⟩]) (fun gg => [fun wy => SlT byEnc 2 111 wy (some ⟨bb, bo, none⟩) n bl, BlkOld w.heap.size (some ga) gx 77 [.slice hA n hc, .slice wA n wc, .slice (some ⟨ga, 0, none⟩) k ac], SlOld naEnc 1 3 w.heap.size (some ga) hA n hL, SlOld naEnc 1 3 w.heap.size (some ga) wA n wL]) (fun gg => gg.2.2.1.length) (q, pl, L0, 0) ⟨⟨hqn, rfl, hpl⟩, ⟨by dsimp only; omega, fun b hb => by have := hflB b hb; dsimp only; omega⟩, hag0⟩ ⟨rfl, rfl, rfl, rfl, rfl, rfl, rfl, trivial⟩ (fun _ hm => hm.pick [] [0, 1, 2] [0, 1, 2, 3] rfl rfl) ?_
  rintro ⟨at2, bs, l, j⟩ hinv
  replace hinv : (at2 < n ∧ l.getLast? = L0.getLast? ∧ bs.length = k) ∧ (j + l.length ≤ 10 ∧ ∀ b ∈ bs, b.flow ≤ 1000 + 1000 * (j : Int)) ∧ Aug pl bs p1 dl bl mm q at2 l := hinv
  dsimp only
  refine gw_seq (sr_ ?_)
  obtain ⟨⟨hat2, hlast, hbs⟩, ⟨hjl, hbsB⟩, hag⟩ := hinv
  obtain ⟨ob, hob⟩ : ∃ x, bl[at2]? = some x := ⟨_, List.getElem?_eq_getElem (by omega)⟩
  obtain rfl | ⟨kq, bq, rfl⟩ := by_cs ob
  ·have hlat2 := hag.way.ends hob
   have hrr : at2 = at1 := by
    rw [hlat2, hL0l] at hlast
    injection hlast
   subst hrr
   obtain ⟨hf3, hp3, hc3⟩ := hag.done hf hw hp1 hob hm0 (by rw [ez0]; exact hm2) (by rw [ey0]; omega)
   have eu := atL_less (m := mm) hz0
   have ev := atL_less (m := mm) hy0
   unfold lessF at eu ev
   rw [← eu] at hf3 hp3
   rw [← ev] at hf3
   rw [edq, ← hsmc] at hc3
   have hmes := lack_less hvl2 hf3.lk hy0 hm0
   refine mv_ rfl (mv_ rfl ?_)
   refine wl_ov (ov_index (j := at2) es107 rfl rfl (by omega)) rfl ?_
   refine fd_ fo111_0 rfl rfl ?_
   refine wl_ov (ov_elem1 (k := 0) (v := .int .i64 (-1)) sc3 rfl (fun _ hm => (hm.fact 0 rfl)) hob rfl rfl) rfl ?_
   refine wl_ov (ov_geq rfl rfl) rfl ?_
   refine wl_set 162 (v' := .bool false) rfl (congrArg Value.bool (by decide)) ?_
   refine nn_ (cf_ rfl ?_)
   refine gw_exit ?_
   refine nx_then_exit (nx_then_exit ?_)
   refine nx_blk_here ?_
   refine nx_blk_nrm ?_
   exact nx_round (bs, ul.set at2 (z0 - mm), vl.set q (y0 - mm), (sm + mm * dq)) ⟨⟨hbs, hsame.trans hag.same⟩, ⟨by rw [List.length_set]; exact hul, by rw [List.length_set]; exact hvl2⟩, hf3, ⟨_, hp3⟩, hc3.symm⟩ hmes ⟨rfl, rfl, rfl, rfl, trivial⟩ (fun _ hm => hm.pick [] [1, 2] [1, 2, 3] rfl rfl)
  obtain ⟨ar0, u, l1, har, hu1, hu2, hl1, hun, hag1⟩ := hag.step hf hw hcl hp1 hpd hm0 hob
  obtain ⟨ar1, har1, e1, e2, e3⟩ := hag.same.get har
  obtain ⟨f, t, cr, fl⟩ := ar1
  dsimp only at e1 e2 e3
  rw [e1] at hu1
  rw [e2] at hu2
  have hflB1 := hbsB _ (List.mem_of_getElem? har1)
  have hflp := hag.pos _ (List.mem_of_getElem? har1)
  dsimp only at hflB1 hflp
  have hkq : kq < k := by have := (List.getElem?_eq_some_iff.1 har1).1; omega
  have hlast2 : l1.getLast? = L0.getLast? := by rw [← hlast, hl1]; exact hag1.way.last.symm
  have hllt : l1.length < l.length := by rw [hl1, List.length_cons]; omega
  rw [addF_at har1] at hag1
  refine mv_ rfl (mv_ rfl ?_)
  refine wl_ov (ov_index (j := at2) es107 rfl rfl (by omega)) rfl ?_
  refine fd_ fo111_0 rfl rfl ?_
  refine wl_ov (ov_elem1 (k := 0) (v := .int .i64 ((kq : Nat) : Int)) sc3 rfl (fun _ hm => (hm.fact 0 rfl)) hob rfl rfl) rfl ?_
  refine wl_ov (ov_geq rfl rfl) rfl ?_
  refine wl_set 162 (v' := .bool true) rfl (congrArg Value.bool (decide_eq_true (by omega))) ?_
  refine nn_ (ct_ rfl (gw_skip (nx_then (gw_block (gw_seq ?_)))))
  refine gd (fun wz => (fun wy => SlT byEnc 2 111 wy (some ⟨bb, bo, none⟩) n bl) wz ∧ (BlkOld w.heap.size (some ga) gx 77 [.slice hA n hc, .slice wA n wc, .slice (some ⟨ga, 0, none⟩) k ac]) wz ∧ (SlOld naEnc 1 3 w.heap.size (some ga) hA n hL) wz ∧ (SlOld naEnc 1 3 w.heap.size (some ga) wA n wL) wz ∧ wz.ownsRow w.heap.size 3 1 (.slice (some ⟨zd, 0, none⟩) n dc) n (dl.flatMap naEnc) ∧ wz.ownsRow w.heap.size 3 1 (.slice (some ⟨gl, 0, none⟩) n lc) n ((ul.set at1 (z0 - mm)).flatMap naEnc) ∧ wz.ownsRow w.heap.size 3 1 (.slice (some ⟨gk, 0, none⟩) n kc) n ((vl.set q (y0 - mm)).flatMap naEnc) ∧ (RowK base 79 4 k ac ga ((bs).flatMap arEnc)) wz ∧ True) mixed (fun _ hm => ⟨hm.fa 0, hm.fa 1, hm.fa 2, hm.fa 3, hm.ownI 0 rfl, hm.ownI 1 rfl, hm.ownI 2 rfl, hm.k, trivial⟩) fun z => ?_
  refine wt 0 11 1 rfl z (ov_move rfl) ?_
  refine wt 1 11 3 rfl z (ov_nilcheck rfl) ?_
  refine wt 2 11 7 rfl z (ov_field fo77_2 rfl rfl) ?_
  refine wt 3 11 15 rfl z (ov_load (v := .slice (some ⟨ga, 0, none⟩) k ac) sc75 rfl (fun _ hm => (hm.2.1).2) rfl) ?_
  refine wt 4 11 31 rfl z (ov_move rfl) ?_
  refine wt 5 11 63 rfl z (ov_move rfl) ?_
  refine wt 6 11 127 rfl z (ov_index (j := at2) es107 rfl rfl (by omega)) ?_
  refine wt 7 11 255 rfl z (ov_field fo111_0 rfl rfl) ?_
  refine wt 8 11 511 rfl z (ov_elem1 (k := 0) (v := .int .i64 ((kq : Nat) : Int)) sc3 rfl (fun _ hm => (hm.1)) hob rfl rfl) ?_
  refine wt 9 11 1023 rfl z (ov_index (j := kq) es75 rfl rfl (by omega)) ?_
  refine wt 10 11 2047 rfl z (ov_assign rfl) ?_
  refine wa_done (by kernel_rfl) ?_
  refine nx_then (sr_ (mv_ rfl (mv_ rfl ?_)))
  refine wl_ov (ov_index (j := at2) es107 rfl rfl (by omega)) rfl ?_
  refine fd_ fo111_1 rfl rfl ?_
  refine wl_ov (ov_elem1 (k := 1) (v := .bool bq) sc4 rfl (fun _ hm => (hm.fact 0 rfl)) hob rfl rfl) rfl ?_
  refine nn_ ?_
  refine gw_cond rfl (fun hh => ?_) (fun hh => ?_)
  ·have hbq : bq = true := by simpa using hh
   clear hh
   refine sr_ ?_
   subst hbq
   have hu : t = u := (hu2 rfl).symm
   subst hu
   have hag2 : Aug pl (bs.set kq ⟨f, t, cr, (fl - mm)⟩) p1 dl bl mm q t l1 := hag1
   refine mv_ rfl (wl_ov (ov_nilcheck rfl) rfl (fd_ fo79_3 rfl rfl ?_))
   refine wl_ov (ov_elem1 (k := 3) (v := .int .i64 fl) sc3 rfl (fun _ hm => (RowK.get hm.k ar_len hbs)) har1 rfl rfl) rfl ?_
   refine mv_ rfl ?_
   refine wl_ov (ov_sub rfl rfl (by omega) (by omega)) rfl ?_
   refine wl_ov (ov_nilcheck rfl) rfl (fd_ fo79_3 rfl rfl ?_)
   refine wl_storeRow (l := bs) (j := kq) (r := 3) (el := ⟨f, t, cr, fl⟩) (el' := ⟨f, t, cr, (fl - mm)⟩) rfl sc3 rfl rfl rfl ar_len rfl har1 hbs (by decide) rfl rfl ?_
   have hset : (bs.set kq ⟨f, t, cr, (fl - mm)⟩)[kq]? = some ⟨f, t, cr, (fl - mm)⟩ := List.getElem?_set_self (by omega)
   have hbs2 : (bs.set kq ⟨f, t, cr, (fl - mm)⟩).length = k := by rw [List.length_set]; exact hbs
   refine nn_ (gw_region (mv_ rfl (wl_ov (ov_nilcheck rfl) rfl (fd_ fo79_1 rfl rfl ?_))))
   refine wl_ov (ov_elem1 (k := 1) (v := .int .i64 ((t : Nat) : Int)) sc3 rfl (fun _ hm => (RowK.get hm.k ar_len hbs2)) hset rfl rfl) rfl ?_
   refine sg_ rfl (wl_nil (nx_blk_nrm ?_))
   exact nx_round (t, bs.set kq ⟨f, t, cr, (fl - mm)⟩, l1, j + 1) ⟨⟨hun, hlast2, hbs2⟩, ⟨by dsimp only; omega, fun b hb => by
    rcases List.mem_or_eq_of_mem_set hb with hb | hb
    ·have := hbsB b hb; dsimp only; omega
    rw [hb]; dsimp only; omega⟩, hag2⟩ hllt ⟨rfl, rfl, rfl, rfl, rfl, rfl, rfl, trivial⟩ (fun _ hm => hm.pick [] [0, 1, 2] [0, 1, 2, 3] rfl rfl)
  have hbq : bq = false := by simpa using hh
  clear hh
  refine sr_ ?_
  subst hbq
  have hu : f = u := (hu1 rfl).symm
  subst hu
  have hag2 : Aug pl (bs.set kq ⟨f, t, cr, (fl + mm)⟩) p1 dl bl mm q f l1 := hag1
  refine mv_ rfl (wl_ov (ov_nilcheck rfl) rfl (fd_ fo79_3 rfl rfl ?_))
  refine wl_ov (ov_elem1 (k := 3) (v := .int .i64 fl) sc3 rfl (fun _ hm => (RowK.get hm.k ar_len hbs)) har1 rfl rfl) rfl ?_
  refine mv_ rfl (ad_ rfl rfl (wl_ov (ov_nilcheck rfl) rfl (fd_ fo79_3 rfl rfl ?_)))
  refine wl_storeRow (l := bs) (j := kq) (r := 3) (el := ⟨f, t, cr, fl⟩) (el' := ⟨f, t, cr, (fl + mm)⟩) rfl sc3 rfl rfl rfl ar_len rfl har1 hbs (by decide) rfl rfl ?_
  have hset : (bs.set kq ⟨f, t, cr, (fl + mm)⟩)[kq]? = some ⟨f, t, cr, (fl + mm)⟩ := List.getElem?_set_self (by omega)
  have hbs2 : (bs.set kq ⟨f, t, cr, (fl + mm)⟩).length = k := by rw [List.length_set]; exact hbs
  refine nn_ (gw_region (mv_ rfl (wl_ov (ov_nilcheck rfl) rfl (fd_ fo79_0 rfl rfl ?_))))
  refine wl_ov (ov_elem1 (k := 0) (v := .int .i64 ((f : Nat) : Int)) sc3 rfl (fun _ hm => (RowK.get hm.k ar_len hbs2)) hset rfl rfl) rfl ?_
  refine sg_ rfl (wl_nil (nx_blk_nrm ?_))
  exact nx_round (f, bs.set kq ⟨f, t, cr, (fl + mm)⟩, l1, j + 1) ⟨⟨hun, hlast2, hbs2⟩, ⟨by dsimp only; omega, fun b hb => by
   rcases List.mem_or_eq_of_mem_set hb with hb | hb
   ·have := hbsB b hb; dsimp only; omega
   rw [hb]; dsimp only; omega⟩, hag2⟩ hllt ⟨rfl, rfl, rfl, rfl, rfl, rfl, rfl, trivial⟩ (fun _ hm => hm.pick [] [0, 1, 2] [0, 1, 2, 3] rfl rfl)
 obtain ⟨ar0, u, l1, har, hu1, hu2, hl1, hfd1⟩ := hfd.step hw hob
 obtain ⟨f, t, cr, fl⟩ := ar0
 obtain ⟨⟨hfn, htn⟩, _, hcr⟩ := harc2 _ (List.mem_of_getElem? har)
 dsimp only at hfn htn hcr hu1 hu2
 have hkq : kq < k := by have := (List.getElem?_eq_some_iff.1 har).1; omega
 have hlast2 : l1.getLast? = L0.getLast? := by rw [← hlast, hl1]; exact hfd1.way.last.symm
 have hllt : l1.length < l.length := by rw [hl1, List.length_cons]; omega
 refine mv_ rfl (mv_ rfl ?_)
 refine wl_ov (ov_index (j := at1) es107 rfl rfl (by omega)) rfl ?_
 refine fd_ fo111_0 rfl rfl ?_
 refine wl_ov (ov_elem1 (k := 0) (v := .int .i64 ((kq : Nat) : Int)) sc3 rfl (fun _ hm => (hm.fact 0 rfl)) hob rfl rfl) rfl ?_
 refine wl_ov (ov_geq rfl rfl) rfl ?_
 refine wl_set 103 (v' := .bool true) rfl (congrArg Value.bool (decide_eq_true (by omega))) ?_
 refine nn_ (ct_ rfl (gw_skip (nx_then (gw_block (gw_seq ?_)))))
 refine gd (fun wz => (fun wy => SlT byEnc 2 111 wy (some ⟨bb, bo, none⟩) n bl) wz ∧ (BlkOld w.heap.size (some ga) gx 77 [.slice hA n hc, .slice wA n wc, .slice (some ⟨ga, 0, none⟩) k ac]) wz ∧ (SlOld naEnc 1 3 w.heap.size (some ga) hA n hL) wz ∧ (SlOld naEnc 1 3 w.heap.size (some ga) wA n wL) wz ∧ wz.ownsRow w.heap.size 3 1 (.slice (some ⟨zd, 0, none⟩) n dc) n (dl.flatMap naEnc) ∧ wz.ownsRow w.heap.size 3 1 (.slice (some ⟨gl, 0, none⟩) n lc) n (ul.flatMap naEnc) ∧ wz.ownsRow w.heap.size 3 1 (.slice (some ⟨gk, 0, none⟩) n kc) n (vl.flatMap naEnc) ∧ (RowK base 79 4 k ac ga ((pl).flatMap arEnc)) wz ∧ True) mixed (fun _ hm => ⟨hm.fa 0, hm.fa 1, hm.fa 2, hm.fa 3, hm.ownI 0 rfl, hm.ownI 1 rfl, hm.ownI 2 rfl, hm.k, trivial⟩) fun z => ?_
 refine wt 0 13 1 rfl z (ov_move rfl) ?_
 refine wt 1 13 3 rfl z (ov_nilcheck rfl) ?_
 refine wt 2 13 7 rfl z (ov_field fo77_2 rfl rfl) ?_
 refine wt 3 13 15 rfl z (ov_load (v := .slice (some ⟨ga, 0, none⟩) k ac) sc75 rfl (fun _ hm => (hm.2.1).2) rfl) ?_
 refine wt 4 13 31 rfl z (ov_move rfl) ?_
 refine wt 5 13 63 rfl z (ov_move rfl) ?_
 refine wt 6 13 127 rfl z (ov_index (j := at1) es107 rfl rfl (by omega)) ?_
 refine wt 7 13 255 rfl z (ov_field fo111_0 rfl rfl) ?_
 refine wt 8 13 511 rfl z (ov_elem1 (k := 0) (v := .int .i64 ((kq : Nat) : Int)) sc3 rfl (fun _ hm => (hm.1)) hob rfl rfl) ?_
 refine wt 9 13 1023 rfl z (ov_index (j := kq) es75 rfl rfl (by omega)) ?_
 refine wt 10 13 2047 rfl z (ov_elem (vs := [.int .i64 ((f : Nat) : Int), .int .i64 ((t : Nat) : Int), .int .i64 cr, .int .i64 fl]) rz79 rfl (fun _ hm => (RowK.get (hm.2.2.2.2.2.2.2.1) ar_len hpl)) har rfl rfl) ?_
 refine wa1 11 rfl ?_
 refine wl_alloc zc79 rfl fun g6 => ?_
 refine wl_nil ?_
 refine nw 13 4095 (fun _ hm => ⟨hm.fa 0, hm.fa 1, hm.fa 2, hm.fa 3, hm.ownI 0 rfl, hm.ownI 1 rfl, hm.ownI 2 rfl, hm.k, trivial⟩) fun z => ?_
 refine wa1 12 rfl ?_
 refine wl_stores (cs' := [.int .i64 ((f : Nat) : Int), .int .i64 ((t : Nat) : Int), .int .i64 cr, .int .i64 fl]) 0 rz79 rfl rfl rfl rfl rfl rfl rfl rfl ?_
 refine wl_nil ?_
 refine nw 13 8191 (fun _ hm => ⟨hm.fa 0, hm.fa 1, hm.fa 2, hm.fa 3, hm.ownI 0 rfl, hm.ownI 1 rfl, hm.ownI 2 rfl, hm.k, trivial⟩) fun z => ?_
 refine wa_done (by kernel_rfl) ?_
 refine nx_then (sr_ (mv_ rfl (mv_ rfl ?_)))
 refine wl_ov (ov_index (j := at1) es107 rfl rfl (by omega)) rfl ?_
 refine fd_ fo111_1 rfl rfl ?_
 refine wl_ov (ov_elem1 (k := 1) (v := .bool bq) sc4 rfl (fun _ hm => (hm.fact 0 rfl)) hob rfl rfl) rfl ?_
 refine nn_ ?_
 refine gw_cond rfl (fun hh => ?_) (fun hh => ?_)
 ·have hbq : bq = true := by simpa using hh
  clear hh
  subst hbq
  have hu : t = u := (hu2 rfl).symm
  subst hu
  have hfd2 : Fnd pl bl dl L0 y0 (min mn fl) t l1 := hfd1
  refine gd (fun wz => Blk wz g6 79 [.int .i64 ((f : Nat) : Int), .int .i64 ((t : Nat) : Int), .int .i64 cr, .int .i64 fl] ∧ (fun wy => SlT byEnc 2 111 wy (some ⟨bb, bo, none⟩) n bl) wz ∧ (BlkOld w.heap.size (some ga) gx 77 [.slice hA n hc, .slice wA n wc, .slice (some ⟨ga, 0, none⟩) k ac]) wz ∧ (SlOld naEnc 1 3 w.heap.size (some ga) hA n hL) wz ∧ (SlOld naEnc 1 3 w.heap.size (some ga) wA n wL) wz ∧ wz.ownsRow w.heap.size 3 1 (.slice (some ⟨zd, 0, none⟩) n dc) n (dl.flatMap naEnc) ∧ wz.ownsRow w.heap.size 3 1 (.slice (some ⟨gl, 0, none⟩) n lc) n (ul.flatMap naEnc) ∧ wz.ownsRow w.heap.size 3 1 (.slice (some ⟨gk, 0, none⟩) n kc) n (vl.flatMap naEnc) ∧ (RowK base 79 4 k ac ga ((pl).flatMap arEnc)) wz ∧ True) mixed (fun _ hm => ⟨hm.bl 0, hm.fa 0, hm.fa 1, hm.fa 2, hm.fa 3, hm.ownI 0 rfl, hm.ownI 1 rfl, hm.ownI 2 rfl, hm.k, trivial⟩) fun z => ?_
  refine wt 0 8 1 rfl z (ov_move rfl) ?_
  refine wt 1 8 3 rfl z (ov_field fo79_3 rfl rfl) ?_
  refine wt 2 8 7 rfl z (ov_load sc3 rfl (fun _ hm => hm.1) rfl) ?_
  refine wt 3 8 15 rfl z (ov_min rfl rfl) ?_
  refine wt 4 8 31 rfl z (ov_field fo79_1 rfl rfl) ?_
  refine wt 5 8 63 rfl z (ov_load sc3 rfl (fun _ hm => hm.1) rfl) ?_
  refine wt 6 8 127 rfl z (ov_assign rfl) ?_
  refine wt 7 8 255 rfl z (ov_assign rfl) ?_
  refine wa_done (by kernel_rfl) ?_
  refine nx_blk_nrm ?_
  exact nx_round (t, (min mn fl), l1) ⟨⟨htn, hlast2⟩, hfd2⟩ hllt ⟨rfl, rfl, rfl, rfl, rfl, rfl, rfl, rfl, rfl, trivial⟩ (fun _ hm => hm.pick [] [0, 1, 2] [0, 1, 2, 3] rfl rfl)
 have hbq : bq = false := by simpa using hh
 clear hh
 refine gw_region ?_
 subst hbq
 have hu : f = u := (hu1 rfl).symm
 subst hu
 have hfd2 : Fnd pl bl dl L0 y0 mn f l1 := hfd1
 refine fd_ fo79_0 rfl rfl (lk_ sc3 0 rfl rfl rfl (sg_ rfl (wl_nil (nx_blk_nrm ?_))))
 exact nx_round (f, mn, l1) ⟨⟨hfn, hlast2⟩, hfd2⟩ hllt ⟨rfl, rfl, rfl, rfl, rfl, rfl, rfl, rfl, rfl, trivial⟩ (fun _ hm => hm.pick [] [0, 1, 2] [0, 1, 2, 3] rfl rfl)
theorem solve_nil (hL wL : List Int) (P : Nat → Bool) (gx : Nat) (hA wA : Option Addr) (n hc wc : Nat) (w : World) (hx : Blk w gx 77 [.slice hA n hc, .slice wA n wc, .slice none 0 0]) (hh : SlT naEnc 1 3 w hA n hL) (hv : SlT naEnc 1 3 w wA n wL) (hsr : ∀ i, P i = true → atL wL i = 0) (hsk : ∀ i, P i = false → atL hL i = 0) (hhB : ∀ i, 0 ≤ atL hL i ∧ atL hL i ≤ 1000) (hwB : ∀ i, 0 ≤ atL wL i ∧ atL wL i ≤ 1000) (hn0 : 0 < n) (hn : n ≤ 10) :
  Calls Try.prog 16 #[.pointer (some ⟨gx, 0, none⟩)] w (fun e w' => ∃ (r : Int) (ok : Bool), e = .returned (.tuple #[.int .i64 r, .bool ok]) ∧ Solves n (atL hL) (atL wL) [] r ok ∧ w.grownBy w' none) := by
 have harc : ∀ a ∈ ([] : List Arc), (a.fr < n ∧ a.to_ < n) ∧ (P a.fr = true ∧ P a.to_ = false) ∧ 0 ≤ a.car ∧ a.car ≤ 1000000 := fun _ h => by cases h
 refine gw_enter ⟨202, w, none, [111]⟩ Try.func16 rfl Try.ntmps16 rfl (mem0 (X := [BlkOld w.heap.size none gx 77 [.slice hA n hc, .slice wA n wc, .slice none 0 0], SlOld naEnc 1 3 w.heap.size none hA n hL, SlOld naEnc 1 3 w.heap.size none wA n wL]) (allF_cons (hx.old) (allF_cons (hh.old) (allF_cons (hv.old) allF_nil))) (allL_cons BlkOld.lasts (allL_cons SlOld.lasts (allL_cons SlOld.lasts allL_nil)))) ?_
 refine sr_ ?_
 have hhl := hh.len
 have hvl := hv.len
 have hfar : farI = 1125899906842624 := rfl
 refine sg_ rfl (sg_ rfl (nn_ (gw_seq ?_)))
 refine gd (fun wz => (BlkOld w.heap.size none gx 77 [.slice hA n hc, .slice wA n wc, .slice none 0 0]) wz ∧ (SlOld naEnc 1 3 w.heap.size none hA n hL) wz ∧ (SlOld naEnc 1 3 w.heap.size none wA n wL) wz ∧ True) mixed (fun _ hm => ⟨hm.fa 0, hm.fa 1, hm.fa 2, trivial⟩) fun z => ?_
 refine wt 0 12 1 rfl z (ov_move rfl) ?_
 refine wt 1 12 3 rfl z (ov_nilcheck rfl) ?_
 refine wt 2 12 7 rfl z (ov_field fo77_0 rfl rfl) ?_
 refine wt 3 12 15 rfl z (ov_load (v := .slice hA n hc) sc22 rfl (fun _ hm => (hm.1).2) rfl) ?_
 refine wt 5 12 47 rfl z (ov_move rfl) ?_
 refine wt 6 12 111 rfl z (ov_nilcheck rfl) ?_
 refine wt 7 12 239 rfl z (ov_field fo77_1 rfl rfl) ?_
 refine wt 8 12 495 rfl z (ov_load (v := .slice wA n wc) sc22 rfl (fun _ hm => (hm.1).2) rfl) ?_
 refine wa1 4 rfl ?_
 refine wl_callgo (γ := Option Addr × Nat) (val := (fun g => .slice g.1 n g.2)) (φ := (fun g => True)) (fun g => ⟨.slice g.1 n g.2, 3, 1, n, hL.flatMap naEnc⟩) rfl cb36 rfl rfl (fun wx hm => (cloneInts_any hL hA n hc wx (hm.fact 1 rfl).1 (by omega)).mono fun _ _ ⟨A, c, he, ho, hg⟩ => ⟨(A, c), he, trivial, ho, hg⟩) ?_
 rintro ⟨lA, lc⟩ hphi
 dsimp only at hphi ⊢
 refine wl_nil ?_
 refine nw 12 511 (fun _ hm => ⟨hm.fa 0, hm.fa 1, hm.fa 2, trivial⟩) fun z => ?_
 refine wa1 9 rfl ?_
 refine wl_callgo (γ := Option Addr × Nat) (val := (fun g => .slice g.1 n g.2)) (φ := (fun g => True)) (fun g => ⟨.slice g.1 n g.2, 3, 1, n, wL.flatMap naEnc⟩) rfl cb36 rfl rfl (fun wx hm => (cloneInts_any wL wA n wc wx (hm.fact 2 rfl).1 (by omega)).mono fun _ _ ⟨A, c, he, ho, hg⟩ => ⟨(A, c), he, trivial, ho, hg⟩) ?_
 rintro ⟨kA, kc⟩ hphi
 dsimp only at hphi ⊢
 refine wl_nil ?_
 refine nw 12 1023 (fun _ hm => ⟨hm.fa 0, hm.fa 1, hm.fa 2, trivial⟩) fun z => ?_
 refine wt 10 12 2047 rfl z (ov_assign rfl) ?_
 refine wt 11 12 4095 rfl z (ov_assign rfl) ?_
 refine wa_done (by kernel_rfl) ?_
 refine nx_then (gw_seq (sr_ (mv_ rfl (wl_ov (ov_nilcheck rfl) rfl (fd_ fo77_2 rfl rfl ?_)))))
 refine wl_ov (ov_load (v := .slice none 0 0) sc75 rfl (fun _ hm => (hm.fact 0 rfl).2) rfl) rfl ?_
 refine wl_ov (ov_len es75 rfl) rfl ?_
 refine wl_set 32 (v' := .int .i64 0) rfl rfl ?_
 refine mv_ rfl (nn_ (gw_block ?_))
 refine gw_look (R := ∃ g, lA = some ⟨g, 0, none⟩) (fun wx hm => own_addr (hm.ownI 1 rfl) (by omega)) ?_
 rintro ⟨gl, rfl⟩
 refine gw_look (R := ∃ g, kA = some ⟨g, 0, none⟩) (fun wx hm => own_addr (hm.ownI 0 rfl) (by omega)) ?_
 rintro ⟨gk, rfl⟩
 refine gw_loop (γ := Nat) (fun (i : Nat) => i ≤ 0) (fun (i : Nat) => [(0, .pointer (some ⟨gx, 0, none⟩)), (2, .int .i64 0), (3, .bool false), (4, .slice (some ⟨gl, 0, none⟩) n lc), (5, .slice (some ⟨gk, 0, none⟩) n kc), (32, .int .i64 0), (33, .int .i64 ((i : Nat) : Int))]) (fun (i : Nat) => fun _ => True) (fun (i : Nat) => []) (fun (i : Nat) => [⟨.slice (some ⟨gk, 0, none⟩) n kc, 3, 1, n, wL.flatMap naEnc⟩, ⟨.slice (some ⟨gl, 0, none⟩) n lc, 3, 1, n, hL.flatMap naEnc⟩]) (fun (i : Nat) => [BlkOld w.heap.size none gx 77 [.slice hA n hc, .slice wA n wc, .slice none 0 0], SlOld naEnc 1 3 w.heap.size none hA n hL, SlOld naEnc 1 3 w.heap.size none wA n wL]) (fun (i : Nat) => 0 - i) 0 (Nat.le_refl _) ⟨rfl, rfl, rfl, rfl, rfl, rfl, rfl, trivial⟩ (fun _ hm => hm.pick [] [0, 1] [0, 1, 2] rfl rfl) ?_
 intro i hinv
 replace hinv : i ≤ 0 := hinv
 refine sr_ ?_
 have hq0 : SameA ([] : List Arc) [] := trivial
 have hz0 : ∀ a ∈ ([] : List Arc), a.flow = 0 := fun _ h => by cases h
 have harc1 := hq0.all (p := fun i j c => (i < n ∧ j < n) ∧ (P i = true ∧ P j = false) ∧ 0 ≤ c ∧ c ≤ 1000000) harc
 obtain ⟨hf0, hp0⟩ := Flw.zero (n := n) (M := 1000000) (P := P) (have_ := atL hL) (want := atL wL) harc1 hz0 hsr hsk (fun i => (hhB i).1) (fun i => (hwB i).1)
 have ho0 : ∀ i, i < n → atF Arc.fr [] i ≤ 0 := fun i _ => by have h2 := hf0.out i; omega
 have hc0 : costF [] = 0 := by
  have h1 := cost_bound (H := 0) (hv := fun _ => 0) (n := n) (M := 1000000) (fun a ha => (harc1 a ha).1.1) (fun a ha => (harc1 a ha).2.2) (fun a ha => by rw [hz0 a ha]; exact Int.le_refl _) (by decide) ho0 (fun _ _ => Int.le_refl _)
  omega
 refine wl_ov (ov_lss rfl rfl) rfl ?_
 refine wl_set 34 (v' := .bool false) rfl (congrArg Value.bool (decide_eq_false (by omega))) ?_
 refine nn_ (gw_seq (cf_ rfl ?_))
 refine gw_exit ?_
 refine nx_then_exit (nx_then_exit ?_)
 refine nx_blk_here ?_
 refine nx_then (sr_ (sg_ rfl (nn_ (gw_block ?_))))
 refine gw_loop (γ := List Int × List Int × Int) (fun gg => (gg.1.length = n ∧ gg.2.1.length = n) ∧ Flw n 1000000 P (atL hL) (atL wL) (atL gg.1) (atL gg.2.1) [] ∧ (∃ p, Pot [] (atL gg.1) p) ∧ gg.2.2 = costF []) (fun gg => [(0, .pointer (some ⟨gx, 0, none⟩)), (4, .slice (some ⟨gl, 0, none⟩) n lc), (5, .slice (some ⟨gk, 0, none⟩) n kc), (7, .int .i64 gg.2.2)]) (fun gg => fun _ => True) (fun gg => []) (fun gg => [⟨.slice (some ⟨gl, 0, none⟩) n lc, 3, 1, n, gg.1.flatMap naEnc⟩, ⟨.slice (some ⟨gk, 0, none⟩) n kc, 3, 1, n, gg.2.1.flatMap naEnc⟩]) (fun gg => [BlkOld w.heap.size none gx 77 [.slice hA n hc, .slice wA n wc, .slice none 0 0], SlOld naEnc 1 3 w.heap.size none hA n hL, SlOld naEnc 1 3 w.heap.size none wA n wL]) (fun gg => (sumN n (atL gg.2.1)).toNat) (hL, wL, 0) ⟨⟨hhl, hvl⟩, hf0, ⟨_, hp0⟩, hc0.symm⟩ ⟨rfl, rfl, rfl, rfl, trivial⟩ (fun _ hm => hm.pick [] [1, 0] [0, 1, 2] rfl rfl) ?_
 rintro ⟨ul, vl, sm⟩ hinv
 replace hinv : (ul.length = n ∧ vl.length = n) ∧ Flw n 1000000 P (atL hL) (atL wL) (atL ul) (atL vl) [] ∧ (∃ p, Pot [] (atL ul) p) ∧ sm = costF [] := hinv
 dsimp only
 refine gw_block (sr_ ?_)
 obtain ⟨⟨hul, hvl2⟩, hf, ⟨p, hp⟩, hsmc⟩ := hinv
 have hsame : SameA ([] : List Arc) [] := trivial
 have harc2 := hf.arc
 obtain ⟨hflB, hulB, hvlB⟩ := hf.bounds (H := 1000) (fun i => (hhB i).2) (fun i => (hwB i).2)
 have hcar2 : ∀ a ∈ ([] : List Arc), 0 ≤ a.car ∧ a.car ≤ 1000000 := fun a ha => (harc2 a ha).2.2
 have hsmB := cost_bound (H := 1000) (fun a ha => (harc2 a ha).1.1) hcar2 hf.pos (by decide) (fun i _ => by have h1 := hf.out i; have h2 := hf.lf i; show atF Arc.fr ([] : List Arc) i ≤ atL hL i; omega) (fun i _ => (hhB i).2)
 rw [← hsmc] at hsmB
 refine mv_ rfl (mv_ rfl ?_)
 refine wl_callgox (γ := Option Addr × Nat × Option Addr × Nat × List Int × List ByK) (val := fun g => .tuple #[.slice g.1 n g.2.1, .slice g.2.2.1 n g.2.2.2.1]) (φ := fun g => Ways [] (atL ul) n p g.2.2.2.2.1 g.2.2.2.2.2 ∧ Closed2 [] g.2.2.2.2.1 ∧ g.2.2.2.2.1.length = n ∧ g.2.2.2.2.2.length = n) (Y := fun g wy => SlT byEnc 2 111 wy g.2.2.1 n g.2.2.2.2.2) (fun g => ⟨.slice g.1 n g.2.1, 3, 1, n, g.2.2.2.2.1.flatMap naEnc⟩) rfl cb37 rfl rfl (fun wx hm => (ways_any [] ul p gx hA wA none (some ⟨gl, 0, none⟩) n hc wc 0 0 lc wx (hm.fact 0 rfl).2 (SlT.nil_ _ _) (SlT.ofOwn na_len (hm.ownI 0 rfl) hul) hp (fun a ha => ⟨(harc2 a ha).1, (hcar2 a ha).1, (hcar2 a ha).2, hf.pos a ha⟩) hn (by omega)).mono fun _ _ ⟨dA, dc, bA, bc, dl, bl, he, hw, ho, hb, hg⟩ => ⟨(dA, dc, bA, bc, dl, bl), he, hw, ho, hg, hb⟩) (fun _ => SlT.lasts2 rfl) ?_
 rintro ⟨dA, dc, bA, bc, dl, bl⟩ hws
 dsimp only at hws ⊢
 obtain ⟨hw, hcl, hdl, hbl⟩ := hws
 refine wl_look (R := ∃ g, dA = some ⟨g, 0, none⟩) (fun wx hm => own_addr (hm.ownI 0 rfl) (by omega)) ?_
 rintro ⟨zd, rfl⟩
 refine wl_look (R := ∃ b o, bA = some ⟨b, o, none⟩) (fun wx hm => by obtain ⟨b, off, hA, _, _⟩ := SlT.get (hm.fact 0 rfl) (by omega); exact ⟨b, off, hA⟩) ?_
 rintro ⟨bb, bo, rfl⟩
 refine mv_ rfl (wl_ov (ov_extract rfl rfl) rfl (wl_ov (ov_extract rfl rfl) rfl (sg_ rfl (sg_ rfl (nn_ (sr_ (sg_ rfl ?_)))))))
 refine wl_set 10 (v' := .int .i64 (-1)) rfl rfl ?_
 refine sg_ rfl (nn_ (gw_seq (sr_ (mv_ rfl (wl_ov (ov_len es22 rfl) rfl (mv_ rfl (nn_ (gw_block ?_))))))))
 refine gw_loop (γ := Nat × Bool × Option Nat) (fun gg => gg.1 ≤ n ∧ Pick1 vl dl gg.1 gg.2.1 gg.2.2) (fun gg => [(0, .pointer (some ⟨gx, 0, none⟩)), (4, .slice (some ⟨gl, 0, none⟩) n lc), (5, .slice (some ⟨gk, 0, none⟩) n kc), (7, .int .i64 sm), (8, .slice (some ⟨zd, 0, none⟩) n dc), (9, .slice (some ⟨bb, bo, none⟩) n bc), (10, .int .i64 (toI gg.2.2)), (11, .bool gg.2.1), (50, .slice (some ⟨gk, 0, none⟩) n kc), (51, .int .i64 ((n : Nat) : Int)), (52, .int .i64 ((gg.1 : Nat) : Int))]) (fun gg => fun _ => True) (fun gg => []) (fun gg => [⟨.slice (some ⟨zd, 0, none⟩) n dc, 3, 1, n, dl.flatMap naEnc⟩, ⟨.slice (some ⟨gl, 0, none⟩) n lc, 3, 1, n, ul.flatMap naEnc⟩, ⟨.slice (some ⟨gk, 0, none⟩) n kc, 3, 1, n, vl.flatMap naEnc⟩]) (fun gg => [fun wy => SlT byEnc 2 111 wy (some ⟨bb, bo, none⟩) n bl, BlkOld w.heap.size none gx 77 [.slice hA n hc, .slice wA n wc, .slice none 0 0], SlOld naEnc 1 3 w.heap.size none hA n hL, SlOld naEnc 1 3 w.heap.size none wA n wL]) (fun gg => n - gg.1) (0, false, none) ⟨Nat.zero_le _, Pick1.zero⟩ ⟨rfl, rfl, rfl, rfl, rfl, rfl, rfl, rfl, rfl, rfl, rfl, trivial⟩ (fun _ hm => hm.pick [] [0, 1, 2] [0, 1, 2, 3] rfl rfl) ?_
 rintro ⟨i, wa, tq⟩ hinv
 replace hinv : i ≤ n ∧ Pick1 vl dl i wa tq := hinv
 dsimp only
 refine sr_ ?_
 obtain ⟨hi0, hpk⟩ := hinv
 refine wl_ov (ov_lss rfl rfl) rfl (nn_ (gw_seq ?_))
 refine gw_cond rfl (fun hh => ?_) (fun hh => ?_)
 ·have hi : ((i : Nat) : Int) < ((n : Nat) : Int) := by simpa using hh
  clear hh
  refine gw_skip (nx_then (gw_seq (gw_block (sr_ ?_))))
  obtain ⟨y, hy⟩ : ∃ x, vl[i]? = some x := ⟨_, List.getElem?_eq_getElem (by omega)⟩
  obtain ⟨di, hdi⟩ : ∃ x, dl[i]? = some x := ⟨_, List.getElem?_eq_getElem (by omega)⟩
  have edi := dAt_get hdi
  refine mv_ rfl ?_
  refine wl_ov (ov_index (j := i) es22 rfl rfl (by omega)) rfl ?_
  refine wl_ov (ov_elem1 (k := 0) (v := .int .i64 y) sc3 rfl (fun _ hm => (SlT.ofOwn na_len (hm.ownI 2 rfl) hvl2)) hy rfl rfl) rfl ?_
  refine sg_ rfl (sg_ rfl (nn_ ?_))
  refine gw_cut (γ := Bool) (I := (fun (wb : Bool) => wb = (wa || decide (0 < y)))) (S' := (fun (wb : Bool) => [(0, .pointer (some ⟨gx, 0, none⟩)), (4, .slice (some ⟨gl, 0, none⟩) n lc), (5, .slice (some ⟨gk, 0, none⟩) n kc), (7, .int .i64 sm), (8, .slice (some ⟨zd, 0, none⟩) n dc), (9, .slice (some ⟨bb, bo, none⟩) n bc), (10, .int .i64 (toI tq)), (11, .bool wb), (12, .int .i64 ((i : Nat) : Int)), (13, .int .i64 y), (50, .slice (some ⟨gk, 0, none⟩) n kc), (51, .int .i64 ((n : Nat) : Int)), (52, .int .i64 ((i : Nat) : Int))])) (K' := (fun (wb : Bool) => fun _ => True)) (L' := (fun (wb : Bool) => [])) (O' := (fun (wb : Bool) => [⟨.slice (some ⟨zd, 0, none⟩) n dc, 3, 1, n, dl.flatMap naEnc⟩, ⟨.slice (some ⟨gl, 0, none⟩) n lc, 3, 1, n, ul.flatMap naEnc⟩, ⟨.slice (some ⟨gk, 0, none⟩) n kc, 3, 1, n, vl.flatMap naEnc⟩])) (X' := (fun (wb : Bool) => [fun wy => SlT byEnc 2 111 wy (some ⟨bb, bo, none⟩) n bl, BlkOld w.heap.size none gx 77 [.slice hA n hc, .slice wA n wc, .slice none 0 0], SlOld naEnc 1 3 w.heap.size none hA n hL, SlOld naEnc 1 3 w.heap.size none wA n wL])) ?_ ?_
  ·refine gw_region (mv_ rfl (mv_ rfl ?_))
   rcases Bool.eq_false_or_eq_true wa with hwa | hwa
   ·refine wl_set 58 rfl (congrArg Value.bool hwa) ?_
    refine goff rfl rfl rfl (goff rfl rfl rfl (pt_ rfl rfl (sg_ rfl (wl_nil ?_))))
    exact nx_meet true (by rw [hwa]; rfl) ⟨rfl, rfl, rfl, rfl, rfl, rfl, rfl, rfl, rfl, rfl, rfl, rfl, rfl, trivial⟩ (fun _ hm => hm.pick [] [0, 1, 2] [0, 1, 2, 3] rfl rfl)
   refine wl_set 58 rfl (congrArg Value.bool hwa) ?_
   refine wl_guard_on rfl rfl rfl (mv_ rfl (wl_guard_on rfl rfl rfl ?_))
   refine wl_ov (ov_gtr rfl rfl) rfl ?_
   refine pf_ rfl rfl (sg_ rfl (wl_nil ?_))
   exact nx_meet (decide (0 < y)) (by rw [hwa]; rfl) ⟨rfl, rfl, rfl, rfl, rfl, rfl, rfl, rfl, rfl, rfl, rfl, rfl, rfl, trivial⟩ (fun _ hm => hm.pick [] [0, 1, 2] [0, 1, 2, 3] rfl rfl)
  intro wb hinv
  replace hinv : wb = (wa || decide (0 < y)) := hinv
  refine gw_seq ?_
  rcases tq with _ | q
  ·refine gw_set 10 (v' := .int .i64 (-1)) rfl rfl ?_
   refine gd (fun wz => (fun wy => SlT byEnc 2 111 wy (some ⟨bb, bo, none⟩) n bl) wz ∧ (BlkOld w.heap.size none gx 77 [.slice hA n hc, .slice wA n wc, .slice none 0 0]) wz ∧ (SlOld naEnc 1 3 w.heap.size none hA n hL) wz ∧ (SlOld naEnc 1 3 w.heap.size none wA n wL) wz ∧ wz.ownsRow w.heap.size 3 1 (.slice (some ⟨zd, 0, none⟩) n dc) n (dl.flatMap naEnc) ∧ wz.ownsRow w.heap.size 3 1 (.slice (some ⟨gl, 0, none⟩) n lc) n (ul.flatMap naEnc) ∧ wz.ownsRow w.heap.size 3 1 (.slice (some ⟨gk, 0, none⟩) n kc) n (vl.flatMap naEnc) ∧ True) mixed (fun _ hm => ⟨hm.fa 0, hm.fa 1, hm.fa 2, hm.fa 3, hm.ownI 0 rfl, hm.ownI 1 rfl, hm.ownI 2 rfl, trivial⟩) fun z => ?_
   refine wt 0 24 1 rfl z (ov_move rfl) ?_
   refine wt 1 24 3 rfl z (ov_gtr rfl rfl) ?_
   refine wt 2 24 7 rfl z (ov_move rfl) ?_
   rcases Bool.eq_false_or_eq_true (decide (0 < y)) with hg1 | hg1
   ·refine wa_set 64 rfl (congrArg Value.bool hg1) ?_
    replace hg1 := of_decide_eq_true hg1
    refine wto 3 24 15 rfl rfl rfl z (ov_move rfl) ?_
    refine wto 4 24 31 rfl rfl rfl z (ov_move rfl) ?_
    refine wto 5 24 63 rfl rfl rfl z (ov_index (j := i) es22 rfl rfl (by omega)) ?_
    refine wto 6 24 127 rfl rfl rfl z (ov_elem1 (k := 0) (v := .int .i64 di) sc3 rfl (fun _ hm => (SlT.ofOwn na_len (hm.2.2.2.2.1) hdl)) hdi rfl rfl) ?_
    refine wto 7 24 255 rfl rfl rfl z (ov_lss rfl rfl) ?_
    refine wt 8 24 511 rfl z (ov_pick_t rfl rfl) ?_
    refine wt 9 24 1023 rfl z (ov_move rfl) ?_
    rcases Bool.eq_false_or_eq_true (decide (di < 1125899906842624)) with hg2 | hg2
    ·refine wa_set 71 rfl (congrArg Value.bool hg2) ?_
     replace hg2 := of_decide_eq_true hg2
     refine wto 10 24 2047 rfl rfl rfl z (ov_move rfl) ?_
     refine wto 11 24 4095 rfl rfl rfl z (ov_lss rfl rfl) ?_
     refine wa_set 73 (v' := .bool true) rfl (congrArg Value.bool (by decide)) ?_
     refine wto 12 24 8191 rfl rfl rfl z (ov_move rfl) ?_
     refine wtf 13 24 16383 rfl rfl rfl z ?_
     refine wtf 14 24 32767 rfl rfl rfl z ?_
     refine wtf 15 24 65535 rfl rfl rfl z ?_
     refine wtf 16 24 131071 rfl rfl rfl z ?_
     refine wtf 17 24 262143 rfl rfl rfl z ?_
     refine wtf 18 24 524287 rfl rfl rfl z ?_
     refine wtf 19 24 1048575 rfl rfl rfl z ?_
     refine wtf 20 24 2097151 rfl rfl rfl z ?_
     refine wtf 21 24 4194303 rfl rfl rfl z ?_
     refine wto 22 24 8388607 rfl rfl rfl z (ov_pick_t rfl rfl) ?_
     refine wt 23 24 16777215 rfl z (ov_pick_t rfl rfl) ?_
     refine wa_done (by kernel_rfl) ?_
     refine nx_then (ct_ rfl (gw_region (mv_ rfl (sg_ rfl (wl_nil (nx_blk_nrm (nx_then (gw_region (ad_ rfl rfl (mv_ rfl (wl_nil ?_)))))))))))
     have hnx : Pick1 vl dl (i + 1) wb (some i) := hpk.next hy hinv (.inr ⟨rfl, by first | assumption | omega | simp_all, by rw [edi, hfar]; first | assumption | omega | simp_all⟩)
     exact nx_round (i + 1, wb, some i) ⟨by dsimp only; omega, hnx⟩ (by dsimp only; omega) ⟨rfl, rfl, rfl, rfl, rfl, rfl, rfl, rfl, rfl, rfl, (some_int (by omega)), trivial⟩ (fun _ hm => hm.pick [] [0, 1, 2] [0, 1, 2, 3] rfl rfl)
    refine wa_set 71 rfl (congrArg Value.bool hg2) ?_
    replace hg2 := of_decide_eq_false hg2
    refine wtf 10 24 2047 rfl rfl rfl z ?_
    refine wtf 11 24 4095 rfl rfl rfl z ?_
    refine wtf 12 24 8191 rfl rfl rfl z ?_
    refine wtu 13 24 16383 rfl rfl rfl z ?_
    refine wtu 14 24 32767 rfl rfl rfl z ?_
    refine wtu 15 24 65535 rfl rfl rfl z ?_
    refine wtu 16 24 131071 rfl rfl rfl z ?_
    refine wtu 17 24 262143 rfl rfl rfl z ?_
    refine wtu 18 24 524287 rfl rfl rfl z ?_
    refine wtu 19 24 1048575 rfl rfl rfl z ?_
    refine wtu 20 24 2097151 rfl rfl rfl z ?_
    refine wtu 21 24 4194303 rfl rfl rfl z ?_
    refine wtf 22 24 8388607 rfl rfl rfl z ?_
    refine wt 23 24 16777215 rfl z (ov_pick_f rfl rfl) ?_
    refine wa_done (by kernel_rfl) ?_
    refine nx_then (cf_ rfl (gw_skip (nx_blk_nrm (nx_then (gw_region (ad_ rfl rfl (mv_ rfl (wl_nil ?_))))))))
    have hnx : Pick1 vl dl (i + 1) wb (none) := hpk.next hy hinv (.inl ⟨rfl, fun h8 h9 h7 => by
     rw [edi, hfar] at h7
     first | omega | (cases h8; done) | (simp_all; done) | (simp_all; omega)⟩)
    exact nx_round (i + 1, wb, none) ⟨by dsimp only; omega, hnx⟩ (by dsimp only; omega) ⟨rfl, rfl, rfl, rfl, rfl, rfl, rfl, rfl, rfl, rfl, (some_int (by omega)), trivial⟩ (fun _ hm => hm.pick [] [0, 1, 2] [0, 1, 2, 3] rfl rfl)
   refine wa_set 64 rfl (congrArg Value.bool hg1) ?_
   replace hg1 := of_decide_eq_false hg1
   refine wtf 3 24 15 rfl rfl rfl z ?_
   refine wtf 4 24 31 rfl rfl rfl z ?_
   refine wtf 5 24 63 rfl rfl rfl z ?_
   refine wtf 6 24 127 rfl rfl rfl z ?_
   refine wtf 7 24 255 rfl rfl rfl z ?_
   refine wt 8 24 511 rfl z (ov_pick_f rfl rfl) ?_
   refine wt 9 24 1023 rfl z (ov_move rfl) ?_
   refine wtf 10 24 2047 rfl rfl rfl z ?_
   refine wtf 11 24 4095 rfl rfl rfl z ?_
   refine wtf 12 24 8191 rfl rfl rfl z ?_
   refine wtu 13 24 16383 rfl rfl rfl z ?_
   refine wtu 14 24 32767 rfl rfl rfl z ?_
   refine wtu 15 24 65535 rfl rfl rfl z ?_
   refine wtu 16 24 131071 rfl rfl rfl z ?_
   refine wtu 17 24 262143 rfl rfl rfl z ?_
   refine wtu 18 24 524287 rfl rfl rfl z ?_
   refine wtu 19 24 1048575 rfl rfl rfl z ?_
   refine wtu 20 24 2097151 rfl rfl rfl z ?_
   refine wtu 21 24 4194303 rfl rfl rfl z ?_
   refine wtf 22 24 8388607 rfl rfl rfl z ?_
   refine wt 23 24 16777215 rfl z (ov_pick_f rfl rfl) ?_
   refine wa_done (by kernel_rfl) ?_
   refine nx_then (cf_ rfl (gw_skip (nx_blk_nrm (nx_then (gw_region (ad_ rfl rfl (mv_ rfl (wl_nil ?_))))))))
   have hnx : Pick1 vl dl (i + 1) wb (none) := hpk.next hy hinv (.inl ⟨rfl, fun h8 h9 h7 => by
    rw [edi, hfar] at h7
    first | omega | (cases h8; done) | (simp_all; done) | (simp_all; omega)⟩)
   exact nx_round (i + 1, wb, none) ⟨by dsimp only; omega, hnx⟩ (by dsimp only; omega) ⟨rfl, rfl, rfl, rfl, rfl, rfl, rfl, rfl, rfl, rfl, (some_int (by omega)), trivial⟩ (fun _ hm => hm.pick [] [0, 1, 2] [0, 1, 2, 3] rfl rfl)
  obtain ⟨hqi, hql0, hqd⟩ := hpk.hit q rfl
  obtain ⟨dq, hdq⟩ : ∃ x, dl[q]? = some x := ⟨_, List.getElem?_eq_getElem (by omega)⟩
  refine gw_set 10 (v' := .int .i64 ((q : Nat) : Int)) rfl rfl ?_
  refine gd (fun wz => (fun wy => SlT byEnc 2 111 wy (some ⟨bb, bo, none⟩) n bl) wz ∧ (BlkOld w.heap.size none gx 77 [.slice hA n hc, .slice wA n wc, .slice none 0 0]) wz ∧ (SlOld naEnc 1 3 w.heap.size none hA n hL) wz ∧ (SlOld naEnc 1 3 w.heap.size none wA n wL) wz ∧ wz.ownsRow w.heap.size 3 1 (.slice (some ⟨zd, 0, none⟩) n dc) n (dl.flatMap naEnc) ∧ wz.ownsRow w.heap.size 3 1 (.slice (some ⟨gl, 0, none⟩) n lc) n (ul.flatMap naEnc) ∧ wz.ownsRow w.heap.size 3 1 (.slice (some ⟨gk, 0, none⟩) n kc) n (vl.flatMap naEnc) ∧ True) mixed (fun _ hm => ⟨hm.fa 0, hm.fa 1, hm.fa 2, hm.fa 3, hm.ownI 0 rfl, hm.ownI 1 rfl, hm.ownI 2 rfl, trivial⟩) fun z => ?_
  refine wt 0 24 1 rfl z (ov_move rfl) ?_
  refine wt 1 24 3 rfl z (ov_gtr rfl rfl) ?_
  refine wt 2 24 7 rfl z (ov_move rfl) ?_
  rcases Bool.eq_false_or_eq_true (decide (0 < y)) with hg3 | hg3
  ·refine wa_set 64 rfl (congrArg Value.bool hg3) ?_
   replace hg3 := of_decide_eq_true hg3
   refine wto 3 24 15 rfl rfl rfl z (ov_move rfl) ?_
   refine wto 4 24 31 rfl rfl rfl z (ov_move rfl) ?_
   refine wto 5 24 63 rfl rfl rfl z (ov_index (j := i) es22 rfl rfl (by omega)) ?_
   refine wto 6 24 127 rfl rfl rfl z (ov_elem1 (k := 0) (v := .int .i64 di) sc3 rfl (fun _ hm => (SlT.ofOwn na_len (hm.2.2.2.2.1) hdl)) hdi rfl rfl) ?_
   refine wto 7 24 255 rfl rfl rfl z (ov_lss rfl rfl) ?_
   refine wt 8 24 511 rfl z (ov_pick_t rfl rfl) ?_
   refine wt 9 24 1023 rfl z (ov_move rfl) ?_
   rcases Bool.eq_false_or_eq_true (decide (di < 1125899906842624)) with hg4 | hg4
   ·refine wa_set 71 rfl (congrArg Value.bool hg4) ?_
    replace hg4 := of_decide_eq_true hg4
    refine wto 10 24 2047 rfl rfl rfl z (ov_move rfl) ?_
    refine wto 11 24 4095 rfl rfl rfl z (ov_lss rfl rfl) ?_
    refine wto 12 24 8191 rfl rfl rfl z (ov_move rfl) ?_
    rcases Bool.eq_false_or_eq_true (decide (((q : Nat) : Int) < 0)) with hg5 | hg5
    ·refine wa_set 74 rfl (congrArg Value.bool hg5) ?_
     replace hg5 := of_decide_eq_true hg5
     refine wtf 13 24 16383 rfl rfl rfl z ?_
     refine wtf 14 24 32767 rfl rfl rfl z ?_
     refine wtf 15 24 65535 rfl rfl rfl z ?_
     refine wtf 16 24 131071 rfl rfl rfl z ?_
     refine wtf 17 24 262143 rfl rfl rfl z ?_
     refine wtf 18 24 524287 rfl rfl rfl z ?_
     refine wtf 19 24 1048575 rfl rfl rfl z ?_
     refine wtf 20 24 2097151 rfl rfl rfl z ?_
     refine wtf 21 24 4194303 rfl rfl rfl z ?_
     refine wto 22 24 8388607 rfl rfl rfl z (ov_pick_t rfl rfl) ?_
     refine wt 23 24 16777215 rfl z (ov_pick_t rfl rfl) ?_
     refine wa_done (by kernel_rfl) ?_
     refine nx_then (ct_ rfl (gw_region (mv_ rfl (sg_ rfl (wl_nil (nx_blk_nrm (nx_then (gw_region (ad_ rfl rfl (mv_ rfl (wl_nil ?_)))))))))))
     have hnx : Pick1 vl dl (i + 1) wb (some i) := hpk.next hy hinv (.inr ⟨rfl, by first | assumption | omega | simp_all, by rw [edi, hfar]; first | assumption | omega | simp_all⟩)
     exact nx_round (i + 1, wb, some i) ⟨by dsimp only; omega, hnx⟩ (by dsimp only; omega) ⟨rfl, rfl, rfl, rfl, rfl, rfl, rfl, rfl, rfl, rfl, (some_int (by omega)), trivial⟩ (fun _ hm => hm.pick [] [0, 1, 2] [0, 1, 2, 3] rfl rfl)
    refine wa_set 74 rfl (congrArg Value.bool hg5) ?_
    replace hg5 := of_decide_eq_false hg5
    refine wto 13 24 16383 rfl rfl rfl z (ov_move rfl) ?_
    refine wto 14 24 32767 rfl rfl rfl z (ov_move rfl) ?_
    refine wto 15 24 65535 rfl rfl rfl z (ov_index (j := i) es22 rfl rfl (by omega)) ?_
    refine wto 16 24 131071 rfl rfl rfl z (ov_elem1 (k := 0) (v := .int .i64 di) sc3 rfl (fun _ hm => (SlT.ofOwn na_len (hm.2.2.2.2.1) hdl)) hdi rfl rfl) ?_
    refine wto 17 24 262143 rfl rfl rfl z (ov_move rfl) ?_
    refine wto 18 24 524287 rfl rfl rfl z (ov_move rfl) ?_
    refine wto 19 24 1048575 rfl rfl rfl z (ov_index (j := q) es22 rfl rfl (by omega)) ?_
    refine wto 20 24 2097151 rfl rfl rfl z (ov_elem1 (k := 0) (v := .int .i64 dq) sc3 rfl (fun _ hm => (SlT.ofOwn na_len (hm.2.2.2.2.1) hdl)) hdq rfl rfl) ?_
    refine wto 21 24 4194303 rfl rfl rfl z (ov_lss rfl rfl) ?_
    refine wto 22 24 8388607 rfl rfl rfl z (ov_pick_f rfl rfl) ?_
    refine wt 23 24 16777215 rfl z (ov_pick_t rfl rfl) ?_
    refine wa_done (by kernel_rfl) ?_
    refine nx_then ?_
    refine gw_cond rfl (fun hh => ?_) (fun hh => ?_)
    ·have hcd : di < dq := by simpa using hh
     clear hh
     refine gw_region ?_
     have hnx : Pick1 vl dl (i + 1) wb (some i) := hpk.next hy hinv (.inr ⟨rfl, by first | assumption | omega | simp_all, by rw [edi, hfar]; first | assumption | omega | simp_all⟩)
     refine mv_ rfl (sg_ rfl (wl_nil (nx_blk_nrm (nx_then (gw_region (ad_ rfl rfl (mv_ rfl (wl_nil ?_))))))))
     exact nx_round (i + 1, wb, some i) ⟨by dsimp only; omega, hnx⟩ (by dsimp only; omega) ⟨rfl, rfl, rfl, rfl, rfl, rfl, rfl, rfl, rfl, rfl, (some_int (by omega)), trivial⟩ (fun _ hm => hm.pick [] [0, 1, 2] [0, 1, 2, 3] rfl rfl)
    have hcd : ¬ (di < dq) := by simpa using hh
    clear hh
    refine gw_skip (nx_blk_nrm (nx_then (gw_region ?_)))
    have hnx : Pick1 vl dl (i + 1) wb (some q) := hpk.next hy hinv (.inl ⟨rfl, fun h8 h9 h7 => by
     rw [edi, hfar] at h7
     first | omega | (cases h8; done) | (simp_all; done) | (simp_all; omega)⟩)
    refine ad_ rfl rfl (mv_ rfl (wl_nil ?_))
    exact nx_round (i + 1, wb, some q) ⟨by dsimp only; omega, hnx⟩ (by dsimp only; omega) ⟨rfl, rfl, rfl, rfl, rfl, rfl, rfl, rfl, rfl, rfl, (some_int (by omega)), trivial⟩ (fun _ hm => hm.pick [] [0, 1, 2] [0, 1, 2, 3] rfl rfl)
   refine wa_set 71 rfl (congrArg Value.bool hg4) ?_
   replace hg4 := of_decide_eq_false hg4
   refine wtf 10 24 2047 rfl rfl rfl z ?_
   refine wtf 11 24 4095 rfl rfl rfl z ?_
   refine wtf 12 24 8191 rfl rfl rfl z ?_
   refine wtu 13 24 16383 rfl rfl rfl z ?_
   refine wtu 14 24 32767 rfl rfl rfl z ?_
   refine wtu 15 24 65535 rfl rfl rfl z ?_
   refine wtu 16 24 131071 rfl rfl rfl z ?_
   refine wtu 17 24 262143 rfl rfl rfl z ?_
   refine wtu 18 24 524287 rfl rfl rfl z ?_
   refine wtu 19 24 1048575 rfl rfl rfl z ?_
   refine wtu 20 24 2097151 rfl rfl rfl z ?_
   refine wtu 21 24 4194303 rfl rfl rfl z ?_
   refine wtf 22 24 8388607 rfl rfl rfl z ?_
   refine wt 23 24 16777215 rfl z (ov_pick_f rfl rfl) ?_
   refine wa_done (by kernel_rfl) ?_
   refine nx_then (cf_ rfl (gw_skip (nx_blk_nrm (nx_then (gw_region (ad_ rfl rfl (mv_ rfl (wl_nil ?_))))))))
   have hnx : Pick1 vl dl (i + 1) wb (some q) := hpk.next hy hinv (.inl ⟨rfl, fun h8 h9 h7 => by
    rw [edi, hfar] at h7
    first | omega | (cases h8; done) | (simp_all; done) | (simp_all; omega)⟩)
   exact nx_round (i + 1, wb, some q) ⟨by dsimp only; omega, hnx⟩ (by dsimp only; omega) ⟨rfl, rfl, rfl, rfl, rfl, rfl, rfl, rfl, rfl, rfl, (some_int (by omega)), trivial⟩ (fun _ hm => hm.pick [] [0, 1, 2] [0, 1, 2, 3] rfl rfl)
  refine wa_set 64 rfl (congrArg Value.bool hg3) ?_
  replace hg3 := of_decide_eq_false hg3
  refine wtf 3 24 15 rfl rfl rfl z ?_
  refine wtf 4 24 31 rfl rfl rfl z ?_
  refine wtf 5 24 63 rfl rfl rfl z ?_
  refine wtf 6 24 127 rfl rfl rfl z ?_
  refine wtf 7 24 255 rfl rfl rfl z ?_
  refine wt 8 24 511 rfl z (ov_pick_f rfl rfl) ?_
  refine wt 9 24 1023 rfl z (ov_move rfl) ?_
  refine wtf 10 24 2047 rfl rfl rfl z ?_
  refine wtf 11 24 4095 rfl rfl rfl z ?_
  refine wtf 12 24 8191 rfl rfl rfl z ?_
  refine wtu 13 24 16383 rfl rfl rfl z ?_
  refine wtu 14 24 32767 rfl rfl rfl z ?_
  refine wtu 15 24 65535 rfl rfl rfl z ?_
  refine wtu 16 24 131071 rfl rfl rfl z ?_
  refine wtu 17 24 262143 rfl rfl rfl z ?_
  refine wtu 18 24 524287 rfl rfl rfl z ?_
  refine wtu 19 24 1048575 rfl rfl rfl z ?_
  refine wtu 20 24 2097151 rfl rfl rfl z ?_
  refine wtu 21 24 4194303 rfl rfl rfl z ?_
  refine wtf 22 24 8388607 rfl rfl rfl z ?_
  refine wt 23 24 16777215 rfl z (ov_pick_f rfl rfl) ?_
  refine wa_done (by kernel_rfl) ?_
  refine nx_then (cf_ rfl (gw_skip (nx_blk_nrm (nx_then (gw_region (ad_ rfl rfl (mv_ rfl (wl_nil ?_))))))))
  have hnx : Pick1 vl dl (i + 1) wb (some q) := hpk.next hy hinv (.inl ⟨rfl, fun h8 h9 h7 => by
   rw [edi, hfar] at h7
   first | omega | (cases h8; done) | (simp_all; done) | (simp_all; omega)⟩)
  exact nx_round (i + 1, wb, some q) ⟨by dsimp only; omega, hnx⟩ (by dsimp only; omega) ⟨rfl, rfl, rfl, rfl, rfl, rfl, rfl, rfl, rfl, rfl, (some_int (by omega)), trivial⟩ (fun _ hm => hm.pick [] [0, 1, 2] [0, 1, 2, 3] rfl rfl)
 have hi : ¬ (((i : Nat) : Int) < ((n : Nat) : Int)) := by simpa using hh
 clear hh
 refine gw_exit ?_
 refine nx_then_exit (nx_then_exit ?_)
 refine nx_blk_here ?_
 refine nx_then (gw_seq (sr_ ?_))
 obtain rfl : n = i := by omega
 rcases tq with _ | q
 ·refine wl_set 10 (v' := .int .i64 (-1)) rfl rfl ?_
  refine mv_ rfl (wl_ov (ov_lss rfl rfl) rfl ?_)
  refine wl_set 89 (v' := .bool true) rfl (congrArg Value.bool (by decide)) ?_
  refine nn_ (ct_ rfl (sr_ (mv_ rfl (mv_ rfl (wl_ov (ov_un_not rfl) rfl (sg_ rfl (sg_ rfl (nn_ ?_))))))))
  refine gw_ret ?_
  refine nx_then_ret (nx_blk_ret (nx_then_ret (nx_blk_ret ?_)))
  have hend := solve_end hf hp hw hcl (by decide) (by rw [hfar]; omega) hpk.wa (hpk.no rfl)
  rw [← hsmc] at hend
  refine nx_ret2 rfl rfl rfl fun wx hm => ?_
  exact ⟨_, _, rfl, hend, hm.g⟩
 obtain ⟨hqn, hql0, hqd⟩ := hpk.hit q rfl
 exact (nil_no hf hw hqd hql0).elim
theorem solve_any (al0 : List Arc) (hL wL : List Int) (P : Nat → Bool) (gx base : Nat) (hA wA aA : Option Addr) (n hc wc k ac : Nat) (w : World) (hx : Blk w gx 77 [.slice hA n hc, .slice wA n wc, .slice aA k ac]) (hh : SlT naEnc 1 3 w hA n hL) (hv : SlT naEnc 1 3 w wA n wL) (h : w.ownsRow base 79 4 (.slice aA k ac) k (al0.flatMap arEnc)) (hk1 : al0.length = k) (hk : k ≤ 1000)
    (harc : ∀ a ∈ al0, (a.fr < n ∧ a.to_ < n) ∧ (P a.fr = true ∧ P a.to_ = false) ∧ 0 ≤ a.car ∧ a.car ≤ 1000000) (hsr : ∀ i, P i = true → atL wL i = 0) (hsk : ∀ i, P i = false → atL hL i = 0) (hhB : ∀ i, 0 ≤ atL hL i ∧ atL hL i ≤ 1000) (hwB : ∀ i, 0 ≤ atL wL i ∧ atL wL i ≤ 1000) (hn0 : 0 < n) (hn : n ≤ 10) :
    Calls Try.prog 16 #[.pointer (some ⟨gx, 0, none⟩)] w (fun e w' => ∃ (r : Int) (ok : Bool) (al : List Arc), e = .returned (.tuple #[.int .i64 r, .bool ok]) ∧ Solves n (atL hL) (atL wL) al0 r ok ∧ SameA al0 al ∧ w'.ownsRow base 79 4 (.slice aA k ac) k (al.flatMap arEnc) ∧ w.grownBy w' (Value.slice aA k ac).ownBlock) := by
  rcases h.2 with ⟨h1, h2⟩ | ⟨g, cap, cur, h1, h2⟩
  · injection h1 with h1 h3 h4
    subst h1 h3 h4
    have e := List.length_eq_zero_iff.1 hk1
    subst e
    exact (solve_nil hL wL P gx hA wA n hc wc w hx hh hv hsr hsk hhB hwB hn0 hn).mono fun _ _ ⟨r, ok, he, hs, hg⟩ => ⟨r, ok, [], he, hs, trivial, ⟨rfl, .inl ⟨rfl, rfl⟩⟩, hg⟩
  · injection h1 with h1 _ h4
    subst h1
    exact (solve_row al0 hL wL P gx base g hA wA n hc wc k ac w hx hh hv h hk1 hk harc hsr hsk hhB hwB hn0 hn).mono fun _ _ ⟨r, ok, al, he, hs, hsa, hr, hg⟩ => ⟨r, ok, al, he, hs, hsa, hr, hg⟩
end Go.Proofs.Ytodcildcipfmcaa
namespace Go.Proofs.Ytodcildcipfmcaa
open Go.RowKit
theorem rest_any (al : List Arc) (hL wL : List Int) (gx f t : Nat) (mm xf yt : Int) (hA wA aA : Option Addr) (n hc wc k ac : Nat) (w : World) (hx : Blk w gx 77 [.slice hA n hc, .slice wA n wc, .slice aA k ac]) (hh : SlT naEnc 1 3 w hA n hL) (hv : SlT naEnc 1 3 w wA n wL) (ha : SlT arEnc 4 79 w aA k al) (hkc : k ≤ ac) (hk1 : 1 ≤ k) (hk : k ≤ 1000) (hn : n ≤ 1000)
  (hxf : hL[f]? = some xf) (hyt : wL[t]? = some yt) (hb : (-1000000 ≤ mm ∧ mm ≤ 1000000) ∧ (-1000000 ≤ xf ∧ xf ≤ 1000000) ∧ -1000000 ≤ yt ∧ yt ≤ 1000000) :
  Calls Try.prog 17 #[.pointer (some ⟨gx, 0, none⟩), .int .i64 1, .int .i64 ((f : Nat) : Int), .int .i64 ((t : Nat) : Int), .int .i64 mm] w (fun e w' => ∃ (gy : Nat) (lA : Option Addr) (lc : Nat) (kA : Option Addr) (kc : Nat) (bA : Option Addr) (bc : Nat), e = .returned (.pointer (some ⟨gy, 0, none⟩)) ∧ w'.ownsRow w.heap.size 79 4 (.slice bA (k - 1) bc) (k - 1) ((al.drop 1).flatMap arEnc) ∧
   (Blk w' gy 77 [.slice lA n lc, .slice kA n kc, .slice bA (k - 1) bc] ∧ SlT naEnc 1 3 w' lA n (hL.set f (xf - mm)) ∧ SlT naEnc 1 3 w' kA n (wL.set t (yt - mm))) ∧ w.grownBy w' none) := by
 obtain ⟨hb1, hb2, hb3⟩ := hb
 refine gw_enter ⟨52, w, none, []⟩ Try.func17 rfl Try.ntmps17 rfl (mem0 (X := [BlkOld w.heap.size none gx 77 [.slice hA n hc, .slice wA n wc, .slice aA k ac], SlOld naEnc 1 3 w.heap.size none hA n hL, SlOld naEnc 1 3 w.heap.size none wA n wL, SlOld arEnc 4 79 w.heap.size none aA k al]) (allF_cons hx.old (allF_cons hh.old (allF_cons hv.old (allF_cons ha.old allF_nil)))) (allL_cons BlkOld.lasts (allL_cons SlOld.lasts (allL_cons SlOld.lasts (allL_cons SlOld.lasts allL_nil))))) ?_
 refine sr_ ?_
 have hhl := hh.len
 have hvl := hv.len
 have hfn := (List.getElem?_eq_some_iff.1 hxf).1
 have htn := (List.getElem?_eq_some_iff.1 hyt).1
 refine sg_ rfl (nn_ (gw_seq ?_))
 refine gd (fun wz => (BlkOld w.heap.size none gx 77 [.slice hA n hc, .slice wA n wc, .slice aA k ac]) wz ∧ (SlOld naEnc 1 3 w.heap.size none hA n hL) wz ∧ (SlOld naEnc 1 3 w.heap.size none wA n wL) wz ∧ (SlOld arEnc 4 79 w.heap.size none aA k al) wz ∧ True) mixed (fun _ hm => ⟨hm.fa 0, hm.fa 1, hm.fa 2, hm.fa 3, trivial⟩) fun z => ?_
 refine wt 0 20 1 rfl z (ov_move rfl) ?_
 refine wt 1 20 3 rfl z (ov_nilcheck rfl) ?_
 refine wt 2 20 7 rfl z (ov_field fo77_0 rfl rfl) ?_
 refine wt 3 20 15 rfl z (ov_load (v := .slice hA n hc) sc22 rfl (fun _ hm => (hm.1).2) rfl) ?_
 refine wt 5 20 47 rfl z (ov_move rfl) ?_
 refine wt 6 20 111 rfl z (ov_nilcheck rfl) ?_
 refine wt 7 20 239 rfl z (ov_field fo77_1 rfl rfl) ?_
 refine wt 8 20 495 rfl z (ov_load (v := .slice wA n wc) sc22 rfl (fun _ hm => (hm.1).2) rfl) ?_
 refine wt 10 20 1519 rfl z (ov_move rfl) ?_
 refine wt 11 20 3567 rfl z (ov_nilcheck rfl) ?_
 refine wt 12 20 7663 rfl z (ov_field fo77_2 rfl rfl) ?_
 refine wt 13 20 15855 rfl z (ov_load (v := .slice aA k ac) sc75 rfl (fun _ hm => (hm.1).2) rfl) ?_
 refine wt 14 20 32239 rfl z (ov_move rfl) ?_
 refine wt 15 20 65007 rfl z (ov_sliceLo (lo := 1) es75 rfl rfl rfl (by omega)) ?_
 refine wa1 4 rfl ?_
 refine wl_callgo (γ := Option Addr × Nat) (val := (fun g => .slice g.1 n g.2)) (φ := (fun g => True)) (fun g => ⟨.slice g.1 n g.2, 3, 1, n, hL.flatMap naEnc⟩) rfl cb36 rfl rfl (fun wx hm => (cloneInts_any hL hA n hc wx (hm.fact 1 rfl).1 (by omega)).mono fun _ _ ⟨A, c, he, ho, hg⟩ => ⟨(A, c), he, trivial, ho, hg⟩) ?_
 rintro ⟨lA, lc⟩ hphi
 dsimp only at hphi ⊢
 refine wl_nil ?_
 refine nw 20 65023 (fun _ hm => ⟨hm.fa 0, hm.fa 1, hm.fa 2, hm.fa 3, trivial⟩) fun z => ?_
 refine wa1 9 rfl ?_
 refine wl_callgo (γ := Option Addr × Nat) (val := (fun g => .slice g.1 n g.2)) (φ := (fun g => True)) (fun g => ⟨.slice g.1 n g.2, 3, 1, n, wL.flatMap naEnc⟩) rfl cb36 rfl rfl (fun wx hm => (cloneInts_any wL wA n wc wx (hm.fact 2 rfl).1 (by omega)).mono fun _ _ ⟨A, c, he, ho, hg⟩ => ⟨(A, c), he, trivial, ho, hg⟩) ?_
 rintro ⟨kA, kc⟩ hphi
 dsimp only at hphi ⊢
 refine wl_nil ?_
 refine nw 20 65535 (fun _ hm => ⟨hm.fa 0, hm.fa 1, hm.fa 2, hm.fa 3, trivial⟩) fun z => ?_
 refine wa1 16 rfl ?_
 refine wl_callgo (γ := Option Addr × Nat) (val := (fun g => .slice g.1 (k - 1) g.2)) (φ := (fun g => True)) (fun g => ⟨.slice g.1 (k - 1) g.2, 79, 4, (k - 1), (al.drop 1).flatMap arEnc⟩) rfl cb38 rfl rfl (fun wx hm => (cloneArcs_any (al.drop 1) (if ac = 1 then aA else Option.map (fun a : Addr => a.add (1 * 4)) aA) (k - 1) (ac - 1) wx ((hm.fact 3 rfl).1.dropS 1 hk1 hkc) (by omega)).mono fun _ _ ⟨A, c, he, ho, hg⟩ => ⟨(A, c), he, trivial, ho, hg⟩) ?_
 rintro ⟨bA, bc⟩ hphi
 dsimp only at hphi ⊢
 refine wl_nil ?_
 refine nw 20 131071 (fun _ hm => ⟨hm.fa 0, hm.fa 1, hm.fa 2, hm.fa 3, trivial⟩) fun z => ?_
 refine wt 17 20 262143 rfl z (ov_build (cs := [.slice lA n lc, .slice kA n kc, .slice bA (k - 1) bc]) rfl (by kernel_rfl)) ?_
 refine wa1 18 rfl ?_
 refine wl_box rfl rfl rfl fun g1 => ?_
 refine wl_nil ?_
 refine nw 20 524287 (fun _ hm => ⟨hm.fa 0, hm.fa 1, hm.fa 2, hm.fa 3, trivial⟩) fun z => ?_
 refine wt 19 20 1048575 rfl z (ov_assign rfl) ?_
 refine wa_done (by kernel_rfl) ?_
 refine nx_then ?_
 refine gw_look (R := ∃ g, lA = some ⟨g, 0, none⟩) (fun wx hm => own_addr (hm.ownI 2 rfl) (by omega)) ?_
 rintro ⟨gl, rfl⟩
 refine gw_look (R := ∃ g, kA = some ⟨g, 0, none⟩) (fun wx hm => own_addr (hm.ownI 1 rfl) (by omega)) ?_
 rintro ⟨gk, rfl⟩
 refine sr_ (mv_ rfl (wl_ov (ov_nilcheck rfl) rfl (fd_ fo77_0 rfl rfl (lk_ sc22 0 rfl rfl rfl (mv_ rfl ?_)))))
 refine wl_ov (ov_index (j := f) es22 rfl rfl (by omega)) rfl ?_
 refine wl_ov (ov_elem1 (k := 0) (v := .int .i64 xf) sc3 rfl (fun _ hm => (SlT.ofOwn na_len (hm.ownI 2 rfl) hhl)) hxf rfl rfl) rfl ?_
 refine mv_ rfl ?_
 refine wl_ov (ov_sub rfl rfl (by omega) (by omega)) rfl ?_
 refine wl_ov (ov_index (j := f) es22 rfl rfl (by omega)) rfl ?_
 refine wl_storeE (l := hL) (j := f) (r := 0) (el := xf) (el' := (xf - mm)) 2 sc3 rfl rfl rfl rfl na_len rfl hxf hhl (show 0 < 1 by decide) rfl rfl ?_
 refine nn_ (sr_ (mv_ rfl (wl_ov (ov_nilcheck rfl) rfl (fd_ fo77_1 rfl rfl (lk_ sc22 0 rfl rfl rfl (mv_ rfl ?_))))))
 refine wl_ov (ov_index (j := t) es22 rfl rfl (by omega)) rfl ?_
 refine wl_ov (ov_elem1 (k := 0) (v := .int .i64 yt) sc3 rfl (fun _ hm => (SlT.ofOwn na_len (hm.ownI 1 rfl) hvl)) hyt rfl rfl) rfl ?_
 refine mv_ rfl ?_
 refine wl_ov (ov_sub rfl rfl (by omega) (by omega)) rfl ?_
 refine wl_ov (ov_index (j := t) es22 rfl rfl (by omega)) rfl ?_
 refine wl_storeE (l := wL) (j := t) (r := 0) (el := yt) (el' := (yt - mm)) 1 sc3 rfl rfl rfl rfl na_len rfl hyt hvl (show 0 < 1 by decide) rfl rfl ?_
 refine nn_ (sr_ (mv_ rfl (sg_ rfl (nn_ ?_))))
 refine gw_ret ?_
 refine nx_ret1 rfl rfl fun wx hm => ?_
 exact ⟨g1, _, lc, _, kc, bA, bc, rfl, hm.ownI 0 rfl, ⟨hm.bl 0, SlT.ofOwn na_len (hm.ownI 2 rfl) (by rw [List.length_set]; exact hhl), SlT.ofOwn na_len (hm.ownI 1 rfl) (by rw [List.length_set]; exact hvl)⟩, hm.g⟩
theorem own_capL {w : World} {base : Nat} {e : TypeId} {sz n : Nat} {A : Option Addr} {cc : Nat} {xs : List Value} (h : w.ownsRow base e sz (.slice A n cc) n xs) : n ≤ cc := by
  rcases h.2 with ⟨_, h0⟩ | ⟨g, cap, cur, h1, _, _, h2, _⟩
  · omega
  · injection h1 with _ _ h3
    omega
theorem Tr2.lasts {N : Nat} {row : Option Nat} {Tt : List TypeId} {gx : Nat} {cs : List Value} {hA wA : Option Addr} {n : Nat} {hL wL : List Int} (h1 : Tt.contains 77 = true) (h2 : Tt.contains 3 = true) : Lasts2 N row Tt (fun wy => Blk wy gx 77 cs ∧ SlT naEnc 1 3 wy hA n hL ∧ SlT naEnc 1 3 wy wA n wL) :=
  Lasts2.and_ ⟨fun _ _ h hx => hx.grown h (by simp), fun w w' r T c hr hT _ hg hx => hx.grown hg (fun e => by
    injection e with e
    subst e
    unfold Blk at hx
    rw [hr] at hx
    injection hx with hx
    injection hx with _ hx _
    subst hx
    exact hT (by simpa using h1))⟩ ((SlT.lasts2 h2).and_ (SlT.lasts2 h2))
theorem plan_any (nl : List Nd) (rl : List Ro) (nA rA : Option Addr) (n nc rn rc : Nat) (w : World) (hnd : SlT ndEnc 2 44 w nA n nl) (hro : SlT roEnc 4 66 w rA rn rl) (hnb : ∀ x ∈ nl, NdB x) (hrb : ∀ x ∈ rl, RoB x) (hn0 : 0 < n) (hn : n ≤ 10) (hrn : rn ≤ 1000000) :
  Calls Try.prog 6 #[.slice nA n nc, .slice rA rn rc] w (fun e w' => ∃ (A : Option Addr) (kk c : Nat) (E : Int) (ou : List Mv), e = .returned (.tuple #[.slice A kk c, .int .i64 E]) ∧ (E ≠ 0 → A = none ∧ kk = 0 ∧ c = 0) ∧ (E = 0 → PlanOk nl n ou) ∧ SlT (mvEnc nl) 3 57 w' A kk ou ∧ kk ≤ 100 ∧ w.grownBy w' none) := by
 refine gw_enter ⟨121, w, none, [77, 3]⟩ Try.func6 rfl Try.ntmps6 rfl (mem0 (X := [SlOld ndEnc 2 44 w.heap.size none nA n nl, SlOld roEnc 4 66 w.heap.size none rA rn rl]) (allF_cons hnd.old (allF_cons hro.old allF_nil)) (allL_cons SlOld.lasts (allL_cons SlOld.lasts allL_nil))) ?_
 refine sr_ ?_
 have hlen := hnd.len
 obtain ⟨nb, no, hA, _, _⟩ := hnd.get (by omega)
 subst hA
 refine sg_ rfl (sg_ rfl (nn_ (gw_seq (sr_ (mv_ rfl (mv_ rfl ?_))))))
 refine wl_callx (γ := Int) (val := (fun g => .int .i64 g)) (φ := (fun g => g = 0 → ∀ x ∈ rl, CarOk x)) (Y := (fun g => fun _ => True)) rfl cb14 rfl rfl (fun wx hm => (checkTask_any nl rl (some ⟨nb, no, none⟩) rA n nc rn rc wx (hm.fact 0 rfl).1 (hm.fact 1 rfl).1 hnb hrb (by omega) hrn).mono fun _ _ ⟨E, he, h1, hg⟩ => ⟨E, he, h1, hg, trivial⟩) (fun _ => Lasts2.true_) ?_
 rintro E1 hE1
 refine sg_ rfl (nn_ (sr_ (mv_ rfl (wl_ov (ov_neq rfl rfl) rfl (nn_ ?_)))))
 refine gw_cond rfl (fun hh => ?_) (fun hh => ?_)
 ·have h1 : ¬ (E1 = 0) := by simpa using hh
  clear hh
  refine sr_ (mv_ rfl (sg_ rfl (sg_ rfl (nn_ ?_))))
  refine gw_ret ?_
  refine nx_then_ret ?_
  refine nx_ret2 rfl rfl rfl fun wx hm => ?_
  exact ⟨none, 0, 0, E1, [], rfl, (fun _ => ⟨rfl, rfl, rfl⟩), (fun h => absurd h (by simpa using h1)), SlT.nil_ _ _, by decide, hm.g⟩
 have h1 : E1 = 0 := by simpa using hh
 clear hh
 refine gw_skip (nx_then (sr_ ?_))
 have hcr := hE1 (by simpa using h1)
 refine mv_ rfl (mv_ rfl ?_)
 refine wl_callgox (γ := Nat × Option Addr × Nat × Option Addr × Nat × Option Addr × Nat × Nat × List Arc) (val := (fun g => .pointer (some ⟨g.1, 0, none⟩))) (φ := (fun g => g.2.2.2.2.2.2.1 ≤ n * n ∧ g.2.2.2.2.2.2.2.2.length = g.2.2.2.2.2.2.1 ∧ ∀ a ∈ g.2.2.2.2.2.2.2.2, ArcOk nl a)) (Y := (fun g => fun wy => Blk wy g.1 77 [.slice g.2.1 n g.2.2.1, .slice g.2.2.2.1 n g.2.2.2.2.1, .slice g.2.2.2.2.2.1 g.2.2.2.2.2.2.1 g.2.2.2.2.2.2.2.1] ∧ SlT naEnc 1 3 wy g.2.1 n (nl.map hvF) ∧ SlT naEnc 1 3 wy g.2.2.2.1 n (nl.map wtF))) (fun g => ⟨.slice g.2.2.2.2.2.1 g.2.2.2.2.2.2.1 g.2.2.2.2.2.2.2.1, 79, 4, g.2.2.2.2.2.2.1, g.2.2.2.2.2.2.2.2.flatMap arEnc⟩) rfl cb15 rfl rfl (fun wx hm => (transportOf_any nl rl (some ⟨nb, no, none⟩) rA n nc rn rc wx (hm.fact 1 rfl).1 (hm.fact 2 rfl).1 hnb hcr hn hrn).mono fun _ _ ⟨gx, hA, hc, wA, wc, aA, k, ac, al, he, hp, ho, ht, hg⟩ => ⟨(gx, hA, hc, wA, wc, aA, k, ac, al), he, hp, ho, hg, ht⟩) (fun _ => Tr2.lasts rfl rfl) ?_
 rintro ⟨gx, hA, hc, wA, wc, aA, k, ac, al⟩ htr
 dsimp only at htr ⊢
 obtain ⟨hkn, hal, hok⟩ := htr
 have hkn2 : n * n ≤ 10 * 10 := Nat.mul_le_mul hn hn
 refine sg_ rfl (nn_ (sr_ (mv_ rfl ?_)))
 refine wl_callrx (γ := Int × Bool × List Arc) (val := fun g => .tuple #[.int .i64 g.1, .bool g.2.1]) (φ := fun g => Solves n (atL (nl.map hvF)) (atL (nl.map wtF)) al g.1 g.2.1 ∧ SameA al g.2.2) (xs' := fun g => g.2.2.flatMap arEnc) 0 rfl rfl rfl cb16 rfl rfl (fun wx hm => (solve_any al (nl.map hvF) (nl.map wtF) (plP nl) gx _ hA wA aA n hc wc k ac wx (hm.fact 0 rfl).1 (hm.fact 0 rfl).2.1 (hm.fact 0 rfl).2.2 (hm.ownI 0 rfl) hal (by omega) (fun a ha => arc_ok hlen (hok a ha)) (first_sr nl) (first_sk nl) (first_hB hnb) (first_wB hnb) hn0 hn).mono fun _ _ ⟨r, ok, al, he, h1, h2, h3, h4⟩ => ⟨(r, ok, al), he, ⟨h1, h2⟩, h3, h4⟩) ?_
 rintro ⟨sr, so, sa⟩ hso
 dsimp only at hso ⊢
 refine mv_ rfl (wl_ov (ov_extract rfl rfl) rfl (wl_ov (ov_extract rfl rfl) rfl (sg_ rfl (sg_ rfl (nn_ (gw_seq (sr_ (mv_ rfl (wl_ov (ov_un_not rfl) rfl (nn_ ?_))))))))))
 refine gw_cond rfl (fun hh => ?_) (fun hh => ?_)
 ·have h2 : so = false := by simpa using hh
  clear hh
  refine sr_ (sg_ rfl (sg_ rfl (nn_ ?_)))
  refine gw_ret ?_
  refine nx_then_ret ?_
  refine nx_ret2 rfl rfl rfl fun wx hm => ?_
  exact ⟨none, 0, 0, 12, [], rfl, (fun _ => ⟨rfl, rfl, rfl⟩), (fun h => absurd h (by decide)), SlT.nil_ _ _, by decide, hm.g⟩
 have h2 : so = true := by simpa using hh
 clear hh
 refine gw_skip (nx_then (sr_ ?_))
 have hsot : so = true := by simpa using h2
 subst hsot
 obtain ⟨hso1, hso2⟩ := hso
 have hpi := PlanI.start hlen hnb (fun a ha => hok a ha) hso1
 have hpi2 : PlanI nl n sa (nl.map hvF) (nl.map wtF) [] sr := ⟨hpi.lh, hpi.lw, hso2.all (p := fun i j c => (i < n ∧ j < n) ∧ (plP nl i = true ∧ plP nl j = false) ∧ 0 ≤ c ∧ c ≤ 1000000) hpi.arc, hpi.sr, hpi.sk, hpi.hB, hpi.wB, hso1.same hso2, hpi.out, hpi.in_, hpi.mv⟩
 have hsal : sa.length = k := by rw [← hso2.len]; exact hal
 refine wl_nilOwn 57 3 ?_
 refine sg_ rfl (nn_ (gw_seq (gw_block ?_)))
 refine gw_loop (γ := Nat × Option Addr × Nat × Option Addr × Nat × Option Addr × Nat × Nat × List Arc × List Int × List Int × List Mv × Nat × Value × List Value × Int) (fun gg => (gg.2.2.2.2.2.2.2.2.1.length = gg.2.2.2.2.2.2.1 ∧ gg.2.2.2.2.2.2.2.2.2.2.2.1.length = gg.2.2.2.2.2.2.2.2.2.2.2.2.1 ∧ gg.2.2.2.2.2.2.2.2.2.2.2.2.1 + gg.2.2.2.2.2.2.1 ≤ 100 ∧ gg.2.2.2.2.2.2.2.2.2.2.2.2.2.2.1 = gg.2.2.2.2.2.2.2.2.2.2.2.1.flatMap (mvEnc nl)) ∧ PlanI nl n gg.2.2.2.2.2.2.2.2.1 gg.2.2.2.2.2.2.2.2.2.1 gg.2.2.2.2.2.2.2.2.2.2.1 gg.2.2.2.2.2.2.2.2.2.2.2.1 gg.2.2.2.2.2.2.2.2.2.2.2.2.2.2.2) (fun gg => [(0, .slice (some ⟨nb, no, none⟩) n nc), (4, .slice none 0 0), (5, .int .i64 0), (7, .pointer (some ⟨gg.1, 0, none⟩)), (8, .int .i64 gg.2.2.2.2.2.2.2.2.2.2.2.2.2.2.2), (10, gg.2.2.2.2.2.2.2.2.2.2.2.2.2.1)]) (fun gg => fun _ => True) (fun gg => []) (fun gg => [⟨.slice gg.2.2.2.2.2.1 gg.2.2.2.2.2.2.1 gg.2.2.2.2.2.2.2.1, 79, 4, gg.2.2.2.2.2.2.1, gg.2.2.2.2.2.2.2.2.1.flatMap arEnc⟩, ⟨gg.2.2.2.2.2.2.2.2.2.2.2.2.2.1, 57, 3, gg.2.2.2.2.2.2.2.2.2.2.2.2.1, gg.2.2.2.2.2.2.2.2.2.2.2.2.2.2.1⟩]) (fun gg => [SlOld ndEnc 2 44 w.heap.size none (some ⟨nb, no, none⟩) n nl, fun wy => Blk wy gg.1 77 [.slice gg.2.1 n gg.2.2.1, .slice gg.2.2.2.1 n gg.2.2.2.2.1, .slice gg.2.2.2.2.2.1 gg.2.2.2.2.2.2.1 gg.2.2.2.2.2.2.2.1] ∧ SlT naEnc 1 3 wy gg.2.1 n gg.2.2.2.2.2.2.2.2.2.1 ∧ SlT naEnc 1 3 wy gg.2.2.2.1 n gg.2.2.2.2.2.2.2.2.2.2.1]) (fun gg => gg.2.2.2.2.2.2.1) (gx, hA, hc, wA, wc, aA, k, ac, sa, (nl.map hvF), (nl.map wtF), [], 0, (.slice none 0 0), [], sr) ⟨⟨hsal, rfl, by dsimp only; omega, rfl⟩, hpi2⟩ ⟨rfl, rfl, rfl, rfl, rfl, rfl, trivial⟩ (fun _ hm => hm.pick [] [1, 0] [2, 0] rfl rfl) ?_
 rintro ⟨gx, hA, hc, wA, wc, aA, k, ac, al, hL, wL, ou, kk, ov, ox, ls⟩ hinv
 replace hinv : (al.length = k ∧ ou.length = kk ∧ kk + k ≤ 100 ∧ ox = ou.flatMap (mvEnc nl)) ∧ PlanI nl n al hL wL ou ls := hinv
 dsimp only
 refine gw_seq (sr_ ?_)
 obtain ⟨⟨hal, hou, hkk, rfl⟩, hpi⟩ := hinv
 refine mv_ rfl (wl_ov (ov_nilcheck rfl) rfl (fd_ fo77_2 rfl rfl ?_))
 refine wl_ov (ov_load (v := .slice aA k ac) sc75 rfl (fun _ hm => (hm.fact 1 rfl).1) rfl) rfl ?_
 refine wl_ov (ov_len es75 rfl) rfl ?_
 refine wl_ov (ov_gtr rfl rfl) rfl ?_
 refine nn_ ?_
 refine gw_cond rfl (fun hh => ?_) (fun hh => ?_)
 ·have hk : 0 < ((k : Nat) : Int) := by simpa using hh
  clear hh
  refine gw_skip (nx_then (gw_block (sr_ ?_)))
  obtain ⟨⟨f, t, cr, fl⟩, alr, rfl⟩ : ∃ a r, al = a :: r := by
   cases al with
   | nil => rw [← hal] at hk; exact absurd hk (by decide)
   | cons a r => exact ⟨a, r, rfl⟩
  rw [List.length_cons] at hal
  refine wl_look (R := ∃ g, aA = some ⟨g, 0, none⟩) (fun wx hm => own_addr (hm.ownI 0 rfl) (by omega)) ?_
  rintro ⟨ga, rfl⟩
  obtain ⟨⟨hfn, htn⟩, ⟨hPf, hPt⟩, hcr⟩ := hpi.arc (⟨f, t, cr, fl⟩ : Arc) (List.mem_cons_self ..)
  dsimp only at hfn htn hPf hPt hcr
  have hlh := hpi.lh
  have hlw := hpi.lw
  obtain ⟨xf, hxf⟩ : ∃ x, hL[f]? = some x := ⟨_, List.getElem?_eq_getElem (by omega)⟩
  obtain ⟨yt, hyt⟩ : ∃ x, wL[t]? = some x := ⟨_, List.getElem?_eq_getElem (by omega)⟩
  have exf := atL_get hxf
  have eyt := atL_get hyt
  have hxB := hpi.hB f
  have hyB := hpi.wB t
  rw [exf] at hxB
  rw [eyt] at hyB
  obtain ⟨⟨n0, n1⟩, hnf⟩ : ∃ x, nl[f]? = some x := ⟨_, List.getElem?_eq_getElem (by omega)⟩
  obtain ⟨⟨m0, m1⟩, hnt⟩ : ∃ x, nl[t]? = some x := ⟨_, List.getElem?_eq_getElem (by omega)⟩
  have hlsB := hpi.sol.bound (H := 1000) (fun a ha => (hpi.arc a ha).1.1) (fun a ha => (hpi.arc a ha).2.2) (by decide) (fun i _ => (hpi.hB i).2)
  refine wl_look (R := ∃ b o, hA = some ⟨b, o, none⟩) (fun wx hm => by obtain ⟨b, off, hA, _, _⟩ := SlT.get (hm.fact 1 rfl).2.1 (by omega); exact ⟨b, off, hA⟩) ?_
  rintro ⟨hb, ho, rfl⟩
  refine wl_look (R := ∃ b o, wA = some ⟨b, o, none⟩) (fun wx hm => by obtain ⟨b, off, hA, _, _⟩ := SlT.get (hm.fact 1 rfl).2.2 (by omega); exact ⟨b, off, hA⟩) ?_
  rintro ⟨wb, wo, rfl⟩
  refine mv_ rfl (wl_ov (ov_nilcheck rfl) rfl (fd_ fo77_2 rfl rfl ?_))
  refine wl_ov (ov_load (v := .slice (some ⟨ga, 0, none⟩) k ac) sc75 rfl (fun _ hm => (hm.fact 1 rfl).1) rfl) rfl ?_
  refine wl_ov (ov_index (j := 0) es75 rfl rfl (by omega)) rfl ?_
  refine wl_ov (ov_elem (vs := [.int .i64 ((f : Nat) : Int), .int .i64 ((t : Nat) : Int), .int .i64 cr, .int .i64 fl]) rz79 rfl (fun _ hm => (SlT.ofOwn (l := (⟨f, t, cr, fl⟩ : Arc) :: alr) ar_len (hm.ownI 0 rfl) (by rw [List.length_cons]; exact hal))) (show ((⟨f, t, cr, fl⟩ : Arc) :: alr)[0]? = some (⟨f, t, cr, fl⟩ : Arc) from rfl) rfl rfl) rfl ?_
  refine wl_alloc zc79 rfl fun g2 => ?_
  refine wl_stores (cs' := [.int .i64 ((f : Nat) : Int), .int .i64 ((t : Nat) : Int), .int .i64 cr, .int .i64 fl]) 0 rz79 rfl rfl rfl rfl rfl rfl rfl rfl ?_
  refine nn_ (sr_ (sg_ rfl (nn_ ?_)))
  refine gw_cut (γ := Nat) (I := (fun (us : Nat) => (us ≤ 1000 ∧ ((us : Nat) : Int) ≤ xf ∧ ((us : Nat) : Int) ≤ yt) ∧ Solves n (lessF (atL hL) f ((us : Nat) : Int)) (lessF (atL wL) t ((us : Nat) : Int)) alr (ls - ((us : Nat) : Int) * cr) true)) (S' := (fun (us : Nat) => [(0, .slice (some ⟨nb, no, none⟩) n nc), (4, .slice none 0 0), (5, .int .i64 0), (7, .pointer (some ⟨gx, 0, none⟩)), (8, .int .i64 ls), (10, ov), (11, .pointer (some ⟨g2, 0, none⟩)), (12, .int .i64 ((us : Nat) : Int))])) (K' := (fun (us : Nat) => fun _ => True)) (L' := (fun (us : Nat) => [(g2, 79, [.int .i64 ((f : Nat) : Int), .int .i64 ((t : Nat) : Int), .int .i64 cr, .int .i64 fl])])) (O' := (fun (us : Nat) => [⟨.slice (some ⟨ga, 0, none⟩) k ac, 79, 4, k, ((⟨f, t, cr, fl⟩ : Arc) :: alr).flatMap arEnc⟩, ⟨ov, 57, 3, kk, ou.flatMap (mvEnc nl)⟩])) (X' := (fun (us : Nat) => [SlOld ndEnc 2 44 w.heap.size none (some ⟨nb, no, none⟩) n nl, fun wy => Blk wy gx 77 [.slice (some ⟨hb, ho, none⟩) n hc, .slice (some ⟨wb, wo, none⟩) n wc, .slice (some ⟨ga, 0, none⟩) k ac] ∧ SlT naEnc 1 3 wy (some ⟨hb, ho, none⟩) n hL ∧ SlT naEnc 1 3 wy (some ⟨wb, wo, none⟩) n wL])) ?_ ?_
  ·refine sr_ (sg_ rfl (nn_ (gw_block ?_)))
   refine gw_loop (γ := Nat) (fun (mz : Nat) => (1 ≤ mz ∧ mz ≤ 1001) ∧ NoneYet n hL wL (⟨f, t, cr, fl⟩ : Arc) alr xf yt ls mz) (fun (mz : Nat) => [(0, .slice (some ⟨nb, no, none⟩) n nc), (4, .slice none 0 0), (5, .int .i64 0), (7, .pointer (some ⟨gx, 0, none⟩)), (8, .int .i64 ls), (10, ov), (11, .pointer (some ⟨g2, 0, none⟩)), (12, .int .i64 0), (13, .int .i64 ((mz : Nat) : Int))]) (fun (mz : Nat) => fun _ => True) (fun (mz : Nat) => [(g2, 79, [.int .i64 ((f : Nat) : Int), .int .i64 ((t : Nat) : Int), .int .i64 cr, .int .i64 fl])]) (fun (mz : Nat) => [⟨.slice (some ⟨ga, 0, none⟩) k ac, 79, 4, k, ((⟨f, t, cr, fl⟩ : Arc) :: alr).flatMap arEnc⟩, ⟨ov, 57, 3, kk, ou.flatMap (mvEnc nl)⟩]) (fun (mz : Nat) => [SlOld ndEnc 2 44 w.heap.size none (some ⟨nb, no, none⟩) n nl, fun wy => Blk wy gx 77 [.slice (some ⟨hb, ho, none⟩) n hc, .slice (some ⟨wb, wo, none⟩) n wc, .slice (some ⟨ga, 0, none⟩) k ac] ∧ SlT naEnc 1 3 wy (some ⟨hb, ho, none⟩) n hL ∧ SlT naEnc 1 3 wy (some ⟨wb, wo, none⟩) n wL]) (fun (mz : Nat) => 1001 - mz) 1 ⟨⟨Nat.le_refl _, by decide⟩, NoneYet.one⟩ ⟨rfl, rfl, rfl, rfl, rfl, rfl, rfl, rfl, rfl, trivial⟩ (fun _ hm => hm.pick [0] [0, 1] [0, 1] rfl rfl) ?_
   intro mz hinv
   replace hinv : (1 ≤ mz ∧ mz ≤ 1001) ∧ NoneYet n hL wL (⟨f, t, cr, fl⟩ : Arc) alr xf yt ls mz := hinv
   refine gw_seq (gw_seq ?_)
   obtain ⟨⟨hmz1, hmz2⟩, hny⟩ := hinv
   refine gd (fun wz => Blk wz g2 79 [.int .i64 ((f : Nat) : Int), .int .i64 ((t : Nat) : Int), .int .i64 cr, .int .i64 fl] ∧ (SlOld ndEnc 2 44 w.heap.size none (some ⟨nb, no, none⟩) n nl) wz ∧ (fun wy => Blk wy gx 77 [.slice (some ⟨hb, ho, none⟩) n hc, .slice (some ⟨wb, wo, none⟩) n wc, .slice (some ⟨ga, 0, none⟩) k ac] ∧ SlT naEnc 1 3 wy (some ⟨hb, ho, none⟩) n hL ∧ SlT naEnc 1 3 wy (some ⟨wb, wo, none⟩) n wL) wz ∧ True) mixed (fun _ hm => ⟨hm.bl 0, hm.fa 0, hm.fa 1, trivial⟩) fun z => ?_
   refine wt 0 19 1 rfl z (ov_move rfl) ?_
   refine wt 1 19 3 rfl z (ov_move rfl) ?_
   refine wt 2 19 7 rfl z (ov_nilcheck rfl) ?_
   refine wt 3 19 15 rfl z (ov_field fo77_0 rfl rfl) ?_
   refine wt 4 19 31 rfl z (ov_load (v := .slice (some ⟨hb, ho, none⟩) n hc) sc22 rfl (fun _ hm => (hm.2.2.1).1) rfl) ?_
   refine wt 5 19 63 rfl z (ov_field fo79_0 rfl rfl) ?_
   refine wt 6 19 127 rfl z (ov_load sc3 rfl (fun _ hm => hm.1) rfl) ?_
   refine wt 7 19 255 rfl z (ov_index (j := f) es22 rfl rfl (by omega)) ?_
   refine wt 8 19 511 rfl z (ov_elem1 (k := 0) (v := .int .i64 xf) sc3 rfl (fun _ hm => (hm.2.2.1).2.1) hxf rfl rfl) ?_
   refine wt 9 19 1023 rfl z (ov_move rfl) ?_
   refine wt 10 19 2047 rfl z (ov_nilcheck rfl) ?_
   refine wt 11 19 4095 rfl z (ov_field fo77_1 rfl rfl) ?_
   refine wt 12 19 8191 rfl z (ov_load (v := .slice (some ⟨wb, wo, none⟩) n wc) sc22 rfl (fun _ hm => (hm.2.2.1).1) rfl) ?_
   refine wt 13 19 16383 rfl z (ov_field fo79_1 rfl rfl) ?_
   refine wt 14 19 32767 rfl z (ov_load sc3 rfl (fun _ hm => hm.1) rfl) ?_
   refine wt 15 19 65535 rfl z (ov_index (j := t) es22 rfl rfl (by omega)) ?_
   refine wt 16 19 131071 rfl z (ov_elem1 (k := 0) (v := .int .i64 yt) sc3 rfl (fun _ hm => (hm.2.2.1).2.2) hyt rfl rfl) ?_
   refine wt 17 19 262143 rfl z (ov_min rfl rfl) ?_
   refine wt 18 19 524287 rfl z (ov_leq rfl rfl) ?_
   refine wa_done (by kernel_rfl) ?_
   refine nx_then ?_
   refine gw_cond rfl (fun hh => ?_) (fun hh => ?_)
   ·have hmz : ((mz : Nat) : Int) ≤ min xf yt := by simpa using hh
    clear hh
    refine gw_skip (nx_then (gw_seq (gw_block (sr_ ?_))))
    obtain ⟨hr1, hr2, hr3, hr4⟩ := hpi.rest hxf hyt (m := ((mz : Nat) : Int)) (by omega) (by omega) (by omega)
    refine mv_ rfl (fd_ fo79_0 rfl rfl (lk_ sc3 0 rfl rfl rfl (fd_ fo79_1 rfl rfl (lk_ sc3 0 rfl rfl rfl (mv_ rfl ?_)))))
    refine wl_callgox (γ := Nat × Option Addr × Nat × Option Addr × Nat × Option Addr × Nat) (val := (fun g => .pointer (some ⟨g.1, 0, none⟩))) (φ := (fun g => True)) (Y := (fun g => fun wy => Blk wy g.1 77 [.slice g.2.1 n g.2.2.1, .slice g.2.2.2.1 n g.2.2.2.2.1, .slice g.2.2.2.2.2.1 (k - 1) g.2.2.2.2.2.2] ∧ SlT naEnc 1 3 wy g.2.1 n (hL.set f (xf - ((mz : Nat) : Int))) ∧ SlT naEnc 1 3 wy g.2.2.2.1 n (wL.set t (yt - ((mz : Nat) : Int))))) (fun g => ⟨.slice g.2.2.2.2.2.1 (k - 1) g.2.2.2.2.2.2, 79, 4, (k - 1), (((⟨f, t, cr, fl⟩ : Arc) :: alr).drop 1).flatMap arEnc⟩) rfl cb17 rfl rfl (fun wx hm => (rest_any ((⟨f, t, cr, fl⟩ : Arc) :: alr) hL wL gx f t ((mz : Nat) : Int) xf yt (some ⟨hb, ho, none⟩) (some ⟨wb, wo, none⟩) (some ⟨ga, 0, none⟩) n hc wc k ac wx (hm.fact 1 rfl).1 (hm.fact 1 rfl).2.1 (hm.fact 1 rfl).2.2 (SlT.ofOwn ar_len (hm.ownI 0 rfl) (by rw [List.length_cons]; exact hal)) (own_capL (hm.ownI 0 rfl)) (by omega) (by omega) (by omega) hxf hyt ⟨⟨by omega, by omega⟩, ⟨by omega, by omega⟩, by omega, by omega⟩).mono fun _ _ ⟨gy, lA, lc, kA, kc, bA, bc, he, ho, ht, hg⟩ => ⟨(gy, lA, lc, kA, kc, bA, bc), he, trivial, ho, hg, ht⟩) (fun _ => Tr2.lasts rfl rfl) ?_
    rintro ⟨gy, lA, lc, kA, kc, bA, bc⟩ hrs
    dsimp only
    clear hrs
    refine wl_callrx (γ := Int × Bool × List Arc) (val := fun g => .tuple #[.int .i64 g.1, .bool g.2.1]) (φ := fun g => Solves n (atL (hL.set f (xf - ((mz : Nat) : Int)))) (atL (wL.set t (yt - ((mz : Nat) : Int)))) alr g.1 g.2.1 ∧ SameA alr g.2.2) (xs' := fun g => g.2.2.flatMap arEnc) 0 rfl rfl rfl cb16 rfl rfl (fun wx hm => (solve_any alr (hL.set f (xf - ((mz : Nat) : Int))) (wL.set t (yt - ((mz : Nat) : Int))) (plP nl) gy _ lA kA bA n lc kc (k - 1) bc wx (hm.fact 0 rfl).1 (hm.fact 0 rfl).2.1 (hm.fact 0 rfl).2.2 (hm.ownI 0 rfl) (by omega) (by omega) (fun a ha => hpi.arc a (List.mem_cons_of_mem _ ha)) hr1 hr2 hr3 hr4 hn0 hn).mono fun _ _ ⟨r, ok, al, he, h1, h2, h3, h4⟩ => ⟨(r, ok, al), he, ⟨h1, h2⟩, h3, h4⟩) ?_
    rintro ⟨sr, so, sa⟩ hso
    dsimp only at hso ⊢
    have hso1 := hso.1
    rw [atL_less hxf, atL_less hyt] at hso1
    obtain ⟨hmb1, hmb2⟩ := mulB (a := ((mz : Nat) : Int)) (b := cr) (A := 1000) (B := 1000000) (by omega) (by omega) (by omega) (by omega)
    refine mv_ rfl (wl_ov (ov_extract rfl rfl) rfl (wl_ov (ov_extract rfl rfl) rfl (sg_ rfl (sg_ rfl (nn_ (sr_ (mv_ rfl (mv_ rfl ?_))))))))
    rcases Bool.eq_false_or_eq_true so with hok1 | hok1
    ·refine wl_set 77 rfl (congrArg Value.bool hok1) ?_
     rw [hok1] at hso1
     have hsrB := hso1.bound (M := 1000000) (H := 1000) (fun a ha => (hpi.arc a (List.mem_cons_of_mem _ ha)).1.1) (fun a ha => (hpi.arc a (List.mem_cons_of_mem _ ha)).2.2) (by decide) (fun i _ => by have := (hr3 i).2; rw [atL_less hxf] at this; exact this)
     refine wl_guard_on rfl rfl rfl (mv_ rfl (wl_guard_on rfl rfl rfl (mv_ rfl (wl_guard_on rfl rfl rfl (fd_ fo79_2 rfl rfl (wl_guard_on rfl rfl rfl (lk_ sc3 0 rfl rfl rfl (wl_guard_on rfl rfl rfl ?_))))))))
     refine wl_ov (ov_mul rfl rfl (by omega) (by omega)) rfl ?_
     refine wl_guard_on rfl rfl rfl (ad_ rfl rfl (wl_guard_on rfl rfl rfl (mv_ rfl (wl_guard_on rfl rfl rfl (wl_ov (ov_eql rfl rfl) rfl (pt_ rfl rfl (nn_ ?_)))))))
     refine gw_cond rfl (fun hh => ?_) (fun hh => ?_)
     ·have hhit : sr + (((mz : Nat) : Int) * cr) = ls := by simpa using hh
      clear hh
      refine sr_ (mv_ rfl (sg_ rfl (nn_ ?_)))
      refine gw_exit ?_
      refine nx_blk_on rfl ?_
      refine nx_then_exit (nx_then_exit ?_)
      refine nx_blk_here ?_
      exact nx_meet mz ⟨⟨by omega, by omega, by omega⟩, plan_found (c := (⟨f, t, cr, fl⟩ : Arc)) hso1 hhit⟩ ⟨rfl, rfl, rfl, rfl, rfl, rfl, rfl, rfl, trivial⟩ (fun _ hm => hm.pick [0] [1, 2] [1, 2] rfl rfl)
     have hhit : ¬ (sr + (((mz : Nat) : Int) * cr) = ls) := by simpa using hh
     clear hh
     refine gw_skip (nx_blk_nrm (nx_then (gw_region (mv_ rfl (ad_ rfl rfl (sg_ rfl (wl_nil ?_)))))))
     exact nx_round (mz + 1) ⟨⟨by omega, by omega⟩, hny.next hso1 (fun _ => hhit)⟩ (by omega) ⟨rfl, rfl, rfl, rfl, rfl, rfl, rfl, rfl, (some_int (by omega)), trivial⟩ (fun _ hm => hm.pick [0] [1, 2] [1, 2] rfl rfl)
    refine wl_set 77 rfl (congrArg Value.bool hok1) ?_
    refine goff rfl rfl rfl (goff rfl rfl rfl (goff rfl rfl rfl (goff rfl rfl rfl (goff rfl rfl rfl (goff rfl rfl rfl (goff rfl rfl rfl (goff rfl rfl rfl (pf_ rfl rfl (nn_ (cf_ rfl (gw_skip (nx_blk_nrm ?_))))))))))))
    refine nx_then (gw_region (mv_ rfl (ad_ rfl rfl (sg_ rfl (wl_nil ?_)))))
    exact nx_round (mz + 1) ⟨⟨by omega, by omega⟩, hny.next hso1 (fun h => by rw [hok1] at h; cases h)⟩ (by omega) ⟨rfl, rfl, rfl, rfl, rfl, rfl, rfl, rfl, (some_int (by omega)), trivial⟩ (fun _ hm => hm.pick [0] [1, 2] [1, 2] rfl rfl)
   have hmz : ¬ (((mz : Nat) : Int) ≤ min xf yt) := by simpa using hh
   clear hh
   refine gw_exit ?_
   refine nx_then_exit (nx_then_exit ?_)
   refine nx_blk_here ?_
   exact nx_meet 0 ⟨⟨by omega, by omega, by omega⟩, plan_zero hpi hxf hyt hny hmz⟩ ⟨rfl, rfl, rfl, rfl, rfl, rfl, rfl, rfl, trivial⟩ (fun _ hm => hm.pick [0] [0, 1] [0, 1] rfl rfl)
  intro us hinv
  replace hinv : (us ≤ 1000 ∧ ((us : Nat) : Int) ≤ xf ∧ ((us : Nat) : Int) ≤ yt) ∧ Solves n (lessF (atL hL) f ((us : Nat) : Int)) (lessF (atL wL) t ((us : Nat) : Int)) alr (ls - ((us : Nat) : Int) * cr) true := hinv
  refine gw_seq (sr_ ?_)
  obtain ⟨⟨hus, hus1, hus2⟩, hsl⟩ := hinv
  have hps := hpi.step hxf hyt hus1 hus2 hsl
  dsimp only at hps
  obtain ⟨hmb1, hmb2⟩ := mulB (a := ((us : Nat) : Int)) (b := cr) (A := 1000) (B := 1000000) (by omega) (by omega) (by omega) (by omega)
  refine mv_ rfl ?_
  refine wl_ov (ov_gtr rfl rfl) rfl ?_
  refine nn_ ?_
  refine gw_cond rfl (fun hh => ?_) (fun hh => ?_)
  ·have hu : 0 < ((us : Nat) : Int) := by simpa using hh
   clear hh
   refine gd (fun wz => Blk wz g2 79 [.int .i64 ((f : Nat) : Int), .int .i64 ((t : Nat) : Int), .int .i64 cr, .int .i64 fl] ∧ (SlOld ndEnc 2 44 w.heap.size none (some ⟨nb, no, none⟩) n nl) wz ∧ (fun wy => Blk wy gx 77 [.slice (some ⟨hb, ho, none⟩) n hc, .slice (some ⟨wb, wo, none⟩) n wc, .slice (some ⟨ga, 0, none⟩) k ac] ∧ SlT naEnc 1 3 wy (some ⟨hb, ho, none⟩) n hL ∧ SlT naEnc 1 3 wy (some ⟨wb, wo, none⟩) n wL) wz ∧ True) mixed (fun _ hm => ⟨hm.bl 0, hm.fa 0, hm.fa 1, trivial⟩) fun z => ?_
   refine wt 0 18 1 rfl z (ov_move rfl) ?_
   refine wt 1 18 3 rfl z (ov_move rfl) ?_
   refine wt 2 18 7 rfl z (ov_field fo79_0 rfl rfl) ?_
   refine wt 3 18 15 rfl z (ov_load sc3 rfl (fun _ hm => hm.1) rfl) ?_
   refine wt 4 18 31 rfl z (ov_index (j := f) es35 rfl rfl (by omega)) ?_
   refine wt 5 18 63 rfl z (ov_field fo44_0 rfl rfl) ?_
   refine wt 6 18 127 rfl z (ov_elem1 (k := 0) (v := .string n0) sc9 rfl (fun _ hm => (hm.2.1).1) hnf rfl rfl) ?_
   refine wt 7 18 255 rfl z (ov_move rfl) ?_
   refine wt 8 18 511 rfl z (ov_field fo79_1 rfl rfl) ?_
   refine wt 9 18 1023 rfl z (ov_load sc3 rfl (fun _ hm => hm.1) rfl) ?_
   refine wt 10 18 2047 rfl z (ov_index (j := t) es35 rfl rfl (by omega)) ?_
   refine wt 11 18 4095 rfl z (ov_field fo44_0 rfl rfl) ?_
   refine wt 12 18 8191 rfl z (ov_elem1 (k := 0) (v := .string m0) sc9 rfl (fun _ hm => (hm.2.1).1) hnt rfl rfl) ?_
   refine wt 13 18 16383 rfl z (ov_move rfl) ?_
   refine wt 14 18 32767 rfl z (ov_build (cs := [.string n0, .string m0, .int .i64 ((us : Nat) : Int)]) rfl (by kernel_rfl)) ?_
   refine wa1 15 rfl ?_
   refine wl_buildSlice (e := 57) (cs := [.string n0, .string m0, .int .i64 ((us : Nat) : Int)]) rfl (by kernel_rfl) rfl fun g3 => ?_
   refine wl_nil ?_
   refine nw 18 65535 (fun _ hm => ⟨hm.bl 1, hm.fa 0, hm.fa 1, trivial⟩) fun z => ?_
   refine wa1 16 rfl ?_
   refine wl_append (news := [.string n0, .string m0, .int .i64 ((us : Nat) : Int)]) 1 0 ap51 rfl rfl rfl rfl rfl rfl rfl (by omega) (by unfold maxLen; omega) rfl rfl fun ov2 hov => ?_
   unfold addMv at hps
   rw [if_neg (by omega)] at hps
   refine wl_nil ?_
   refine nw 18 131071 (fun _ hm => ⟨hm.bl 1, hm.fa 0, hm.fa 1, trivial⟩) fun z => ?_
   refine wt 17 18 262143 rfl z (ov_assign rfl) ?_
   refine wa_done (by kernel_rfl) ?_
   refine nx_then (sr_ (mv_ rfl (fd_ fo79_0 rfl rfl (lk_ sc3 1 rfl rfl rfl (fd_ fo79_1 rfl rfl (lk_ sc3 1 rfl rfl rfl (mv_ rfl ?_)))))))
   refine wl_callgox (γ := Nat × Option Addr × Nat × Option Addr × Nat × Option Addr × Nat) (val := (fun g => .pointer (some ⟨g.1, 0, none⟩))) (φ := (fun g => True)) (Y := (fun g => fun wy => Blk wy g.1 77 [.slice g.2.1 n g.2.2.1, .slice g.2.2.2.1 n g.2.2.2.2.1, .slice g.2.2.2.2.2.1 (k - 1) g.2.2.2.2.2.2] ∧ SlT naEnc 1 3 wy g.2.1 n (hL.set f (xf - ((us : Nat) : Int))) ∧ SlT naEnc 1 3 wy g.2.2.2.1 n (wL.set t (yt - ((us : Nat) : Int))))) (fun g => ⟨.slice g.2.2.2.2.2.1 (k - 1) g.2.2.2.2.2.2, 79, 4, (k - 1), (((⟨f, t, cr, fl⟩ : Arc) :: alr).drop 1).flatMap arEnc⟩) rfl cb17 rfl rfl (fun wx hm => (rest_any ((⟨f, t, cr, fl⟩ : Arc) :: alr) hL wL gx f t ((us : Nat) : Int) xf yt (some ⟨hb, ho, none⟩) (some ⟨wb, wo, none⟩) (some ⟨ga, 0, none⟩) n hc wc k ac wx (hm.fact 1 rfl).1 (hm.fact 1 rfl).2.1 (hm.fact 1 rfl).2.2 (SlT.ofOwn ar_len (hm.ownI 0 rfl) (by rw [List.length_cons]; exact hal)) (own_capL (hm.ownI 0 rfl)) (by omega) (by omega) (by omega) hxf hyt ⟨⟨by omega, by omega⟩, ⟨by omega, by omega⟩, by omega, by omega⟩).mono fun _ _ ⟨gy, lA, lc, kA, kc, bA, bc, he, ho, ht, hg⟩ => ⟨(gy, lA, lc, kA, kc, bA, bc), he, trivial, ho, hg, ht⟩) (fun _ => Tr2.lasts rfl rfl) ?_
   rintro ⟨gy, lA, lc, kA, kc, bA, bc⟩ hrs
   dsimp only
   clear hrs
   refine sg_ rfl (nn_ (gw_region (mv_ rfl (mv_ rfl (fd_ fo79_2 rfl rfl (lk_ sc3 1 rfl rfl rfl ?_))))))
   refine wl_ov (ov_mul rfl rfl (by omega) (by omega)) rfl ?_
   refine wl_ov (ov_sub rfl rfl (by omega) (by omega)) rfl ?_
   refine sg_ rfl (wl_nil (nx_blk_nrm ?_))
   exact nx_round (gy, lA, lc, kA, kc, bA, (k - 1), bc, alr, (hL.set f (xf - ((us : Nat) : Int))), (wL.set t (yt - ((us : Nat) : Int))), ou ++ [⟨f, t, ((us : Nat) : Int)⟩], kk + 1, ov2, (ou.flatMap (mvEnc nl) ++ ([.string n0, .string m0, .int .i64 ((us : Nat) : Int)] : List Value)), (ls - ((us : Nat) : Int) * cr)) ⟨⟨by dsimp only; omega, by simp [hou], by dsimp only; omega, by rw [List.flatMap_append, List.flatMap_cons, List.flatMap_nil, List.append_nil, mv_cells hnf hnt]⟩, hps⟩ (by dsimp only; omega) ⟨rfl, rfl, rfl, rfl, rfl, rfl, trivial⟩ (fun _ hm => hm.pick [] [0, 2] [1, 0] rfl rfl)
  have hu : ¬ (0 < ((us : Nat) : Int)) := by simpa using hh
  clear hh
  refine gw_skip (nx_then (sr_ ?_))
  unfold addMv at hps
  rw [if_pos (by omega)] at hps
  refine mv_ rfl (fd_ fo79_0 rfl rfl (lk_ sc3 0 rfl rfl rfl (fd_ fo79_1 rfl rfl (lk_ sc3 0 rfl rfl rfl (mv_ rfl ?_)))))
  refine wl_callgox (γ := Nat × Option Addr × Nat × Option Addr × Nat × Option Addr × Nat) (val := (fun g => .pointer (some ⟨g.1, 0, none⟩))) (φ := (fun g => True)) (Y := (fun g => fun wy => Blk wy g.1 77 [.slice g.2.1 n g.2.2.1, .slice g.2.2.2.1 n g.2.2.2.2.1, .slice g.2.2.2.2.2.1 (k - 1) g.2.2.2.2.2.2] ∧ SlT naEnc 1 3 wy g.2.1 n (hL.set f (xf - ((us : Nat) : Int))) ∧ SlT naEnc 1 3 wy g.2.2.2.1 n (wL.set t (yt - ((us : Nat) : Int))))) (fun g => ⟨.slice g.2.2.2.2.2.1 (k - 1) g.2.2.2.2.2.2, 79, 4, (k - 1), (((⟨f, t, cr, fl⟩ : Arc) :: alr).drop 1).flatMap arEnc⟩) rfl cb17 rfl rfl (fun wx hm => (rest_any ((⟨f, t, cr, fl⟩ : Arc) :: alr) hL wL gx f t ((us : Nat) : Int) xf yt (some ⟨hb, ho, none⟩) (some ⟨wb, wo, none⟩) (some ⟨ga, 0, none⟩) n hc wc k ac wx (hm.fact 1 rfl).1 (hm.fact 1 rfl).2.1 (hm.fact 1 rfl).2.2 (SlT.ofOwn ar_len (hm.ownI 0 rfl) (by rw [List.length_cons]; exact hal)) (own_capL (hm.ownI 0 rfl)) (by omega) (by omega) (by omega) hxf hyt ⟨⟨by omega, by omega⟩, ⟨by omega, by omega⟩, by omega, by omega⟩).mono fun _ _ ⟨gy, lA, lc, kA, kc, bA, bc, he, ho, ht, hg⟩ => ⟨(gy, lA, lc, kA, kc, bA, bc), he, trivial, ho, hg, ht⟩) (fun _ => Tr2.lasts rfl rfl) ?_
  rintro ⟨gy, lA, lc, kA, kc, bA, bc⟩ hrs
  dsimp only
  clear hrs
  refine sg_ rfl (nn_ (gw_region (mv_ rfl (mv_ rfl (fd_ fo79_2 rfl rfl (lk_ sc3 0 rfl rfl rfl ?_))))))
  refine wl_ov (ov_mul rfl rfl (by omega) (by omega)) rfl ?_
  refine wl_ov (ov_sub rfl rfl (by omega) (by omega)) rfl ?_
  refine sg_ rfl (wl_nil (nx_blk_nrm ?_))
  exact nx_round (gy, lA, lc, kA, kc, bA, (k - 1), bc, alr, (hL.set f (xf - ((us : Nat) : Int))), (wL.set t (yt - ((us : Nat) : Int))), ou, kk, ov, (ou.flatMap (mvEnc nl)), (ls - ((us : Nat) : Int) * cr)) ⟨⟨by dsimp only; omega, hou, by dsimp only; omega, rfl⟩, hps⟩ (by dsimp only; omega) ⟨rfl, rfl, rfl, rfl, rfl, rfl, trivial⟩ (fun _ hm => hm.pick [] [0, 2] [1, 0] rfl rfl)
 have hk : ¬ (0 < ((k : Nat) : Int)) := by simpa using hh
 clear hh
 refine gw_exit ?_
 refine nx_then_exit (nx_then_exit ?_)
 refine nx_blk_here ?_
 refine nx_then (sr_ ?_)
 have hal0 : al = [] := List.length_eq_zero_iff.1 (by omega)
 subst hal0
 have hdn := hpi.done
 refine mv_ rfl (sg_ rfl (sg_ rfl (nn_ ?_)))
 refine gw_ret ?_
 refine nx_ret2 rfl rfl rfl fun wx hm => ?_
 obtain ⟨oA, oc, rfl⟩ := own_slice (hm.ownI 1 rfl)
 exact ⟨oA, kk, oc, 0, ou, rfl, (fun h => absurd rfl h), (fun _ => hdn), SlT.ofOwn (mv_len nl) (hm.ownI 1 rfl) hou, by omega, hm.g⟩
end Go.Proofs.Ytodcildcipfmcaa
namespace Go.Proofs.Ytodcildcipfmcaa
open Go.RowKit
theorem ro_next {l : List Ro} (h : ∀ x ∈ l, RoB x) {y : Ro} (hy : RoB y) : ∀ x ∈ l ++ [y], RoB x := fun x hx => by
  rcases List.mem_append.1 hx with hx | hx
  · exact h x hx
  · rw [List.mem_singleton.1 hx]; exact hy
theorem mem3 {a b c v : ByteArray} (h : v ∈ [a, b, c]) (ha : a.size ≤ 1000) (hb : b.size ≤ 1000) (hc : c.size ≤ 1000) : v.size ≤ 1000 := by
  rcases List.mem_cons.1 h with rfl | h
  · exact ha
  · rcases List.mem_cons.1 h with rfl | h
    · exact hb
    · rw [List.mem_singleton.1 h]; exact hc
theorem ro_set {l : List Ro} (h : ∀ x ∈ l, RoB x) {y : Ro} (hy : RoB y) {i : Nat} : ∀ x ∈ l.set i y, RoB x := fun x hx => by
  rcases List.mem_or_eq_of_mem_set hx with hx | rfl
  · exact h x hx
  · exact hy
theorem groads_any (w : World) (B sb m : Nat) (hS : Strm 25 w B sb m) (hm : m ≤ 100000000) :
  Calls Try.prog 5 #[.pointer (some ⟨sb, 0, none⟩)] w (fun e w' => ∃ (A : Option Addr) (n c : Nat) (l : List Ro), e = .returned (.slice A n c) ∧ SlT roEnc 4 66 w' A n l ∧ (∀ x ∈ l, RoB x) ∧ n ≤ 25 ∧ Strm 25 w' B sb (m + 1000) ∧ w.grownBy w' (some sb)) := by
 refine gw_enter ⟨82, w, (some sb), []⟩ Try.func5 rfl Try.ntmps5 rfl (memS (X := []) hS allF_nil allL_nil) ?_
 refine sr_ ?_
 refine wl_nilOwn 66 4 ?_
 refine sg_ rfl (nn_ (sr_ (sg_ rfl (nn_ (gw_seq (sr_ ?_))))))
 refine wl_buildSlice (e := 9) (cs := [.string ⟨#[97]⟩, .string ⟨#[98]⟩, .string ⟨#[99]⟩, .string ⟨#[100]⟩, .string ⟨#[101]⟩]) rfl (by kernel_rfl) rfl fun g1 => ?_
 refine wl_ov (ov_len es36 rfl) rfl ?_
 refine wl_set 10 (v' := .int .i64 5) rfl rfl ?_
 refine mv_ rfl (nn_ (gw_block ?_))
 refine gw_loop (γ := Nat × Nat × Value × List Ro × List Value) (fun gg => (gg.1 ≤ 5 ∧ gg.2.1 ≤ 5 * gg.1) ∧ gg.2.2.2.1.length = gg.2.1 ∧ (∀ x ∈ gg.2.2.2.1, RoB x) ∧ gg.2.2.2.2 = gg.2.2.2.1.flatMap roEnc) (fun gg => [(0, .pointer (some ⟨sb, 0, none⟩)), (2, .slice none 0 0), (3, gg.2.2.1), (9, .slice (some ⟨g1, 0, none⟩) 5 5), (10, .int .i64 5), (11, .int .i64 ((gg.1 : Nat) : Int))]) (fun gg => fun w => Strm 25 w B sb (m + 100 * gg.1)) (fun gg => [(g1, 9, [.string ⟨#[97]⟩, .string ⟨#[98]⟩, .string ⟨#[99]⟩, .string ⟨#[100]⟩, .string ⟨#[101]⟩])]) (fun gg => [⟨gg.2.2.1, 66, 4, gg.2.1, gg.2.2.2.2⟩]) (fun gg => []) (fun gg => 5 - gg.1) (0, 0, .slice none 0 0, [], []) ⟨⟨Nat.zero_le _, Nat.zero_le _⟩, rfl, (fun _ h => by cases h), rfl⟩ ⟨rfl, rfl, rfl, rfl, rfl, rfl, trivial⟩ (fun _ hm => (hm.more rfl (by first | omega | (dsimp only; omega))).pick [0] [0] [] rfl rfl) ?_
 rintro ⟨i, k, v, l, xs⟩ hinv
 replace hinv : (i ≤ 5 ∧ k ≤ 5 * i) ∧ l.length = k ∧ (∀ x ∈ l, RoB x) ∧ xs = l.flatMap roEnc := hinv
 dsimp only
 refine sr_ ?_
 obtain ⟨⟨hi0, hki⟩, hl, hB, rfl⟩ := hinv
 refine wl_ov (ov_lss rfl rfl) rfl (nn_ (gw_seq ?_))
 refine gw_cond rfl (fun hh => ?_) (fun hh => ?_)
 ·have hi : ((i : Nat) : Int) < 5 := by simpa using hh
  clear hh
  refine gw_skip (nx_then (gw_seq (gw_block (sr_ ?_))))
  obtain ⟨ka, hka⟩ : ∃ x, ([⟨#[97]⟩, ⟨#[98]⟩, ⟨#[99]⟩, ⟨#[100]⟩, ⟨#[101]⟩] : List ByteArray)[i]? = some x := ⟨_, List.getElem?_eq_getElem (by simp; omega)⟩
  have hzka : ka.size ≤ 100 := mem_sz (List.mem_of_getElem? hka) (by decide)
  refine wl_ov (ov_index (j := i) es36 rfl rfl (by omega)) rfl ?_
  refine wl_ov (ov_elem1 (k := 0) (v := .string ka) sc9 rfl (fun _ hm => (SlT.ofBlk (l := [⟨#[97]⟩, ⟨#[98]⟩, ⟨#[99]⟩, ⟨#[100]⟩, ⟨#[101]⟩]) sg_len (hm.blkI 0 rfl))) hka rfl rfl) rfl ?_
  refine sg_ rfl (nn_ (sr_ ?_))
  refine wl_buildSlice (e := 9) (cs := [.string ⟨#[97]⟩, .string ⟨#[98]⟩, .string ⟨#[99]⟩, .string ⟨#[100]⟩, .string ⟨#[101]⟩]) rfl (by kernel_rfl) rfl fun g2 => ?_
  refine wl_ov (ov_len es36 rfl) rfl ?_
  refine wl_set 16 (v' := .int .i64 5) rfl rfl ?_
  refine mv_ rfl (nn_ (gw_block ?_))
  refine gw_loop (γ := Nat × Nat × Value × List Ro × List Value) (fun gg => (gg.1 ≤ 5 ∧ gg.2.1 ≤ 5 * i + gg.1) ∧ gg.2.2.2.1.length = gg.2.1 ∧ (∀ x ∈ gg.2.2.2.1, RoB x) ∧ gg.2.2.2.2 = gg.2.2.2.1.flatMap roEnc) (fun gg => [(0, .pointer (some ⟨sb, 0, none⟩)), (2, .slice none 0 0), (3, gg.2.2.1), (5, .string ka), (9, .slice (some ⟨g1, 0, none⟩) 5 5), (10, .int .i64 5), (11, .int .i64 ((i : Nat) : Int)), (15, .slice (some ⟨g2, 0, none⟩) 5 5), (16, .int .i64 5), (17, .int .i64 ((gg.1 : Nat) : Int))]) (fun gg => fun w => Strm 25 w B sb (m + 100 * i + 10 * gg.1)) (fun gg => [(g2, 9, [.string ⟨#[97]⟩, .string ⟨#[98]⟩, .string ⟨#[99]⟩, .string ⟨#[100]⟩, .string ⟨#[101]⟩]), (g1, 9, [.string ⟨#[97]⟩, .string ⟨#[98]⟩, .string ⟨#[99]⟩, .string ⟨#[100]⟩, .string ⟨#[101]⟩])]) (fun gg => [⟨gg.2.2.1, 66, 4, gg.2.1, gg.2.2.2.2⟩]) (fun gg => []) (fun gg => 5 - gg.1) (0, k, v, l, (l.flatMap roEnc)) ⟨⟨Nat.zero_le _, by dsimp only; omega⟩, hl, hB, rfl⟩ ⟨rfl, rfl, rfl, rfl, rfl, rfl, rfl, rfl, rfl, rfl, trivial⟩ (fun _ hm => (hm.more rfl (by first | omega | (dsimp only; omega))).pick [0, 1] [0] [] rfl rfl) ?_
  rintro ⟨j, kk, v2, q, xs2⟩ hinv
  replace hinv : (j ≤ 5 ∧ kk ≤ 5 * i + j) ∧ q.length = kk ∧ (∀ x ∈ q, RoB x) ∧ xs2 = q.flatMap roEnc := hinv
  dsimp only
  refine sr_ ?_
  obtain ⟨⟨hj0, hkj⟩, hql, hqB, rfl⟩ := hinv
  refine wl_ov (ov_lss rfl rfl) rfl (nn_ (gw_seq ?_))
  refine gw_cond rfl (fun hh => ?_) (fun hh => ?_)
  ·have hj : ((j : Nat) : Int) < 5 := by simpa using hh
   clear hh
   refine gw_skip (nx_then (gw_seq (gw_block (sr_ ?_))))
   obtain ⟨kb, hkb⟩ : ∃ x, ([⟨#[97]⟩, ⟨#[98]⟩, ⟨#[99]⟩, ⟨#[100]⟩, ⟨#[101]⟩] : List ByteArray)[j]? = some x := ⟨_, List.getElem?_eq_getElem (by simp; omega)⟩
   have hzkb : kb.size ≤ 100 := mem_sz (List.mem_of_getElem? hkb) (by decide)
   refine wl_ov (ov_index (j := j) es36 rfl rfl (by omega)) rfl ?_
   refine wl_ov (ov_elem1 (k := 0) (v := .string kb) sc9 rfl (fun _ hm => (SlT.ofBlk (l := [⟨#[97]⟩, ⟨#[98]⟩, ⟨#[99]⟩, ⟨#[100]⟩, ⟨#[101]⟩]) sg_len (hm.blkI 0 rfl))) hkb rfl rfl) rfl ?_
   refine sg_ rfl (nn_ (sr_ (mv_ rfl (mv_ rfl (wl_ov (ov_sneq rfl rfl) rfl (mv_ rfl ?_))))))
   rcases Bool.eq_false_or_eq_true (!(ka.toList == kb.toList)) with hg3 | hg3
   ·refine wl_set 24 rfl (congrArg Value.bool hg3) ?_
    refine wl_guard_on rfl rfl rfl (mv_ rfl (wl_guard_on rfl rfl rfl ?_))
    refine wl_got (γ := Bool) (val := fun v => .bool v) (φ := fun v => True) rfl cb11 rfl rfl rfl rfl (fun wx hm => ((flip_any _ wx B sb _ hm.k (by omega) (by omega) (by omega)).mono fun _ _ ⟨v, he, hS, hg⟩ => ⟨v, trivial, he, hS, hg⟩)) fun f4 _ => ?_
    refine wl_guard_on rfl rfl rfl (wl_ov (ov_un_not rfl) rfl (pt_ rfl rfl (nn_ ?_)))
    refine gw_cond rfl (fun hh => ?_) (fun hh => ?_)
    ·have hcd : f4 = false := by simpa using hh
     clear hh
     refine gw_region (mv_ rfl (mv_ rfl (mv_ rfl (mv_ rfl ?_))))
     refine wl_buildSlice (e := 3) (cs := [.int .i64 0, .int .i64 1, .int .i64 3, .int .i64 5, .int .i64 5, .int .i64 8, .int .i64 20]) rfl (by kernel_rfl) rfl fun g5 => ?_
     refine wl_got (γ := Int) (val := fun v => .int .i64 v) (φ := fun v => v ∈ ([0, 1, 3, 5, 5, 8, 20] : List Int)) rfl cb4 rfl rfl rfl rfl (fun wx hm => (pick_any [0, 1, 3, 5, 5, 8, 20] _ _ _ wx B sb _ hm.k (by omega) (by simp) (by simp) (hm.blkI 0 rfl) (hm.neRow 0 rfl rfl))) fun v6 hv6 => ?_
     have bv6 : 0 ≤ v6 ∧ v6 ≤ 20 := mem_rng hv6 (by decide)
     have bv60 := bv6.1
     have bv61 := bv6.2
     clear bv6
     refine mv_ rfl ?_
     refine wl_buildSlice (e := 3) (cs := [.int .i64 0, .int .i64 1, .int .i64 2, .int .i64 4]) rfl (by kernel_rfl) rfl fun g7 => ?_
     refine wl_got (γ := Int) (val := fun v => .int .i64 v) (φ := fun v => v ∈ ([0, 1, 2, 4] : List Int)) rfl cb4 rfl rfl rfl rfl (fun wx hm => (pick_any [0, 1, 2, 4] _ _ _ wx B sb _ hm.k (by omega) (by simp) (by simp) (hm.blkI 0 rfl) (hm.neRow 0 rfl rfl))) fun v8 hv8 => ?_
     have bv8 : 0 ≤ v8 ∧ v8 ≤ 4 := mem_rng hv8 (by decide)
     have bv80 := bv8.1
     have bv81 := bv8.2
     clear bv8
     refine wl_ov (ov_build (cs := [.string ka, .string kb, .int .i64 v6, .int .i64 v8]) rfl (by kernel_rfl)) rfl ?_
     refine wl_buildSlice (e := 66) (cs := [.string ka, .string kb, .int .i64 v6, .int .i64 v8]) rfl (by kernel_rfl) rfl fun g9 => ?_
     refine wl_append (news := [.string ka, .string kb, .int .i64 v6, .int .i64 v8]) 0 0 ap49 rfl rfl rfl rfl rfl rfl rfl (by omega) (by unfold maxLen; omega) rfl rfl fun v3 hv3 => ?_
     refine sg_ rfl (wl_nil (nx_blk_nrm (nx_then (gw_region (ad_ rfl rfl (mv_ rfl (wl_nil ?_)))))))
     exact nx_round (j + 1, kk + 1, v3, q ++ [⟨ka, kb, v6, v8⟩], (q.flatMap roEnc ++ ([.string ka, .string kb, .int .i64 v6, .int .i64 v8] : List Value))) ⟨⟨by dsimp only; omega, by dsimp only; omega⟩, by simp [hql], ro_next hqB ⟨by dsimp only; omega, by dsimp only; omega⟩, by simp [roEnc]⟩ (by dsimp only; omega) ⟨rfl, rfl, rfl, rfl, rfl, rfl, rfl, rfl, rfl, (some_int (by omega)), trivial⟩ (fun _ hm => (hm.more rfl (by first | omega | (dsimp only; omega))).pick [3, 4] [0] [] rfl rfl)
    have hcd : f4 = true := by simpa using hh
    clear hh
    refine gw_skip (nx_blk_nrm (nx_then (gw_region (ad_ rfl rfl (mv_ rfl (wl_nil ?_))))))
    exact nx_round (j + 1, kk, v2, q, (q.flatMap roEnc)) ⟨⟨by dsimp only; omega, by dsimp only; omega⟩, hql, hqB, rfl⟩ (by dsimp only; omega) ⟨rfl, rfl, rfl, rfl, rfl, rfl, rfl, rfl, rfl, (some_int (by omega)), trivial⟩ (fun _ hm => (hm.more rfl (by first | omega | (dsimp only; omega))).pick [0, 1] [0] [] rfl rfl)
   refine wl_set 24 rfl (congrArg Value.bool hg3) ?_
   refine goff rfl rfl rfl (goff rfl rfl rfl (goff rfl rfl rfl (pf_ rfl rfl (nn_ (cf_ rfl (gw_skip (nx_blk_nrm (nx_then (gw_region (ad_ rfl rfl (mv_ rfl (wl_nil ?_))))))))))))
   exact nx_round (j + 1, kk, v2, q, (q.flatMap roEnc)) ⟨⟨by dsimp only; omega, by dsimp only; omega⟩, hql, hqB, rfl⟩ (by dsimp only; omega) ⟨rfl, rfl, rfl, rfl, rfl, rfl, rfl, rfl, rfl, (some_int (by omega)), trivial⟩ (fun _ hm => (hm.more rfl (by first | omega | (dsimp only; omega))).pick [0, 1] [0] [] rfl rfl)
  have hj : ¬ (((j : Nat) : Int) < 5) := by simpa using hh
  clear hh
  refine gw_exit ?_
  refine nx_then_exit (nx_then_exit ?_)
  refine nx_blk_here ?_
  refine nx_blk_nrm (nx_then (gw_region (ad_ rfl rfl (mv_ rfl (wl_nil ?_)))))
  exact nx_round (i + 1, kk, v2, q, (q.flatMap roEnc)) ⟨⟨by dsimp only; omega, by dsimp only; omega⟩, hql, hqB, rfl⟩ (by dsimp only; omega) ⟨rfl, rfl, rfl, rfl, rfl, (some_int (by omega)), trivial⟩ (fun _ hm => (hm.more rfl (by first | omega | (dsimp only; omega))).pick [1] [0] [] rfl rfl)
 have hi : ¬ (((i : Nat) : Int) < 5) := by simpa using hh
 clear hh
 refine gw_exit ?_
 refine nx_then_exit (nx_then_exit ?_)
 refine nx_blk_here ?_
 refine nx_then (gw_seq (sr_ ?_))
 refine wl_look (R := ∃ A cc, v = .slice A k cc) (fun wx hm => own_slice (hm.ownI 0 rfl)) ?_
 rintro ⟨A, c, rfl⟩
 refine mv_ rfl (wl_ov (ov_len es49 rfl) rfl ?_)
 refine wl_ov (ov_gtr rfl rfl) rfl ?_
 refine mv_ rfl ?_
 rcases Bool.eq_false_or_eq_true (decide (0 < ((k : Nat) : Int))) with hg10 | hg10
 ·refine wl_set 46 rfl (congrArg Value.bool hg10) ?_
  replace hg10 := of_decide_eq_true hg10
  refine wl_guard_on rfl rfl rfl (mv_ rfl (wl_guard_on rfl rfl rfl ?_))
  refine wl_got (γ := Bool) (val := fun v => .bool v) (φ := fun v => True) rfl cb11 rfl rfl rfl rfl (fun wx hm => ((flip_any _ wx B sb _ hm.k (by omega) (by omega) (by omega)).mono fun _ _ ⟨v, he, hS, hg⟩ => ⟨v, trivial, he, hS, hg⟩)) fun f11 _ => ?_
  refine pt_ rfl rfl (nn_ ?_)
  refine gw_cond rfl (fun hh => ?_) (fun hh => ?_)
  ·have hcd : f11 = true := by simpa using hh
   clear hh
   refine sr_ (mv_ rfl (mv_ rfl (mv_ rfl (wl_ov (ov_len es49 rfl) rfl ?_))))
   have hk0 : 0 < k := by omega
   refine wl_look (R := ∃ g, A = some ⟨g, 0, none⟩) (fun wx hm => own_addr (hm.ownI 0 rfl) hk0) ?_
   rintro ⟨bo, rfl⟩
   refine wl_got (γ := Int) (val := fun v => .int .i64 v) (φ := fun v => IsBelow ((k : Nat) : Int) v) rfl cb10 rfl rfl rfl rfl (fun wx hm => (next_any _ wx B sb _ hm.k (by omega) (by omega) (by omega))) fun vj hvj => ?_
   have hj := isBelow_lt hvj (by omega)
   obtain ⟨q, rfl⟩ := Int.eq_ofNat_of_zero_le hj.1
   have hqk : q < k := by omega
   obtain ⟨⟨y0, y1, y2, y3⟩, hy⟩ : ∃ y, l[q]? = some y := ⟨_, List.getElem?_eq_getElem (by omega)⟩
   obtain ⟨hyB0, hyB1⟩ := hB _ (List.mem_of_getElem? hy)
   dsimp only at hyB0 hyB1
   refine wl_ov (ov_index (j := q) es49 rfl rfl (by omega)) rfl ?_
   refine sg_ rfl (nn_ ?_)
   refine gd (fun wz => Blk wz g1 9 [.string ⟨#[97]⟩, .string ⟨#[98]⟩, .string ⟨#[99]⟩, .string ⟨#[100]⟩, .string ⟨#[101]⟩] ∧ True) mixed (fun _ hm => ⟨hm.bl 0, trivial⟩) fun z => ?_
   refine wt 0 28 1 rfl z (ov_move rfl) ?_
   refine wt 1 28 3 rfl z (ov_move rfl) ?_
   refine wt 2 28 7 rfl z (ov_move rfl) ?_
   refine wt 3 28 15 rfl z (ov_move rfl) ?_
   refine wt 4 28 31 rfl z (ov_move rfl) ?_
   refine wt 5 28 63 rfl z (ov_nilcheck rfl) ?_
   refine wt 6 28 127 rfl z (ov_field fo66_0 rfl rfl) ?_
   refine wt 10 28 1151 rfl z (ov_move rfl) ?_
   refine wt 11 28 3199 rfl z (ov_move rfl) ?_
   refine wt 12 28 7295 rfl z (ov_nilcheck rfl) ?_
   refine wt 13 28 15487 rfl z (ov_field fo66_1 rfl rfl) ?_
   refine wt 17 28 146559 rfl z (ov_move rfl) ?_
   refine wa_all [7, 14] (by kernel_rfl) rfl ⟨⟨_, rfl, ?_⟩, ⟨_, rfl, ?_⟩, trivial⟩
   ·refine wl_ov (ov_elem1 (k := 0) (v := .string y0) sc9 rfl (fun _ hm => (SlT.ofOwn ro_len (hm.ownI 0 rfl) hl)) hy rfl rfl) rfl ?_
    refine wl_nil ?_
    refine nw 28 146687 (fun _ hm => ⟨hm.bl 0, trivial⟩) fun z => ?_
    refine wa_all [8, 14] (by kernel_rfl) rfl ⟨⟨_, rfl, ?_⟩, ⟨_, rfl, ?_⟩, trivial⟩
    ·refine wl_buildSlice (e := 9) (cs := [.string y0, .string ⟨#[]⟩, .string ⟨#[98]⟩]) rfl (by kernel_rfl) rfl fun g12 => ?_
     refine wl_nil ?_
     refine nw 28 146943 (fun _ hm => ⟨hm.bl 1, trivial⟩) fun z => ?_
     refine wa_all [9, 14] (by kernel_rfl) rfl ⟨⟨_, rfl, ?_⟩, ⟨_, rfl, ?_⟩, trivial⟩
     ·refine wl_got (γ := ByteArray) (val := fun v => .string v) (φ := fun v => v ∈ ([y0, ⟨#[]⟩, ⟨#[98]⟩] : List ByteArray)) rfl cb12 rfl rfl rfl rfl (fun wx hm => (some_any [y0, ⟨#[]⟩, ⟨#[98]⟩] _ _ _ wx B sb _ hm.k (by omega) (by simp) (by simp) (hm.blkI 0 rfl) (hm.neRow 0 rfl rfl))) fun s13 hs13 => ?_
      have zzs13 : s13.size ≤ 1000 := mem3 hs13 (by assumption) (by decide) (by decide)
      refine wl_nil ?_
      refine nw 28 147455 (fun _ hm => ⟨hm.bl 1, trivial⟩) fun z => ?_
      refine wa1 14 rfl ?_
      refine wl_ov (ov_elem1 (k := 1) (v := .string y1) sc9 rfl (fun _ hm => (SlT.ofOwn ro_len (hm.ownI 0 rfl) hl)) hy rfl rfl) rfl ?_
      refine wl_nil ?_
      refine nw 28 163839 (fun _ hm => ⟨hm.bl 1, trivial⟩) fun z => ?_
      refine wa1 15 rfl ?_
      refine wl_buildSlice (e := 9) (cs := [.string y1, .string ⟨#[65]⟩, .string ⟨#[98]⟩]) rfl (by kernel_rfl) rfl fun g14 => ?_
      refine wl_nil ?_
      refine nw 28 196607 (fun _ hm => ⟨hm.bl 2, trivial⟩) fun z => ?_
      refine wa1 16 rfl ?_
      refine wl_got (γ := ByteArray) (val := fun v => .string v) (φ := fun v => v ∈ ([y1, ⟨#[65]⟩, ⟨#[98]⟩] : List ByteArray)) rfl cb12 rfl rfl rfl rfl (fun wx hm => (some_any [y1, ⟨#[65]⟩, ⟨#[98]⟩] _ _ _ wx B sb _ hm.k (by omega) (by simp) (by simp) (hm.blkI 0 rfl) (hm.neRow 0 rfl rfl))) fun s15 hs15 => ?_
      have zzs15 : s15.size ≤ 1000 := mem3 hs15 (by assumption) (by decide) (by decide)
      refine wl_nil ?_
      refine nw 28 262143 (fun _ hm => ⟨hm.bl 2, trivial⟩) fun z => ?_
      refine wa1 18 rfl ?_
      refine wl_got (γ := Int) (val := fun v => .int .i64 v) (φ := fun v => -2000000000000000 ≤ v ∧ v ≤ 2000000000000000) rfl cb13 rfl rfl rfl rfl (fun wx hm => (odd_any _ _ wx B sb _ hm.k (by omega) (by omega) (by omega) (by omega))) fun v16 hv16 => ?_
      refine wl_nil ?_
      refine nw 28 524287 (fun _ hm => ⟨hm.bl 2, trivial⟩) fun z => ?_
      refine wt 19 28 1048575 rfl z (ov_nilcheck rfl) ?_
      refine wt 20 28 2097151 rfl z (ov_field fo66_0 rfl rfl) ?_
      refine wa1 21 rfl ?_
      refine wl_storeE (l := l) (j := q) (r := 0) (el := ⟨y0, y1, y2, y3⟩) (el' := ⟨s13, y1, y2, y3⟩) 0 sc9 rfl rfl rfl rfl ro_len rfl hy hl (show 0 < 4 by decide) rfl rfl ?_
      refine wl_nil ?_
      refine nw 28 4194303 (fun _ hm => ⟨hm.bl 2, trivial⟩) fun z => ?_
      refine wt 22 28 8388607 rfl z (ov_nilcheck rfl) ?_
      refine wt 23 28 16777215 rfl z (ov_field fo66_1 rfl rfl) ?_
      refine wa1 24 rfl ?_
      refine wl_storeE (l := (l.set q ⟨s13, y1, y2, y3⟩)) (j := q) (r := 1) (el := ⟨s13, y1, y2, y3⟩) (el' := ⟨s13, s15, y2, y3⟩) 0 sc9 rfl rfl rfl rfl ro_len rfl (List.getElem?_set_self (by omega)) (by rw [List.length_set]; exact hl) (show 1 < 4 by decide) rfl rfl ?_
      rw [List.set_set]
      refine wl_nil ?_
      refine nw 28 33554431 (fun _ hm => ⟨hm.bl 2, trivial⟩) fun z => ?_
      refine wt 25 28 67108863 rfl z (ov_nilcheck rfl) ?_
      refine wt 26 28 134217727 rfl z (ov_field fo66_2 rfl rfl) ?_
      refine wa1 27 rfl ?_
      refine wl_storeE (l := (l.set q ⟨s13, s15, y2, y3⟩)) (j := q) (r := 2) (el := ⟨s13, s15, y2, y3⟩) (el' := ⟨s13, s15, v16, y3⟩) 0 sc3 rfl rfl rfl rfl ro_len rfl (List.getElem?_set_self (by omega)) (by rw [List.length_set]; exact hl) (show 2 < 4 by decide) rfl rfl ?_
      rw [List.set_set]
      refine wl_nil ?_
      refine nw 28 268435455 (fun _ hm => ⟨hm.bl 2, trivial⟩) fun z => ?_
      refine wa_done (by kernel_rfl) ?_
      refine nx_then (sr_ (mv_ rfl (sg_ rfl (nn_ ?_))))
      refine gw_ret ?_
      refine nx_ret1 rfl rfl fun wx hm => ?_
      exact ⟨some ⟨bo, 0, none⟩, k, c, (l.set q ⟨s13, s15, v16, y3⟩), rfl, SlT.ofOwn ro_len (hm.ownI 0 rfl) (by rw [List.length_set]; exact hl), ro_set hB ⟨by dsimp only; omega, by dsimp only; omega⟩, by omega, hm.k.more (by omega), hm.g⟩
     refine wl_ov (ov_elem1 (k := 1) (v := .string y1) sc9 rfl (fun _ hm => (SlT.ofOwn ro_len (hm.ownI 0 rfl) hl)) hy rfl rfl) rfl ?_
     refine wl_nil ?_
     refine nw 28 163327 (fun _ hm => ⟨hm.bl 1, trivial⟩) fun z => ?_
     refine wa_all [9, 15] (by kernel_rfl) rfl ⟨⟨_, rfl, ?_⟩, ⟨_, rfl, ?_⟩, trivial⟩
     ·refine wl_got (γ := ByteArray) (val := fun v => .string v) (φ := fun v => v ∈ ([y0, ⟨#[]⟩, ⟨#[98]⟩] : List ByteArray)) rfl cb12 rfl rfl rfl rfl (fun wx hm => (some_any [y0, ⟨#[]⟩, ⟨#[98]⟩] _ _ _ wx B sb _ hm.k (by omega) (by simp) (by simp) (hm.blkI 0 rfl) (hm.neRow 0 rfl rfl))) fun s17 hs17 => ?_
      have zzs17 : s17.size ≤ 1000 := mem3 hs17 (by assumption) (by decide) (by decide)
      refine wl_nil ?_
      refine nw 28 163839 (fun _ hm => ⟨hm.bl 1, trivial⟩) fun z => ?_
      refine wa1 15 rfl ?_
      refine wl_buildSlice (e := 9) (cs := [.string y1, .string ⟨#[65]⟩, .string ⟨#[98]⟩]) rfl (by kernel_rfl) rfl fun g18 => ?_
      refine wl_nil ?_
      refine nw 28 196607 (fun _ hm => ⟨hm.bl 2, trivial⟩) fun z => ?_
      refine wa1 16 rfl ?_
      refine wl_got (γ := ByteArray) (val := fun v => .string v) (φ := fun v => v ∈ ([y1, ⟨#[65]⟩, ⟨#[98]⟩] : List ByteArray)) rfl cb12 rfl rfl rfl rfl (fun wx hm => (some_any [y1, ⟨#[65]⟩, ⟨#[98]⟩] _ _ _ wx B sb _ hm.k (by omega) (by simp) (by simp) (hm.blkI 0 rfl) (hm.neRow 0 rfl rfl))) fun s19 hs19 => ?_
      have zzs19 : s19.size ≤ 1000 := mem3 hs19 (by assumption) (by decide) (by decide)
      refine wl_nil ?_
      refine nw 28 262143 (fun _ hm => ⟨hm.bl 2, trivial⟩) fun z => ?_
      refine wa1 18 rfl ?_
      refine wl_got (γ := Int) (val := fun v => .int .i64 v) (φ := fun v => -2000000000000000 ≤ v ∧ v ≤ 2000000000000000) rfl cb13 rfl rfl rfl rfl (fun wx hm => (odd_any _ _ wx B sb _ hm.k (by omega) (by omega) (by omega) (by omega))) fun v20 hv20 => ?_
      refine wl_nil ?_
      refine nw 28 524287 (fun _ hm => ⟨hm.bl 2, trivial⟩) fun z => ?_
      refine wt 19 28 1048575 rfl z (ov_nilcheck rfl) ?_
      refine wt 20 28 2097151 rfl z (ov_field fo66_0 rfl rfl) ?_
      refine wa1 21 rfl ?_
      refine wl_storeE (l := l) (j := q) (r := 0) (el := ⟨y0, y1, y2, y3⟩) (el' := ⟨s17, y1, y2, y3⟩) 0 sc9 rfl rfl rfl rfl ro_len rfl hy hl (show 0 < 4 by decide) rfl rfl ?_
      refine wl_nil ?_
      refine nw 28 4194303 (fun _ hm => ⟨hm.bl 2, trivial⟩) fun z => ?_
      refine wt 22 28 8388607 rfl z (ov_nilcheck rfl) ?_
      refine wt 23 28 16777215 rfl z (ov_field fo66_1 rfl rfl) ?_
      refine wa1 24 rfl ?_
      refine wl_storeE (l := (l.set q ⟨s17, y1, y2, y3⟩)) (j := q) (r := 1) (el := ⟨s17, y1, y2, y3⟩) (el' := ⟨s17, s19, y2, y3⟩) 0 sc9 rfl rfl rfl rfl ro_len rfl (List.getElem?_set_self (by omega)) (by rw [List.length_set]; exact hl) (show 1 < 4 by decide) rfl rfl ?_
      rw [List.set_set]
      refine wl_nil ?_
      refine nw 28 33554431 (fun _ hm => ⟨hm.bl 2, trivial⟩) fun z => ?_
      refine wt 25 28 67108863 rfl z (ov_nilcheck rfl) ?_
      refine wt 26 28 134217727 rfl z (ov_field fo66_2 rfl rfl) ?_
      refine wa1 27 rfl ?_
      refine wl_storeE (l := (l.set q ⟨s17, s19, y2, y3⟩)) (j := q) (r := 2) (el := ⟨s17, s19, y2, y3⟩) (el' := ⟨s17, s19, v20, y3⟩) 0 sc3 rfl rfl rfl rfl ro_len rfl (List.getElem?_set_self (by omega)) (by rw [List.length_set]; exact hl) (show 2 < 4 by decide) rfl rfl ?_
      rw [List.set_set]
      refine wl_nil ?_
      refine nw 28 268435455 (fun _ hm => ⟨hm.bl 2, trivial⟩) fun z => ?_
      refine wa_done (by kernel_rfl) ?_
      refine nx_then (sr_ (mv_ rfl (sg_ rfl (nn_ ?_))))
      refine gw_ret ?_
      refine nx_ret1 rfl rfl fun wx hm => ?_
      exact ⟨some ⟨bo, 0, none⟩, k, c, (l.set q ⟨s17, s19, v20, y3⟩), rfl, SlT.ofOwn ro_len (hm.ownI 0 rfl) (by rw [List.length_set]; exact hl), ro_set hB ⟨by dsimp only; omega, by dsimp only; omega⟩, by omega, hm.k.more (by omega), hm.g⟩
     refine wl_buildSlice (e := 9) (cs := [.string y1, .string ⟨#[65]⟩, .string ⟨#[98]⟩]) rfl (by kernel_rfl) rfl fun g21 => ?_
     refine wl_nil ?_
     refine nw 28 196095 (fun _ hm => ⟨hm.bl 2, trivial⟩) fun z => ?_
     refine wa1 9 rfl ?_
     refine wl_got (γ := ByteArray) (val := fun v => .string v) (φ := fun v => v ∈ ([y0, ⟨#[]⟩, ⟨#[98]⟩] : List ByteArray)) rfl cb12 rfl rfl rfl rfl (fun wx hm => (some_any [y0, ⟨#[]⟩, ⟨#[98]⟩] _ _ _ wx B sb _ hm.k (by omega) (by simp) (by simp) (hm.blkI 1 rfl) (hm.neRow 1 rfl rfl))) fun s22 hs22 => ?_
     have zzs22 : s22.size ≤ 1000 := mem3 hs22 (by assumption) (by decide) (by decide)
     refine wl_nil ?_
     refine nw 28 196607 (fun _ hm => ⟨hm.bl 2, trivial⟩) fun z => ?_
     refine wa1 16 rfl ?_
     refine wl_got (γ := ByteArray) (val := fun v => .string v) (φ := fun v => v ∈ ([y1, ⟨#[65]⟩, ⟨#[98]⟩] : List ByteArray)) rfl cb12 rfl rfl rfl rfl (fun wx hm => (some_any [y1, ⟨#[65]⟩, ⟨#[98]⟩] _ _ _ wx B sb _ hm.k (by omega) (by simp) (by simp) (hm.blkI 0 rfl) (hm.neRow 0 rfl rfl))) fun s23 hs23 => ?_
     have zzs23 : s23.size ≤ 1000 := mem3 hs23 (by assumption) (by decide) (by decide)
     refine wl_nil ?_
     refine nw 28 262143 (fun _ hm => ⟨hm.bl 2, trivial⟩) fun z => ?_
     refine wa1 18 rfl ?_
     refine wl_got (γ := Int) (val := fun v => .int .i64 v) (φ := fun v => -2000000000000000 ≤ v ∧ v ≤ 2000000000000000) rfl cb13 rfl rfl rfl rfl (fun wx hm => (odd_any _ _ wx B sb _ hm.k (by omega) (by omega) (by omega) (by omega))) fun v24 hv24 => ?_
     refine wl_nil ?_
     refine nw 28 524287 (fun _ hm => ⟨hm.bl 2, trivial⟩) fun z => ?_
     refine wt 19 28 1048575 rfl z (ov_nilcheck rfl) ?_
     refine wt 20 28 2097151 rfl z (ov_field fo66_0 rfl rfl) ?_
     refine wa1 21 rfl ?_
     refine wl_storeE (l := l) (j := q) (r := 0) (el := ⟨y0, y1, y2, y3⟩) (el' := ⟨s22, y1, y2, y3⟩) 0 sc9 rfl rfl rfl rfl ro_len rfl hy hl (show 0 < 4 by decide) rfl rfl ?_
     refine wl_nil ?_
     refine nw 28 4194303 (fun _ hm => ⟨hm.bl 2, trivial⟩) fun z => ?_
     refine wt 22 28 8388607 rfl z (ov_nilcheck rfl) ?_
     refine wt 23 28 16777215 rfl z (ov_field fo66_1 rfl rfl) ?_
     refine wa1 24 rfl ?_
     refine wl_storeE (l := (l.set q ⟨s22, y1, y2, y3⟩)) (j := q) (r := 1) (el := ⟨s22, y1, y2, y3⟩) (el' := ⟨s22, s23, y2, y3⟩) 0 sc9 rfl rfl rfl rfl ro_len rfl (List.getElem?_set_self (by omega)) (by rw [List.length_set]; exact hl) (show 1 < 4 by decide) rfl rfl ?_
     rw [List.set_set]
     refine wl_nil ?_
     refine nw 28 33554431 (fun _ hm => ⟨hm.bl 2, trivial⟩) fun z => ?_
     refine wt 25 28 67108863 rfl z (ov_nilcheck rfl) ?_
     refine wt 26 28 134217727 rfl z (ov_field fo66_2 rfl rfl) ?_
     refine wa1 27 rfl ?_
     refine wl_storeE (l := (l.set q ⟨s22, s23, y2, y3⟩)) (j := q) (r := 2) (el := ⟨s22, s23, y2, y3⟩) (el' := ⟨s22, s23, v24, y3⟩) 0 sc3 rfl rfl rfl rfl ro_len rfl (List.getElem?_set_self (by omega)) (by rw [List.length_set]; exact hl) (show 2 < 4 by decide) rfl rfl ?_
     rw [List.set_set]
     refine wl_nil ?_
     refine nw 28 268435455 (fun _ hm => ⟨hm.bl 2, trivial⟩) fun z => ?_
     refine wa_done (by kernel_rfl) ?_
     refine nx_then (sr_ (mv_ rfl (sg_ rfl (nn_ ?_))))
     refine gw_ret ?_
     refine nx_ret1 rfl rfl fun wx hm => ?_
     exact ⟨some ⟨bo, 0, none⟩, k, c, (l.set q ⟨s22, s23, v24, y3⟩), rfl, SlT.ofOwn ro_len (hm.ownI 0 rfl) (by rw [List.length_set]; exact hl), ro_set hB ⟨by dsimp only; omega, by dsimp only; omega⟩, by omega, hm.k.more (by omega), hm.g⟩
    refine wl_ov (ov_elem1 (k := 1) (v := .string y1) sc9 rfl (fun _ hm => (SlT.ofOwn ro_len (hm.ownI 0 rfl) hl)) hy rfl rfl) rfl ?_
    refine wl_nil ?_
    refine nw 28 163071 (fun _ hm => ⟨hm.bl 0, trivial⟩) fun z => ?_
    refine wa_all [8, 15] (by kernel_rfl) rfl ⟨⟨_, rfl, ?_⟩, ⟨_, rfl, ?_⟩, trivial⟩
    ·refine wl_buildSlice (e := 9) (cs := [.string y0, .string ⟨#[]⟩, .string ⟨#[98]⟩]) rfl (by kernel_rfl) rfl fun g25 => ?_
     refine wl_nil ?_
     refine nw 28 163327 (fun _ hm => ⟨hm.bl 1, trivial⟩) fun z => ?_
     refine wa_all [9, 15] (by kernel_rfl) rfl ⟨⟨_, rfl, ?_⟩, ⟨_, rfl, ?_⟩, trivial⟩
     ·refine wl_got (γ := ByteArray) (val := fun v => .string v) (φ := fun v => v ∈ ([y0, ⟨#[]⟩, ⟨#[98]⟩] : List ByteArray)) rfl cb12 rfl rfl rfl rfl (fun wx hm => (some_any [y0, ⟨#[]⟩, ⟨#[98]⟩] _ _ _ wx B sb _ hm.k (by omega) (by simp) (by simp) (hm.blkI 0 rfl) (hm.neRow 0 rfl rfl))) fun s26 hs26 => ?_
      have zzs26 : s26.size ≤ 1000 := mem3 hs26 (by assumption) (by decide) (by decide)
      refine wl_nil ?_
      refine nw 28 163839 (fun _ hm => ⟨hm.bl 1, trivial⟩) fun z => ?_
      refine wa1 15 rfl ?_
      refine wl_buildSlice (e := 9) (cs := [.string y1, .string ⟨#[65]⟩, .string ⟨#[98]⟩]) rfl (by kernel_rfl) rfl fun g27 => ?_
      refine wl_nil ?_
      refine nw 28 196607 (fun _ hm => ⟨hm.bl 2, trivial⟩) fun z => ?_
      refine wa1 16 rfl ?_
      refine wl_got (γ := ByteArray) (val := fun v => .string v) (φ := fun v => v ∈ ([y1, ⟨#[65]⟩, ⟨#[98]⟩] : List ByteArray)) rfl cb12 rfl rfl rfl rfl (fun wx hm => (some_any [y1, ⟨#[65]⟩, ⟨#[98]⟩] _ _ _ wx B sb _ hm.k (by omega) (by simp) (by simp) (hm.blkI 0 rfl) (hm.neRow 0 rfl rfl))) fun s28 hs28 => ?_
      have zzs28 : s28.size ≤ 1000 := mem3 hs28 (by assumption) (by decide) (by decide)
      refine wl_nil ?_
      refine nw 28 262143 (fun _ hm => ⟨hm.bl 2, trivial⟩) fun z => ?_
      refine wa1 18 rfl ?_
      refine wl_got (γ := Int) (val := fun v => .int .i64 v) (φ := fun v => -2000000000000000 ≤ v ∧ v ≤ 2000000000000000) rfl cb13 rfl rfl rfl rfl (fun wx hm => (odd_any _ _ wx B sb _ hm.k (by omega) (by omega) (by omega) (by omega))) fun v29 hv29 => ?_
      refine wl_nil ?_
      refine nw 28 524287 (fun _ hm => ⟨hm.bl 2, trivial⟩) fun z => ?_
      refine wt 19 28 1048575 rfl z (ov_nilcheck rfl) ?_
      refine wt 20 28 2097151 rfl z (ov_field fo66_0 rfl rfl) ?_
      refine wa1 21 rfl ?_
      refine wl_storeE (l := l) (j := q) (r := 0) (el := ⟨y0, y1, y2, y3⟩) (el' := ⟨s26, y1, y2, y3⟩) 0 sc9 rfl rfl rfl rfl ro_len rfl hy hl (show 0 < 4 by decide) rfl rfl ?_
      refine wl_nil ?_
      refine nw 28 4194303 (fun _ hm => ⟨hm.bl 2, trivial⟩) fun z => ?_
      refine wt 22 28 8388607 rfl z (ov_nilcheck rfl) ?_
      refine wt 23 28 16777215 rfl z (ov_field fo66_1 rfl rfl) ?_
      refine wa1 24 rfl ?_
      refine wl_storeE (l := (l.set q ⟨s26, y1, y2, y3⟩)) (j := q) (r := 1) (el := ⟨s26, y1, y2, y3⟩) (el' := ⟨s26, s28, y2, y3⟩) 0 sc9 rfl rfl rfl rfl ro_len rfl (List.getElem?_set_self (by omega)) (by rw [List.length_set]; exact hl) (show 1 < 4 by decide) rfl rfl ?_
      rw [List.set_set]
      refine wl_nil ?_
      refine nw 28 33554431 (fun _ hm => ⟨hm.bl 2, trivial⟩) fun z => ?_
      refine wt 25 28 67108863 rfl z (ov_nilcheck rfl) ?_
      refine wt 26 28 134217727 rfl z (ov_field fo66_2 rfl rfl) ?_
      refine wa1 27 rfl ?_
      refine wl_storeE (l := (l.set q ⟨s26, s28, y2, y3⟩)) (j := q) (r := 2) (el := ⟨s26, s28, y2, y3⟩) (el' := ⟨s26, s28, v29, y3⟩) 0 sc3 rfl rfl rfl rfl ro_len rfl (List.getElem?_set_self (by omega)) (by rw [List.length_set]; exact hl) (show 2 < 4 by decide) rfl rfl ?_
      rw [List.set_set]
      refine wl_nil ?_
      refine nw 28 268435455 (fun _ hm => ⟨hm.bl 2, trivial⟩) fun z => ?_
      refine wa_done (by kernel_rfl) ?_
      refine nx_then (sr_ (mv_ rfl (sg_ rfl (nn_ ?_))))
      refine gw_ret ?_
      refine nx_ret1 rfl rfl fun wx hm => ?_
      exact ⟨some ⟨bo, 0, none⟩, k, c, (l.set q ⟨s26, s28, v29, y3⟩), rfl, SlT.ofOwn ro_len (hm.ownI 0 rfl) (by rw [List.length_set]; exact hl), ro_set hB ⟨by dsimp only; omega, by dsimp only; omega⟩, by omega, hm.k.more (by omega), hm.g⟩
     refine wl_buildSlice (e := 9) (cs := [.string y1, .string ⟨#[65]⟩, .string ⟨#[98]⟩]) rfl (by kernel_rfl) rfl fun g30 => ?_
     refine wl_nil ?_
     refine nw 28 196095 (fun _ hm => ⟨hm.bl 2, trivial⟩) fun z => ?_
     refine wa1 9 rfl ?_
     refine wl_got (γ := ByteArray) (val := fun v => .string v) (φ := fun v => v ∈ ([y0, ⟨#[]⟩, ⟨#[98]⟩] : List ByteArray)) rfl cb12 rfl rfl rfl rfl (fun wx hm => (some_any [y0, ⟨#[]⟩, ⟨#[98]⟩] _ _ _ wx B sb _ hm.k (by omega) (by simp) (by simp) (hm.blkI 1 rfl) (hm.neRow 1 rfl rfl))) fun s31 hs31 => ?_
     have zzs31 : s31.size ≤ 1000 := mem3 hs31 (by assumption) (by decide) (by decide)
     refine wl_nil ?_
     refine nw 28 196607 (fun _ hm => ⟨hm.bl 2, trivial⟩) fun z => ?_
     refine wa1 16 rfl ?_
     refine wl_got (γ := ByteArray) (val := fun v => .string v) (φ := fun v => v ∈ ([y1, ⟨#[65]⟩, ⟨#[98]⟩] : List ByteArray)) rfl cb12 rfl rfl rfl rfl (fun wx hm => (some_any [y1, ⟨#[65]⟩, ⟨#[98]⟩] _ _ _ wx B sb _ hm.k (by omega) (by simp) (by simp) (hm.blkI 0 rfl) (hm.neRow 0 rfl rfl))) fun s32 hs32 => ?_
     have zzs32 : s32.size ≤ 1000 := mem3 hs32 (by assumption) (by decide) (by decide)
     refine wl_nil ?_
     refine nw 28 262143 (fun _ hm => ⟨hm.bl 2, trivial⟩) fun z => ?_
     refine wa1 18 rfl ?_
     refine wl_got (γ := Int) (val := fun v => .int .i64 v) (φ := fun v => -2000000000000000 ≤ v ∧ v ≤ 2000000000000000) rfl cb13 rfl rfl rfl rfl (fun wx hm => (odd_any _ _ wx B sb _ hm.k (by omega) (by omega) (by omega) (by omega))) fun v33 hv33 => ?_
     refine wl_nil ?_
     refine nw 28 524287 (fun _ hm => ⟨hm.bl 2, trivial⟩) fun z => ?_
     refine wt 19 28 1048575 rfl z (ov_nilcheck rfl) ?_
     refine wt 20 28 2097151 rfl z (ov_field fo66_0 rfl rfl) ?_
     refine wa1 21 rfl ?_
     refine wl_storeE (l := l) (j := q) (r := 0) (el := ⟨y0, y1, y2, y3⟩) (el' := ⟨s31, y1, y2, y3⟩) 0 sc9 rfl rfl rfl rfl ro_len rfl hy hl (show 0 < 4 by decide) rfl rfl ?_
     refine wl_nil ?_
     refine nw 28 4194303 (fun _ hm => ⟨hm.bl 2, trivial⟩) fun z => ?_
     refine wt 22 28 8388607 rfl z (ov_nilcheck rfl) ?_
     refine wt 23 28 16777215 rfl z (ov_field fo66_1 rfl rfl) ?_
     refine wa1 24 rfl ?_
     refine wl_storeE (l := (l.set q ⟨s31, y1, y2, y3⟩)) (j := q) (r := 1) (el := ⟨s31, y1, y2, y3⟩) (el' := ⟨s31, s32, y2, y3⟩) 0 sc9 rfl rfl rfl rfl ro_len rfl (List.getElem?_set_self (by omega)) (by rw [List.length_set]; exact hl) (show 1 < 4 by decide) rfl rfl ?_
     rw [List.set_set]
     refine wl_nil ?_
     refine nw 28 33554431 (fun _ hm => ⟨hm.bl 2, trivial⟩) fun z => ?_
     refine wt 25 28 67108863 rfl z (ov_nilcheck rfl) ?_
     refine wt 26 28 134217727 rfl z (ov_field fo66_2 rfl rfl) ?_
     refine wa1 27 rfl ?_
     refine wl_storeE (l := (l.set q ⟨s31, s32, y2, y3⟩)) (j := q) (r := 2) (el := ⟨s31, s32, y2, y3⟩) (el' := ⟨s31, s32, v33, y3⟩) 0 sc3 rfl rfl rfl rfl ro_len rfl (List.getElem?_set_self (by omega)) (by rw [List.length_set]; exact hl) (show 2 < 4 by decide) rfl rfl ?_
     rw [List.set_set]
     refine wl_nil ?_
     refine nw 28 268435455 (fun _ hm => ⟨hm.bl 2, trivial⟩) fun z => ?_
     refine wa_done (by kernel_rfl) ?_
     refine nx_then (sr_ (mv_ rfl (sg_ rfl (nn_ ?_))))
     refine gw_ret ?_
     refine nx_ret1 rfl rfl fun wx hm => ?_
     exact ⟨some ⟨bo, 0, none⟩, k, c, (l.set q ⟨s31, s32, v33, y3⟩), rfl, SlT.ofOwn ro_len (hm.ownI 0 rfl) (by rw [List.length_set]; exact hl), ro_set hB ⟨by dsimp only; omega, by dsimp only; omega⟩, by omega, hm.k.more (by omega), hm.g⟩
    refine wl_buildSlice (e := 9) (cs := [.string y1, .string ⟨#[65]⟩, .string ⟨#[98]⟩]) rfl (by kernel_rfl) rfl fun g34 => ?_
    refine wl_nil ?_
    refine nw 28 195839 (fun _ hm => ⟨hm.bl 1, trivial⟩) fun z => ?_
    refine wa1 8 rfl ?_
    refine wl_buildSlice (e := 9) (cs := [.string y0, .string ⟨#[]⟩, .string ⟨#[98]⟩]) rfl (by kernel_rfl) rfl fun g35 => ?_
    refine wl_nil ?_
    refine nw 28 196095 (fun _ hm => ⟨hm.bl 2, trivial⟩) fun z => ?_
    refine wa1 9 rfl ?_
    refine wl_got (γ := ByteArray) (val := fun v => .string v) (φ := fun v => v ∈ ([y0, ⟨#[]⟩, ⟨#[98]⟩] : List ByteArray)) rfl cb12 rfl rfl rfl rfl (fun wx hm => (some_any [y0, ⟨#[]⟩, ⟨#[98]⟩] _ _ _ wx B sb _ hm.k (by omega) (by simp) (by simp) (hm.blkI 0 rfl) (hm.neRow 0 rfl rfl))) fun s36 hs36 => ?_
    have zzs36 : s36.size ≤ 1000 := mem3 hs36 (by assumption) (by decide) (by decide)
    refine wl_nil ?_
    refine nw 28 196607 (fun _ hm => ⟨hm.bl 2, trivial⟩) fun z => ?_
    refine wa1 16 rfl ?_
    refine wl_got (γ := ByteArray) (val := fun v => .string v) (φ := fun v => v ∈ ([y1, ⟨#[65]⟩, ⟨#[98]⟩] : List ByteArray)) rfl cb12 rfl rfl rfl rfl (fun wx hm => (some_any [y1, ⟨#[65]⟩, ⟨#[98]⟩] _ _ _ wx B sb _ hm.k (by omega) (by simp) (by simp) (hm.blkI 1 rfl) (hm.neRow 1 rfl rfl))) fun s37 hs37 => ?_
    have zzs37 : s37.size ≤ 1000 := mem3 hs37 (by assumption) (by decide) (by decide)
    refine wl_nil ?_
    refine nw 28 262143 (fun _ hm => ⟨hm.bl 2, trivial⟩) fun z => ?_
    refine wa1 18 rfl ?_
    refine wl_got (γ := Int) (val := fun v => .int .i64 v) (φ := fun v => -2000000000000000 ≤ v ∧ v ≤ 2000000000000000) rfl cb13 rfl rfl rfl rfl (fun wx hm => (odd_any _ _ wx B sb _ hm.k (by omega) (by omega) (by omega) (by omega))) fun v38 hv38 => ?_
    refine wl_nil ?_
    refine nw 28 524287 (fun _ hm => ⟨hm.bl 2, trivial⟩) fun z => ?_
    refine wt 19 28 1048575 rfl z (ov_nilcheck rfl) ?_
    refine wt 20 28 2097151 rfl z (ov_field fo66_0 rfl rfl) ?_
    refine wa1 21 rfl ?_
    refine wl_storeE (l := l) (j := q) (r := 0) (el := ⟨y0, y1, y2, y3⟩) (el' := ⟨s36, y1, y2, y3⟩) 0 sc9 rfl rfl rfl rfl ro_len rfl hy hl (show 0 < 4 by decide) rfl rfl ?_
    refine wl_nil ?_
    refine nw 28 4194303 (fun _ hm => ⟨hm.bl 2, trivial⟩) fun z => ?_
    refine wt 22 28 8388607 rfl z (ov_nilcheck rfl) ?_
    refine wt 23 28 16777215 rfl z (ov_field fo66_1 rfl rfl) ?_
    refine wa1 24 rfl ?_
    refine wl_storeE (l := (l.set q ⟨s36, y1, y2, y3⟩)) (j := q) (r := 1) (el := ⟨s36, y1, y2, y3⟩) (el' := ⟨s36, s37, y2, y3⟩) 0 sc9 rfl rfl rfl rfl ro_len rfl (List.getElem?_set_self (by omega)) (by rw [List.length_set]; exact hl) (show 1 < 4 by decide) rfl rfl ?_
    rw [List.set_set]
    refine wl_nil ?_
    refine nw 28 33554431 (fun _ hm => ⟨hm.bl 2, trivial⟩) fun z => ?_
    refine wt 25 28 67108863 rfl z (ov_nilcheck rfl) ?_
    refine wt 26 28 134217727 rfl z (ov_field fo66_2 rfl rfl) ?_
    refine wa1 27 rfl ?_
    refine wl_storeE (l := (l.set q ⟨s36, s37, y2, y3⟩)) (j := q) (r := 2) (el := ⟨s36, s37, y2, y3⟩) (el' := ⟨s36, s37, v38, y3⟩) 0 sc3 rfl rfl rfl rfl ro_len rfl (List.getElem?_set_self (by omega)) (by rw [List.length_set]; exact hl) (show 2 < 4 by decide) rfl rfl ?_
    rw [List.set_set]
    refine wl_nil ?_
    refine nw 28 268435455 (fun _ hm => ⟨hm.bl 2, trivial⟩) fun z => ?_
    refine wa_done (by kernel_rfl) ?_
    refine nx_then (sr_ (mv_ rfl (sg_ rfl (nn_ ?_))))
    refine gw_ret ?_
    refine nx_ret1 rfl rfl fun wx hm => ?_
    exact ⟨some ⟨bo, 0, none⟩, k, c, (l.set q ⟨s36, s37, v38, y3⟩), rfl, SlT.ofOwn ro_len (hm.ownI 0 rfl) (by rw [List.length_set]; exact hl), ro_set hB ⟨by dsimp only; omega, by dsimp only; omega⟩, by omega, hm.k.more (by omega), hm.g⟩
   refine wl_ov (ov_elem1 (k := 1) (v := .string y1) sc9 rfl (fun _ hm => (SlT.ofOwn ro_len (hm.ownI 0 rfl) hl)) hy rfl rfl) rfl ?_
   refine wl_nil ?_
   refine nw 28 162943 (fun _ hm => ⟨hm.bl 0, trivial⟩) fun z => ?_
   refine wa_all [7, 15] (by kernel_rfl) rfl ⟨⟨_, rfl, ?_⟩, ⟨_, rfl, ?_⟩, trivial⟩
   ·refine wl_ov (ov_elem1 (k := 0) (v := .string y0) sc9 rfl (fun _ hm => (SlT.ofOwn ro_len (hm.ownI 0 rfl) hl)) hy rfl rfl) rfl ?_
    refine wl_nil ?_
    refine nw 28 163071 (fun _ hm => ⟨hm.bl 0, trivial⟩) fun z => ?_
    refine wa_all [8, 15] (by kernel_rfl) rfl ⟨⟨_, rfl, ?_⟩, ⟨_, rfl, ?_⟩, trivial⟩
    ·refine wl_buildSlice (e := 9) (cs := [.string y0, .string ⟨#[]⟩, .string ⟨#[98]⟩]) rfl (by kernel_rfl) rfl fun g39 => ?_
     refine wl_nil ?_
     refine nw 28 163327 (fun _ hm => ⟨hm.bl 1, trivial⟩) fun z => ?_
     refine wa_all [9, 15] (by kernel_rfl) rfl ⟨⟨_, rfl, ?_⟩, ⟨_, rfl, ?_⟩, trivial⟩
     ·refine wl_got (γ := ByteArray) (val := fun v => .string v) (φ := fun v => v ∈ ([y0, ⟨#[]⟩, ⟨#[98]⟩] : List ByteArray)) rfl cb12 rfl rfl rfl rfl (fun wx hm => (some_any [y0, ⟨#[]⟩, ⟨#[98]⟩] _ _ _ wx B sb _ hm.k (by omega) (by simp) (by simp) (hm.blkI 0 rfl) (hm.neRow 0 rfl rfl))) fun s40 hs40 => ?_
      have zzs40 : s40.size ≤ 1000 := mem3 hs40 (by assumption) (by decide) (by decide)
      refine wl_nil ?_
      refine nw 28 163839 (fun _ hm => ⟨hm.bl 1, trivial⟩) fun z => ?_
      refine wa1 15 rfl ?_
      refine wl_buildSlice (e := 9) (cs := [.string y1, .string ⟨#[65]⟩, .string ⟨#[98]⟩]) rfl (by kernel_rfl) rfl fun g41 => ?_
      refine wl_nil ?_
      refine nw 28 196607 (fun _ hm => ⟨hm.bl 2, trivial⟩) fun z => ?_
      refine wa1 16 rfl ?_
      refine wl_got (γ := ByteArray) (val := fun v => .string v) (φ := fun v => v ∈ ([y1, ⟨#[65]⟩, ⟨#[98]⟩] : List ByteArray)) rfl cb12 rfl rfl rfl rfl (fun wx hm => (some_any [y1, ⟨#[65]⟩, ⟨#[98]⟩] _ _ _ wx B sb _ hm.k (by omega) (by simp) (by simp) (hm.blkI 0 rfl) (hm.neRow 0 rfl rfl))) fun s42 hs42 => ?_
      have zzs42 : s42.size ≤ 1000 := mem3 hs42 (by assumption) (by decide) (by decide)
      refine wl_nil ?_
      refine nw 28 262143 (fun _ hm => ⟨hm.bl 2, trivial⟩) fun z => ?_
      refine wa1 18 rfl ?_
      refine wl_got (γ := Int) (val := fun v => .int .i64 v) (φ := fun v => -2000000000000000 ≤ v ∧ v ≤ 2000000000000000) rfl cb13 rfl rfl rfl rfl (fun wx hm => (odd_any _ _ wx B sb _ hm.k (by omega) (by omega) (by omega) (by omega))) fun v43 hv43 => ?_
      refine wl_nil ?_
      refine nw 28 524287 (fun _ hm => ⟨hm.bl 2, trivial⟩) fun z => ?_
      refine wt 19 28 1048575 rfl z (ov_nilcheck rfl) ?_
      refine wt 20 28 2097151 rfl z (ov_field fo66_0 rfl rfl) ?_
      refine wa1 21 rfl ?_
      refine wl_storeE (l := l) (j := q) (r := 0) (el := ⟨y0, y1, y2, y3⟩) (el' := ⟨s40, y1, y2, y3⟩) 0 sc9 rfl rfl rfl rfl ro_len rfl hy hl (show 0 < 4 by decide) rfl rfl ?_
      refine wl_nil ?_
      refine nw 28 4194303 (fun _ hm => ⟨hm.bl 2, trivial⟩) fun z => ?_
      refine wt 22 28 8388607 rfl z (ov_nilcheck rfl) ?_
      refine wt 23 28 16777215 rfl z (ov_field fo66_1 rfl rfl) ?_
      refine wa1 24 rfl ?_
      refine wl_storeE (l := (l.set q ⟨s40, y1, y2, y3⟩)) (j := q) (r := 1) (el := ⟨s40, y1, y2, y3⟩) (el' := ⟨s40, s42, y2, y3⟩) 0 sc9 rfl rfl rfl rfl ro_len rfl (List.getElem?_set_self (by omega)) (by rw [List.length_set]; exact hl) (show 1 < 4 by decide) rfl rfl ?_
      rw [List.set_set]
      refine wl_nil ?_
      refine nw 28 33554431 (fun _ hm => ⟨hm.bl 2, trivial⟩) fun z => ?_
      refine wt 25 28 67108863 rfl z (ov_nilcheck rfl) ?_
      refine wt 26 28 134217727 rfl z (ov_field fo66_2 rfl rfl) ?_
      refine wa1 27 rfl ?_
      refine wl_storeE (l := (l.set q ⟨s40, s42, y2, y3⟩)) (j := q) (r := 2) (el := ⟨s40, s42, y2, y3⟩) (el' := ⟨s40, s42, v43, y3⟩) 0 sc3 rfl rfl rfl rfl ro_len rfl (List.getElem?_set_self (by omega)) (by rw [List.length_set]; exact hl) (show 2 < 4 by decide) rfl rfl ?_
      rw [List.set_set]
      refine wl_nil ?_
      refine nw 28 268435455 (fun _ hm => ⟨hm.bl 2, trivial⟩) fun z => ?_
      refine wa_done (by kernel_rfl) ?_
      refine nx_then (sr_ (mv_ rfl (sg_ rfl (nn_ ?_))))
      refine gw_ret ?_
      refine nx_ret1 rfl rfl fun wx hm => ?_
      exact ⟨some ⟨bo, 0, none⟩, k, c, (l.set q ⟨s40, s42, v43, y3⟩), rfl, SlT.ofOwn ro_len (hm.ownI 0 rfl) (by rw [List.length_set]; exact hl), ro_set hB ⟨by dsimp only; omega, by dsimp only; omega⟩, by omega, hm.k.more (by omega), hm.g⟩
     refine wl_buildSlice (e := 9) (cs := [.string y1, .string ⟨#[65]⟩, .string ⟨#[98]⟩]) rfl (by kernel_rfl) rfl fun g44 => ?_
     refine wl_nil ?_
     refine nw 28 196095 (fun _ hm => ⟨hm.bl 2, trivial⟩) fun z => ?_
     refine wa1 9 rfl ?_
     refine wl_got (γ := ByteArray) (val := fun v => .string v) (φ := fun v => v ∈ ([y0, ⟨#[]⟩, ⟨#[98]⟩] : List ByteArray)) rfl cb12 rfl rfl rfl rfl (fun wx hm => (some_any [y0, ⟨#[]⟩, ⟨#[98]⟩] _ _ _ wx B sb _ hm.k (by omega) (by simp) (by simp) (hm.blkI 1 rfl) (hm.neRow 1 rfl rfl))) fun s45 hs45 => ?_
     have zzs45 : s45.size ≤ 1000 := mem3 hs45 (by assumption) (by decide) (by decide)
     refine wl_nil ?_
     refine nw 28 196607 (fun _ hm => ⟨hm.bl 2, trivial⟩) fun z => ?_
     refine wa1 16 rfl ?_
     refine wl_got (γ := ByteArray) (val := fun v => .string v) (φ := fun v => v ∈ ([y1, ⟨#[65]⟩, ⟨#[98]⟩] : List ByteArray)) rfl cb12 rfl rfl rfl rfl (fun wx hm => (some_any [y1, ⟨#[65]⟩, ⟨#[98]⟩] _ _ _ wx B sb _ hm.k (by omega) (by simp) (by simp) (hm.blkI 0 rfl) (hm.neRow 0 rfl rfl))) fun s46 hs46 => ?_
     have zzs46 : s46.size ≤ 1000 := mem3 hs46 (by assumption) (by decide) (by decide)
     refine wl_nil ?_
     refine nw 28 262143 (fun _ hm => ⟨hm.bl 2, trivial⟩) fun z => ?_
     refine wa1 18 rfl ?_
     refine wl_got (γ := Int) (val := fun v => .int .i64 v) (φ := fun v => -2000000000000000 ≤ v ∧ v ≤ 2000000000000000) rfl cb13 rfl rfl rfl rfl (fun wx hm => (odd_any _ _ wx B sb _ hm.k (by omega) (by omega) (by omega) (by omega))) fun v47 hv47 => ?_
     refine wl_nil ?_
     refine nw 28 524287 (fun _ hm => ⟨hm.bl 2, trivial⟩) fun z => ?_
     refine wt 19 28 1048575 rfl z (ov_nilcheck rfl) ?_
     refine wt 20 28 2097151 rfl z (ov_field fo66_0 rfl rfl) ?_
     refine wa1 21 rfl ?_
     refine wl_storeE (l := l) (j := q) (r := 0) (el := ⟨y0, y1, y2, y3⟩) (el' := ⟨s45, y1, y2, y3⟩) 0 sc9 rfl rfl rfl rfl ro_len rfl hy hl (show 0 < 4 by decide) rfl rfl ?_
     refine wl_nil ?_
     refine nw 28 4194303 (fun _ hm => ⟨hm.bl 2, trivial⟩) fun z => ?_
     refine wt 22 28 8388607 rfl z (ov_nilcheck rfl) ?_
     refine wt 23 28 16777215 rfl z (ov_field fo66_1 rfl rfl) ?_
     refine wa1 24 rfl ?_
     refine wl_storeE (l := (l.set q ⟨s45, y1, y2, y3⟩)) (j := q) (r := 1) (el := ⟨s45, y1, y2, y3⟩) (el' := ⟨s45, s46, y2, y3⟩) 0 sc9 rfl rfl rfl rfl ro_len rfl (List.getElem?_set_self (by omega)) (by rw [List.length_set]; exact hl) (show 1 < 4 by decide) rfl rfl ?_
     rw [List.set_set]
     refine wl_nil ?_
     refine nw 28 33554431 (fun _ hm => ⟨hm.bl 2, trivial⟩) fun z => ?_
     refine wt 25 28 67108863 rfl z (ov_nilcheck rfl) ?_
     refine wt 26 28 134217727 rfl z (ov_field fo66_2 rfl rfl) ?_
     refine wa1 27 rfl ?_
     refine wl_storeE (l := (l.set q ⟨s45, s46, y2, y3⟩)) (j := q) (r := 2) (el := ⟨s45, s46, y2, y3⟩) (el' := ⟨s45, s46, v47, y3⟩) 0 sc3 rfl rfl rfl rfl ro_len rfl (List.getElem?_set_self (by omega)) (by rw [List.length_set]; exact hl) (show 2 < 4 by decide) rfl rfl ?_
     rw [List.set_set]
     refine wl_nil ?_
     refine nw 28 268435455 (fun _ hm => ⟨hm.bl 2, trivial⟩) fun z => ?_
     refine wa_done (by kernel_rfl) ?_
     refine nx_then (sr_ (mv_ rfl (sg_ rfl (nn_ ?_))))
     refine gw_ret ?_
     refine nx_ret1 rfl rfl fun wx hm => ?_
     exact ⟨some ⟨bo, 0, none⟩, k, c, (l.set q ⟨s45, s46, v47, y3⟩), rfl, SlT.ofOwn ro_len (hm.ownI 0 rfl) (by rw [List.length_set]; exact hl), ro_set hB ⟨by dsimp only; omega, by dsimp only; omega⟩, by omega, hm.k.more (by omega), hm.g⟩
    refine wl_buildSlice (e := 9) (cs := [.string y1, .string ⟨#[65]⟩, .string ⟨#[98]⟩]) rfl (by kernel_rfl) rfl fun g48 => ?_
    refine wl_nil ?_
    refine nw 28 195839 (fun _ hm => ⟨hm.bl 1, trivial⟩) fun z => ?_
    refine wa1 8 rfl ?_
    refine wl_buildSlice (e := 9) (cs := [.string y0, .string ⟨#[]⟩, .string ⟨#[98]⟩]) rfl (by kernel_rfl) rfl fun g49 => ?_
    refine wl_nil ?_
    refine nw 28 196095 (fun _ hm => ⟨hm.bl 2, trivial⟩) fun z => ?_
    refine wa1 9 rfl ?_
    refine wl_got (γ := ByteArray) (val := fun v => .string v) (φ := fun v => v ∈ ([y0, ⟨#[]⟩, ⟨#[98]⟩] : List ByteArray)) rfl cb12 rfl rfl rfl rfl (fun wx hm => (some_any [y0, ⟨#[]⟩, ⟨#[98]⟩] _ _ _ wx B sb _ hm.k (by omega) (by simp) (by simp) (hm.blkI 0 rfl) (hm.neRow 0 rfl rfl))) fun s50 hs50 => ?_
    have zzs50 : s50.size ≤ 1000 := mem3 hs50 (by assumption) (by decide) (by decide)
    refine wl_nil ?_
    refine nw 28 196607 (fun _ hm => ⟨hm.bl 2, trivial⟩) fun z => ?_
    refine wa1 16 rfl ?_
    refine wl_got (γ := ByteArray) (val := fun v => .string v) (φ := fun v => v ∈ ([y1, ⟨#[65]⟩, ⟨#[98]⟩] : List ByteArray)) rfl cb12 rfl rfl rfl rfl (fun wx hm => (some_any [y1, ⟨#[65]⟩, ⟨#[98]⟩] _ _ _ wx B sb _ hm.k (by omega) (by simp) (by simp) (hm.blkI 1 rfl) (hm.neRow 1 rfl rfl))) fun s51 hs51 => ?_
    have zzs51 : s51.size ≤ 1000 := mem3 hs51 (by assumption) (by decide) (by decide)
    refine wl_nil ?_
    refine nw 28 262143 (fun _ hm => ⟨hm.bl 2, trivial⟩) fun z => ?_
    refine wa1 18 rfl ?_
    refine wl_got (γ := Int) (val := fun v => .int .i64 v) (φ := fun v => -2000000000000000 ≤ v ∧ v ≤ 2000000000000000) rfl cb13 rfl rfl rfl rfl (fun wx hm => (odd_any _ _ wx B sb _ hm.k (by omega) (by omega) (by omega) (by omega))) fun v52 hv52 => ?_
    refine wl_nil ?_
    refine nw 28 524287 (fun _ hm => ⟨hm.bl 2, trivial⟩) fun z => ?_
    refine wt 19 28 1048575 rfl z (ov_nilcheck rfl) ?_
    refine wt 20 28 2097151 rfl z (ov_field fo66_0 rfl rfl) ?_
    refine wa1 21 rfl ?_
    refine wl_storeE (l := l) (j := q) (r := 0) (el := ⟨y0, y1, y2, y3⟩) (el' := ⟨s50, y1, y2, y3⟩) 0 sc9 rfl rfl rfl rfl ro_len rfl hy hl (show 0 < 4 by decide) rfl rfl ?_
    refine wl_nil ?_
    refine nw 28 4194303 (fun _ hm => ⟨hm.bl 2, trivial⟩) fun z => ?_
    refine wt 22 28 8388607 rfl z (ov_nilcheck rfl) ?_
    refine wt 23 28 16777215 rfl z (ov_field fo66_1 rfl rfl) ?_
    refine wa1 24 rfl ?_
    refine wl_storeE (l := (l.set q ⟨s50, y1, y2, y3⟩)) (j := q) (r := 1) (el := ⟨s50, y1, y2, y3⟩) (el' := ⟨s50, s51, y2, y3⟩) 0 sc9 rfl rfl rfl rfl ro_len rfl (List.getElem?_set_self (by omega)) (by rw [List.length_set]; exact hl) (show 1 < 4 by decide) rfl rfl ?_
    rw [List.set_set]
    refine wl_nil ?_
    refine nw 28 33554431 (fun _ hm => ⟨hm.bl 2, trivial⟩) fun z => ?_
    refine wt 25 28 67108863 rfl z (ov_nilcheck rfl) ?_
    refine wt 26 28 134217727 rfl z (ov_field fo66_2 rfl rfl) ?_
    refine wa1 27 rfl ?_
    refine wl_storeE (l := (l.set q ⟨s50, s51, y2, y3⟩)) (j := q) (r := 2) (el := ⟨s50, s51, y2, y3⟩) (el' := ⟨s50, s51, v52, y3⟩) 0 sc3 rfl rfl rfl rfl ro_len rfl (List.getElem?_set_self (by omega)) (by rw [List.length_set]; exact hl) (show 2 < 4 by decide) rfl rfl ?_
    rw [List.set_set]
    refine wl_nil ?_
    refine nw 28 268435455 (fun _ hm => ⟨hm.bl 2, trivial⟩) fun z => ?_
    refine wa_done (by kernel_rfl) ?_
    refine nx_then (sr_ (mv_ rfl (sg_ rfl (nn_ ?_))))
    refine gw_ret ?_
    refine nx_ret1 rfl rfl fun wx hm => ?_
    exact ⟨some ⟨bo, 0, none⟩, k, c, (l.set q ⟨s50, s51, v52, y3⟩), rfl, SlT.ofOwn ro_len (hm.ownI 0 rfl) (by rw [List.length_set]; exact hl), ro_set hB ⟨by dsimp only; omega, by dsimp only; omega⟩, by omega, hm.k.more (by omega), hm.g⟩
   refine wl_buildSlice (e := 9) (cs := [.string y1, .string ⟨#[65]⟩, .string ⟨#[98]⟩]) rfl (by kernel_rfl) rfl fun g53 => ?_
   refine wl_nil ?_
   refine nw 28 195711 (fun _ hm => ⟨hm.bl 1, trivial⟩) fun z => ?_
   refine wa1 7 rfl ?_
   refine wl_ov (ov_elem1 (k := 0) (v := .string y0) sc9 rfl (fun _ hm => (SlT.ofOwn ro_len (hm.ownI 0 rfl) hl)) hy rfl rfl) rfl ?_
   refine wl_nil ?_
   refine nw 28 195839 (fun _ hm => ⟨hm.bl 1, trivial⟩) fun z => ?_
   refine wa1 8 rfl ?_
   refine wl_buildSlice (e := 9) (cs := [.string y0, .string ⟨#[]⟩, .string ⟨#[98]⟩]) rfl (by kernel_rfl) rfl fun g54 => ?_
   refine wl_nil ?_
   refine nw 28 196095 (fun _ hm => ⟨hm.bl 2, trivial⟩) fun z => ?_
   refine wa1 9 rfl ?_
   refine wl_got (γ := ByteArray) (val := fun v => .string v) (φ := fun v => v ∈ ([y0, ⟨#[]⟩, ⟨#[98]⟩] : List ByteArray)) rfl cb12 rfl rfl rfl rfl (fun wx hm => (some_any [y0, ⟨#[]⟩, ⟨#[98]⟩] _ _ _ wx B sb _ hm.k (by omega) (by simp) (by simp) (hm.blkI 0 rfl) (hm.neRow 0 rfl rfl))) fun s55 hs55 => ?_
   have zzs55 : s55.size ≤ 1000 := mem3 hs55 (by assumption) (by decide) (by decide)
   refine wl_nil ?_
   refine nw 28 196607 (fun _ hm => ⟨hm.bl 2, trivial⟩) fun z => ?_
   refine wa1 16 rfl ?_
   refine wl_got (γ := ByteArray) (val := fun v => .string v) (φ := fun v => v ∈ ([y1, ⟨#[65]⟩, ⟨#[98]⟩] : List ByteArray)) rfl cb12 rfl rfl rfl rfl (fun wx hm => (some_any [y1, ⟨#[65]⟩, ⟨#[98]⟩] _ _ _ wx B sb _ hm.k (by omega) (by simp) (by simp) (hm.blkI 1 rfl) (hm.neRow 1 rfl rfl))) fun s56 hs56 => ?_
   have zzs56 : s56.size ≤ 1000 := mem3 hs56 (by assumption) (by decide) (by decide)
   refine wl_nil ?_
   refine nw 28 262143 (fun _ hm => ⟨hm.bl 2, trivial⟩) fun z => ?_
   refine wa1 18 rfl ?_
   refine wl_got (γ := Int) (val := fun v => .int .i64 v) (φ := fun v => -2000000000000000 ≤ v ∧ v ≤ 2000000000000000) rfl cb13 rfl rfl rfl rfl (fun wx hm => (odd_any _ _ wx B sb _ hm.k (by omega) (by omega) (by omega) (by omega))) fun v57 hv57 => ?_
   refine wl_nil ?_
   refine nw 28 524287 (fun _ hm => ⟨hm.bl 2, trivial⟩) fun z => ?_
   refine wt 19 28 1048575 rfl z (ov_nilcheck rfl) ?_
   refine wt 20 28 2097151 rfl z (ov_field fo66_0 rfl rfl) ?_
   refine wa1 21 rfl ?_
   refine wl_storeE (l := l) (j := q) (r := 0) (el := ⟨y0, y1, y2, y3⟩) (el' := ⟨s55, y1, y2, y3⟩) 0 sc9 rfl rfl rfl rfl ro_len rfl hy hl (show 0 < 4 by decide) rfl rfl ?_
   refine wl_nil ?_
   refine nw 28 4194303 (fun _ hm => ⟨hm.bl 2, trivial⟩) fun z => ?_
   refine wt 22 28 8388607 rfl z (ov_nilcheck rfl) ?_
   refine wt 23 28 16777215 rfl z (ov_field fo66_1 rfl rfl) ?_
   refine wa1 24 rfl ?_
   refine wl_storeE (l := (l.set q ⟨s55, y1, y2, y3⟩)) (j := q) (r := 1) (el := ⟨s55, y1, y2, y3⟩) (el' := ⟨s55, s56, y2, y3⟩) 0 sc9 rfl rfl rfl rfl ro_len rfl (List.getElem?_set_self (by omega)) (by rw [List.length_set]; exact hl) (show 1 < 4 by decide) rfl rfl ?_
   rw [List.set_set]
   refine wl_nil ?_
   refine nw 28 33554431 (fun _ hm => ⟨hm.bl 2, trivial⟩) fun z => ?_
   refine wt 25 28 67108863 rfl z (ov_nilcheck rfl) ?_
   refine wt 26 28 134217727 rfl z (ov_field fo66_2 rfl rfl) ?_
   refine wa1 27 rfl ?_
   refine wl_storeE (l := (l.set q ⟨s55, s56, y2, y3⟩)) (j := q) (r := 2) (el := ⟨s55, s56, y2, y3⟩) (el' := ⟨s55, s56, v57, y3⟩) 0 sc3 rfl rfl rfl rfl ro_len rfl (List.getElem?_set_self (by omega)) (by rw [List.length_set]; exact hl) (show 2 < 4 by decide) rfl rfl ?_
   rw [List.set_set]
   refine wl_nil ?_
   refine nw 28 268435455 (fun _ hm => ⟨hm.bl 2, trivial⟩) fun z => ?_
   refine wa_done (by kernel_rfl) ?_
   refine nx_then (sr_ (mv_ rfl (sg_ rfl (nn_ ?_))))
   refine gw_ret ?_
   refine nx_ret1 rfl rfl fun wx hm => ?_
   exact ⟨some ⟨bo, 0, none⟩, k, c, (l.set q ⟨s55, s56, v57, y3⟩), rfl, SlT.ofOwn ro_len (hm.ownI 0 rfl) (by rw [List.length_set]; exact hl), ro_set hB ⟨by dsimp only; omega, by dsimp only; omega⟩, by omega, hm.k.more (by omega), hm.g⟩
  have hcd : f11 = false := by simpa using hh
  clear hh
  refine gw_skip (nx_then (sr_ (mv_ rfl (sg_ rfl (nn_ ?_)))))
  refine gw_ret ?_
  refine nx_ret1 rfl rfl fun wx hm => ?_
  exact ⟨A, k, c, l, rfl, SlT.ofOwn ro_len (hm.ownI 0 rfl) hl, hB, by omega, hm.k.more (by omega), hm.g⟩
 refine wl_set 46 rfl (congrArg Value.bool hg10) ?_
 replace hg10 := of_decide_eq_false hg10
 refine goff rfl rfl rfl (goff rfl rfl rfl (pf_ rfl rfl (nn_ (cf_ rfl (gw_skip (nx_then (sr_ (mv_ rfl (sg_ rfl (nn_ ?_))))))))))
 refine gw_ret ?_
 refine nx_ret1 rfl rfl fun wx hm => ?_
 exact ⟨A, k, c, l, rfl, SlT.ofOwn ro_len (hm.ownI 0 rfl) hl, hB, by omega, hm.k.more (by omega), hm.g⟩
end Go.Proofs.Ytodcildcipfmcaa
namespace Go.Proofs.Ytodcildcipfmcaa
open Go.RowKit
section
variable {P : Program} {nn : Nat} {S : List (Nat × Value)} {Z : World → Prop} {d : Nat} {ty : TypeId} {pos : String} {aft : Array Edge}
theorem ov_toI32 {s t : TypeId} {k : IntKind} {x : Operand} {n : Int} (hs : (kindTy P s).isSome = true) (ht : kindTy P t = some .i32) (hx : rd S x = some (.int k n)) (h0 : 0 ≤ n) (h1 : n ≤ 255) : OV P nn S Z ⟨some d, .convert s t x, ty, pos, aft, none⟩ (.int .i32 n) := fun b w hb hm => by
  obtain ⟨m, rfl⟩ := Int.eq_ofNat_of_zero_le h0
  have h3 : IntKind.i32.wrap (m : Int) = (m : Int) := by
    simp only [IntKind.wrap, IntKind.bits, IntKind.signed]
    simp
    omega
  have hk : P.intKind t = .i32 := by simp [Program.intKind, kindTy_u ht]
  obtain ⟨k', hk'⟩ := Option.isSome_iff_exists.1 hs
  have h2 := run_convert_int (P := P) w s t k (m : Int) (by rw [kindTy_u hk']; rfl) (by rw [hk]; exact kindTy_u ht)
  rw [hk, h3] at h2
  simp [execOp, hb.eval hx, h2]
theorem ov_runeStr {s t : TypeId} {k : IntKind} {x : Operand} {n : Int} (hs : (kindTy P s).isSome = true) (ht : P.underlying t = some .string) (hx : rd S x = some (.int k n)) : OV P nn S Z ⟨some d, .convert s t x, ty, pos, aft, none⟩ (.string (Utf8.encode n)) := fun b w hb hm => by
  obtain ⟨k', hk'⟩ := Option.isSome_iff_exists.1 hs
  have h2 := run_convert_int_string (P := P) w s t k n (by rw [kindTy_u hk']; rfl) ht
  simp [execOp, hb.eval hx, h2]
end
end Go.Proofs.Ytodcildcipfmcaa
namespace Go.Proofs.Ytodcildcipfmcaa
open Go.RowKit
theorem Mem.gainA {c : Cx} {K : World → Prop} {L : List (Nat × TypeId × List Value)} {O : List Own} {X : List (World → Prop)} {w w' : World} {g : Nat} {T : TypeId} {cs : List Value} (h : Mem c K L O X w) (hgr : w.grownBy w' none) (hN : w.heap.size ≤ g) (hb : Blk w' g T cs) : Mem c K ((g, T, cs) :: L) O X w' := by
  have h2 := h.grow hgr
  refine ⟨h2.g, h2.k, fun x hx => ?_, List.Pairwise.cons (fun y hy e => by have h3 := (h.b y hy).2.lt; have e2 : g = y.1 := e; omega) h.nd, h2.o, fun r hr x hx => ?_, h.oo, h2.x, h.kk, h.l, h.rs⟩
  · rcases List.mem_cons.1 hx with rfl | hx
    · exact ⟨Nat.le_trans h.g.size hN, hb⟩
    · exact h2.b x hx
  · rcases List.mem_cons.1 hx with rfl | hx
    · intro e
      have := ((h.o r hr).lt g e).2
      omega
    · exact h.od r hr x hx
theorem BlkX.lasts {N : Nat} {row : Option Nat} {Tt : List TypeId} {g : Nat} {T : TypeId} {cs : List Value} (hT : Tt.contains T = true) : Lasts2 N row Tt (fun w => Blk w g T cs) := ⟨fun _ _ h hx => hx.grown h (by simp), fun w _ r T2 c h1 h2 _ h4 hx => hx.grown h4 (fun e => by
  have e2 : g = r := Option.some.inj e
  subst e2
  unfold Blk at hx
  rw [h1] at hx
  injection hx with hx
  injection hx with _ hx _
  exact h2 (by rw [hx]; simpa using hT))⟩
section
variable {P : Program} {c : Cx} {ops : Array Oper} {Q : Exit → Act → World → Prop} {rest : List Oper} {S : List (Nat × Value)} {K : World → Prop} {L : List (Nat × TypeId × List Value)} {O : List Own} {X : List (World → Prop)} {d : Nat} {ty : TypeId} {pos : String} {aft : Array Edge} {ty2 : TypeId} {pos2 : String} {aft2 : Array Edge}
/-- A copy of a struct in a new block. -/
theorem wl_allocs {t : TypeId} {y : Operand} {n : Nat} {cs vs cs' : List Value} (hz : zeroCs P t = some cs) (hd : Nat.ble (d + 1) c.n = true) (hs : rowSz P t = some n) (hy : ∀ g, rd ((d, .pointer (some ⟨g, 0, none⟩)) :: S) y = some (.agg vs.toArray)) (hx : ∀ g, rd ((d, .pointer (some ⟨g, 0, none⟩)) :: S) (.tmp d) = some (.pointer (some ⟨g, 0, none⟩))) (h1 : vs.all (·.oneCell') = true) (hn : vs.length = n) (ho : Nat.ble (0 + n) cs.length = true) (hcs : splice cs 0 vs = cs')
    (h : ∀ g, WL P c ops Q rest ((d, .pointer (some ⟨g, 0, none⟩)) :: S) K ((g, t, cs') :: L) O X) : WL P c ops Q (⟨some d, .alloc t, ty, pos, aft, none⟩ :: ⟨none, .store t (.tmp d) y, ty2, pos2, aft2, none⟩ :: rest) S K L O X := by
  intro a w ha hm
  refine wpList_plain rfl fun K' hK => ?_
  unfold zeroCs at hz
  cases hi : P.info? t with
  | none => simp [hi] at hz
  | some inf =>
    cases hzz : inf.zero with
    | none => simp [hi, hzz] at hz
    | some z =>
      simp only [hi, hzz, Option.bind_some, Option.map_some, Option.some.injEq] at hz
      unfold Oper.wp
      have : (execOp a.eval ⟨some d, .alloc t, ty, pos, aft, none⟩).run P w = .ok (.value (.pointer (some ⟨w.heap.size, 0, none⟩))) (w.alloc (.cells cs.toArray t)) := by
        subst hz
        simp [execOp, Instr.alloc, zeroValue, typeInfo, hi, hzz, newVar, newRow]
      rw [this]
      refine hK _ _ ?_
      have ha2 := ha.put hd (.pointer (some ⟨w.heap.size, 0, none⟩))
      have hb := Blk.at_ w rfl t cs
      obtain ⟨dd, hu, hr, hi⟩ := run_row hs
      subst hcs
      refine wpList_store_blk rfl t (.tmp d) y rfl w.heap.size 0 t cs vs hb (ha2.eval (hx _)) (ha2.eval (hy _)) n hi hn (Nat.le_of_ble_eq_true ho) (by simpa using h1) fun w' hb' hg => ?_
      exact h _ _ _ ⟨ha2.size, ha2.val, ha2.df⟩ (hm.gainA (grow_own (grow_alloc (World.grownBy.refl w none) _) hg (fun k e => by cases e; exact Nat.le_refl _)) (Nat.le_refl _) hb')
end
end Go.Proofs.Ytodcildcipfmcaa
namespace Go.Proofs.Ytodcildcipfmcaa
open Go.RowKit
def keys4 : List ByteArray := [⟨#[97]⟩, ⟨#[98]⟩, ⟨#[99]⟩, ⟨#[100]⟩]
theorem key_at {i : Nat} (h : i < 4) : keys4[i]? = some (skey i) := by
  rcases (show i = 0 ∨ i = 1 ∨ i = 2 ∨ i = 3 by omega) with rfl | rfl | rfl | rfl <;> rfl
theorem sl4_take {i : Nat} (h : i < 4) : (sl4.take (i + 1)).flatMap stEnc = (sl4.take i).flatMap stEnc ++ ([.string (skey i), .int .i64 0, .int .i64 0, .int .i64 0, .int .i64 0, .int .i64 0, .int .i64 0, .int .i64 0, .int .i64 0, .int .i64 0, .int .i64 0, .int .i64 0, .int .i64 0, .int .i64 0, .int .i64 0] : List Value) := by
  rcases (show i = 0 ∨ i = 1 ∨ i = 2 ∨ i = 3 by omega) with rfl | rfl | rfl | rfl <;> rfl
theorem sok4 : ∀ x ∈ sl4, StOk x := by
  intro x hx
  unfold sl4 z14 at hx
  simp only [List.mem_cons, List.not_mem_nil, or_false] at hx
  rcases hx with rfl | rfl | rfl | rfl <;> exact ⟨rfl, by decide, by decide⟩
theorem cok1 : ∀ x ∈ cl1, CsOk x := by
  intro x hx
  rw [List.mem_singleton.1 hx]; exact ⟨by decide, by decide⟩
theorem vokL {c : Nat} (h : c ≤ 8) : ∀ x ∈ vhL c, VhOk x := by
  have gen : ∀ (n k : Nat), k + n ≤ 8 → ∀ x ∈ vhF k n, VhOk x := by
    intro n
    induction n with
    | zero => exact fun k _ x hx => by cases hx
    | succ n ih =>
      intro k hk x hx
      rcases List.mem_cons.1 hx with rfl | hx
      · exact ⟨by show (vkey k).size ≤ 1000000; rw [vkey_size (by omega)]; decide, by show (⟨#[99]⟩ : ByteArray).size ≤ 1000000; decide⟩
      · exact ih (k + 1) (by omega) x hx
  exact gen c 0 (by omega)
theorem mv_agg {nl : List Nd} {f t : Nat} {a b : ByteArray} {mn : Int} (h1 : staAt nl f = a) (h2 : staAt nl t = b) : Value.agg #[.string (staAt nl f), .string (staAt nl t), .int .i64 mn] = .agg #[.string a, .string b, .int .i64 mn] := by rw [h1, h2]
theorem h10_open : isOpenV ⟨⟨#[115]⟩, [0, 9, 0, 0, 0, 0, 0, 0, 0, 0, 0, 0, 0, 0]⟩ 8 = true ∧ isOpenE ⟨⟨#[115]⟩, [0, 9, 0, 0, 0, 0, 0, 0, 0, 0, 0, 0, 0, 0]⟩ 8 = 0 := ⟨by kernel_rfl, by kernel_rfl⟩
theorem h10_is (w : World) : Calls Try.prog 18 #[.agg #[.string ⟨#[115]⟩, .int .i64 0, .int .i64 9, .int .i64 0, .int .i64 0, .int .i64 0, .int .i64 0, .int .i64 0, .int .i64 0, .int .i64 0, .int .i64 0, .int .i64 0, .int .i64 0, .int .i64 0, .int .i64 0], .int .i64 8] w (RetBE w true 0) := by
  have hs : ∀ h ∈ [0, 9, 0, 0, 0, 0, 0, 0, 0, 0, 0, 0, 0, (0 : Int)], 0 ≤ h ∧ h ≤ 9 := by decide
  have h := lotOpen_any ⟨#[115]⟩ [0, 9, 0, 0, 0, 0, 0, 0, 0, 0, 0, 0, 0, 0] 8 w ⟨rfl, (by decide : (⟨#[115]⟩ : ByteArray).size ≤ 1000000), fun h hh => by have := hs h hh; omega⟩ (fun h hh => by have := hs h hh; omega)
  rw [h10_open.1, h10_open.2] at h
  exact h
theorem h10lot_any (w : World) : Calls Try.prog 7 #[] w (fun e w' => e = .returned (.bool true) ∧ w.grownBy w' none) := by
 refine gw_enter ⟨15, w, none, []⟩ Try.func7 rfl Try.ntmps7 rfl (mem0 (X := []) allF_nil allL_nil) ?_
 refine sr_ (sg_ rfl (nn_ (sr_ ?_)))
 refine wl_ov (ov_build (cs := [.int .i64 0, .int .i64 9]) rfl (by kernel_rfl)) rfl ?_
 refine wl_ov (ov_build (cs := [.int .i64 0, .int .i64 9, .int .i64 0, .int .i64 0, .int .i64 0, .int .i64 0, .int .i64 0, .int .i64 0, .int .i64 0, .int .i64 0, .int .i64 0, .int .i64 0, .int .i64 0, .int .i64 0]) rfl (by kernel_rfl)) rfl ?_
 refine wl_ov (ov_build (cs := [.string ⟨#[115]⟩, .int .i64 0, .int .i64 9, .int .i64 0, .int .i64 0, .int .i64 0, .int .i64 0, .int .i64 0, .int .i64 0, .int .i64 0, .int .i64 0, .int .i64 0, .int .i64 0, .int .i64 0, .int .i64 0]) rfl (by kernel_rfl)) rfl ?_
 refine wl_callv rfl cb18 rfl rfl (fun wx hm => (h10_is wx)) ?_
 refine mv_ rfl (wl_ov (ov_extract rfl rfl) rfl (wl_ov (ov_extract rfl rfl) rfl (sg_ rfl (sg_ rfl (nn_ (sr_ (mv_ rfl (wl_ov (ov_eql rfl rfl) rfl ?_))))))))
 refine wl_set 11 (v' := .bool true) rfl (congrArg Value.bool (by decide)) ?_
 refine mv_ rfl (wl_guard_on rfl rfl rfl (mv_ rfl (pt_ rfl rfl (sg_ rfl (nn_ ?_)))))
 refine gw_ret ?_
 refine nx_ret1 rfl rfl fun wx hm => ?_
 exact ⟨rfl, hm.g⟩
theorem carsCome_walk (a0 : Option Addr) (len0 cap0 : Nat) (z0 : List Int) (w : World) (hR : RowIn w a0 len0 cap0 z0) :
  Calls Try.prog 3 #[.slice a0 len0 cap0] w fun e w' => e = .returned (.bool true) ∧ Below w.heap.size w w' := by
 refine gw_enter ⟨197, w, none, []⟩ Try.func3 rfl Try.ntmps3 rfl (mem0 (X := []) allF_nil allL_nil) ?_
 refine sr_ (sg_ rfl (nn_ (sr_ (mv_ rfl ?_))))
 refine wl_ov (ov_build (cs := [.slice a0 len0 cap0, .int .i64 0]) rfl (by kernel_rfl)) rfl ?_
 refine wl_box rfl rfl rfl fun sb => ?_
 refine sg_ rfl (nn_ ?_)
 refine gw_law [66, 57, 9] hR 0 rfl fun w1 B hg1 hsb => ?_
 refine sr_ ?_
 refine wl_ov (ov_build (cs := [.string ⟨#[99]⟩, .string ⟨#[]⟩]) rfl (by kernel_rfl)) rfl ?_
 refine wl_buildSlice (e := 27) (cs := [.string ⟨#[99]⟩, .string ⟨#[]⟩]) rfl (by kernel_rfl) rfl fun g1 => ?_
 refine wl_ov (ov_build (cs := [.slice none 0 0, .slice (some ⟨g1, 0, none⟩) 1 1, .slice none 0 0, .slice none 0 0]) rfl (by kernel_rfl)) rfl ?_
 refine wl_alloc zc33 rfl fun g2 => ?_
 refine wl_stores (cs' := [.slice none 0 0, .slice (some ⟨g1, 0, none⟩) 1 1, .slice none 0 0, .slice none 0 0]) 0 rz33 rfl rfl rfl rfl rfl rfl rfl rfl ?_
 refine nn_ (sr_ (sg_ rfl (nn_ (sr_ (sg_ rfl (nn_ (gw_seq ?_)))))))
 refine gw_nilOwn 41 15 ?_
 refine gw_nilOwn 46 2 ?_
 refine gw_nilOwn 48 5 ?_
 refine gw_nilOwn 44 2 ?_
 refine sr_ ?_
 refine wl_buildSlice (e := 9) (cs := [.string ⟨#[97]⟩, .string ⟨#[98]⟩, .string ⟨#[99]⟩, .string ⟨#[100]⟩]) rfl (by kernel_rfl) rfl fun g3 => ?_
 refine wl_ov (ov_len es36 rfl) rfl ?_
 refine wl_set 34 (v' := .int .i64 4) rfl rfl ?_
 refine mv_ rfl (nn_ (gw_block ?_))
 have hvl0 : vhL 0 = [] := rfl
 refine gw_loop (γ := Nat × Nat × Value × Option Addr × Nat × Value × Value × List Nat × List Ev × List Nd × List Value × List Value × List Value × List Value) (fun gg => (gg.1 ≤ 4 ∧ gg.2.1 ≤ 2 * gg.1 ∧ gg.2.2.2.2.2.2.2.1.length = gg.2.1) ∧ (NeedsP gg.2.2.2.2.2.2.2.2.2.1 gg.2.2.2.2.2.2.2.1 gg.1 ∧ (∀ x ∈ gg.2.2.2.2.2.2.2.1, x < gg.1) ∧ Sim gg.2.2.2.2.2.2.2.1 gg.2.2.2.2.2.2.2.2.1 2 gg.2.1 ∧ EntO gg.2.2.2.2.2.2.2.1 gg.2.2.2.2.2.2.2.2.1) ∧ gg.2.2.2.2.2.2.2.2.2.2.1 = (sl4.take gg.1).flatMap stEnc ∧ gg.2.2.2.2.2.2.2.2.2.2.2.1 = (vhL gg.2.1).flatMap vhEnc ∧ gg.2.2.2.2.2.2.2.2.2.2.2.2.1 = gg.2.2.2.2.2.2.2.2.1.flatMap evEnc ∧ gg.2.2.2.2.2.2.2.2.2.2.2.2.2 = gg.2.2.2.2.2.2.2.2.2.1.flatMap ndEnc) (fun gg => [(2, .bool false), (3, .pointer (some ⟨sb, 0, none⟩)), (4, .pointer (some ⟨g2, 0, none⟩)), (5, gg.2.2.2.2.2.1), (6, gg.2.2.2.2.2.2.1), (33, .slice (some ⟨g3, 0, none⟩) 4 4), (34, .int .i64 4), (35, .int .i64 ((gg.1 : Nat) : Int))]) (fun gg => fun w => Strm 25 w B sb (100 * gg.1)) (fun gg => [(g2, 33, [gg.2.2.1, .slice (some ⟨g1, 0, none⟩) 1 1, .slice gg.2.2.2.1 gg.2.1 gg.2.2.2.2.1, .slice none 0 0]), (g1, 27, [.string ⟨#[99]⟩, .string ⟨#[]⟩]), (g3, 9, [.string ⟨#[97]⟩, .string ⟨#[98]⟩, .string ⟨#[99]⟩, .string ⟨#[100]⟩])]) (fun gg => [⟨gg.2.2.2.2.2.2.1, 44, 2, gg.1, gg.2.2.2.2.2.2.2.2.2.2.2.2.2⟩, ⟨gg.2.2.2.2.2.1, 48, 5, gg.2.1, gg.2.2.2.2.2.2.2.2.2.2.2.2.1⟩, ⟨.slice gg.2.2.2.1 gg.2.1 gg.2.2.2.2.1, 46, 2, gg.2.1, gg.2.2.2.2.2.2.2.2.2.2.2.1⟩, ⟨gg.2.2.1, 41, 15, gg.1, gg.2.2.2.2.2.2.2.2.2.2.1⟩]) (fun gg => []) (fun gg => 4 - gg.1) (0, 0, .slice none 0 0, none, 0, .slice none 0 0, .slice none 0 0, [], [], [], [], [], [], []) ⟨⟨Nat.zero_le _, Nat.le_refl _, rfl⟩, ⟨NeedsP.zero, (fun _ h => by cases h), Sim.nil, EntO.nil⟩, rfl, rfl, rfl, rfl⟩ ⟨rfl, rfl, rfl, rfl, rfl, rfl, rfl, rfl, trivial⟩ (fun _ hm => (hm.more rfl (by first | omega | (dsimp only; omega))).pick [1, 2, 0] [0, 1, 2, 3] [] rfl rfl) ?_
 rintro ⟨i, c, fs, fvA, fvc, lg, nd, lc, el, nl, fsx, fvx, lgx, ndx⟩ hinv
 replace hinv : (i ≤ 4 ∧ c ≤ 2 * i ∧ lc.length = c) ∧ (NeedsP nl lc i ∧ (∀ x ∈ lc, x < i) ∧ Sim lc el 2 c ∧ EntO lc el) ∧ fsx = (sl4.take i).flatMap stEnc ∧ fvx = (vhL c).flatMap vhEnc ∧ lgx = el.flatMap evEnc ∧ ndx = nl.flatMap ndEnc := hinv
 dsimp only
 refine sr_ ?_
 obtain ⟨⟨hi0, hci, hlc⟩, ⟨hnp, hlt, hsim, hent⟩, rfl, rfl, rfl, rfl⟩ := hinv
 refine wl_ov (ov_lss rfl rfl) rfl (nn_ (gw_seq ?_))
 refine gw_cond rfl (fun hh => ?_) (fun hh => ?_)
 ·have hi : ((i : Nat) : Int) < 4 := by simpa using hh
  clear hh
  refine gw_skip (nx_then (gw_seq (gw_block (sr_ ?_))))
  have hskz := skey_size i
  refine wl_ov (ov_index (j := i) es36 rfl rfl (by omega)) rfl ?_
  refine wl_ov (ov_elem1 (k := 0) (v := .string (skey i)) sc9 rfl (fun _ hm => (SlT.ofBlk (l := keys4) sg_len (hm.blkI 2 rfl))) (key_at (by omega)) rfl rfl) rfl ?_
  refine sg_ rfl (nn_ (sr_ (fd_ fo33_0 rfl rfl (lk_ sc29 0 rfl rfl rfl (mv_ rfl ?_)))))
  refine wl_ov (ov_build (cs := [.string (skey i), .int .i64 0, .int .i64 0, .int .i64 0, .int .i64 0, .int .i64 0, .int .i64 0, .int .i64 0, .int .i64 0, .int .i64 0, .int .i64 0, .int .i64 0, .int .i64 0, .int .i64 0, .int .i64 0]) rfl (by kernel_rfl)) rfl ?_
  refine wl_buildSlice (e := 41) (cs := [.string (skey i), .int .i64 0, .int .i64 0, .int .i64 0, .int .i64 0, .int .i64 0, .int .i64 0, .int .i64 0, .int .i64 0, .int .i64 0, .int .i64 0, .int .i64 0, .int .i64 0, .int .i64 0, .int .i64 0]) rfl (by kernel_rfl) rfl fun g4 => ?_
  refine wl_append (news := [.string (skey i), .int .i64 0, .int .i64 0, .int .i64 0, .int .i64 0, .int .i64 0, .int .i64 0, .int .i64 0, .int .i64 0, .int .i64 0, .int .i64 0, .int .i64 0, .int .i64 0, .int .i64 0, .int .i64 0]) 3 0 ap29 rfl rfl rfl rfl rfl rfl rfl (by omega) (by unfold maxLen; omega) rfl rfl fun fs2 hfs2 => ?_
  refine wl_look (R := ∃ A cc, fs2 = .slice A (i + 1) cc) (fun wx hm => own_slice (hm.ownI 3 rfl)) ?_
  rintro ⟨fsA2, fsc2, rfl⟩
  refine fd_ fo33_0 rfl rfl ?_
  refine wl_store 1 sc29 rfl rfl rfl rfl rfl rfl ?_
  refine nn_ (sr_ (mv_ rfl ?_))
  refine wl_buildSlice (e := 3) (cs := [.int .i64 0, .int .i64 1, .int .i64 2, .int .i64 (-1), .int .i64 (-1)]) rfl (by kernel_rfl) rfl fun g5 => ?_
  refine wl_got (γ := Int) (val := fun v => .int .i64 v) (φ := fun v => v ∈ ([0, 1, 2, -1, -1] : List Int)) rfl cb4 rfl rfl rfl rfl (fun wx hm => (pick_any [0, 1, 2, -1, -1] _ _ _ wx B sb _ hm.k (by omega) (by simp) (by simp) (hm.blkI 0 rfl) (hm.neRow 0 rfl rfl))) fun v6 hv6 => ?_
  have bv6 : -1 ≤ v6 ∧ v6 ≤ 2 := mem_rng hv6 (by decide)
  have bv60 := bv6.1
  have bv61 := bv6.2
  clear bv6
  refine sg_ rfl (nn_ (sr_ (mv_ rfl (mv_ rfl (mv_ rfl ?_)))))
  refine wl_ov (ov_build (cs := [.string (skey i), .int .i64 v6]) rfl (by kernel_rfl)) rfl ?_
  refine wl_buildSlice (e := 44) (cs := [.string (skey i), .int .i64 v6]) rfl (by kernel_rfl) rfl fun g7 => ?_
  refine wl_append (news := [.string (skey i), .int .i64 v6]) 0 0 ap35 rfl rfl rfl rfl rfl rfl rfl (by omega) (by unfold maxLen; omega) rfl rfl fun nd2 hnd2 => ?_
  refine sg_ rfl (nn_ (sr_ (mv_ rfl ?_)))
  refine wl_ov (ov_max rfl rfl) rfl ?_
  refine mv_ rfl (nn_ (gw_block ?_))
  refine gw_loop (γ := Nat × Nat × Option Addr × Nat × Value × List Nat × List Ev × List Value × List Value) (fun gg => (gg.1 ≤ 2 ∧ ((gg.1 : Nat) : Int) ≤ max 0 v6 ∧ gg.2.1 = c + gg.1 ∧ gg.2.2.2.2.2.1.length = gg.2.1) ∧ ((∀ s, cntR s gg.2.2.2.2.2.1 = cntR s lc + (if i = s then ((gg.1 : Nat) : Int) else 0)) ∧ (∀ x ∈ gg.2.2.2.2.2.1, x < i + 1) ∧ Sim gg.2.2.2.2.2.1 gg.2.2.2.2.2.2.1 2 gg.2.1 ∧ EntO gg.2.2.2.2.2.1 gg.2.2.2.2.2.2.1) ∧ gg.2.2.2.2.2.2.2.1 = (vhL gg.2.1).flatMap vhEnc ∧ gg.2.2.2.2.2.2.2.2 = gg.2.2.2.2.2.2.1.flatMap evEnc) (fun gg => [(2, .bool false), (3, .pointer (some ⟨sb, 0, none⟩)), (4, .pointer (some ⟨g2, 0, none⟩)), (5, gg.2.2.2.2.1), (6, nd2), (8, .string (skey i)), (33, .slice (some ⟨g3, 0, none⟩) 4 4), (34, .int .i64 4), (35, .int .i64 ((i : Nat) : Int)), (56, .int .i64 (max 0 v6)), (57, .int .i64 ((gg.1 : Nat) : Int))]) (fun gg => fun w => Strm 25 w B sb (100 * i + 1)) (fun gg => [(g2, 33, [.slice fsA2 (i + 1) fsc2, .slice (some ⟨g1, 0, none⟩) 1 1, .slice gg.2.2.1 gg.2.1 gg.2.2.2.1, .slice none 0 0]), (g1, 27, [.string ⟨#[99]⟩, .string ⟨#[]⟩]), (g3, 9, [.string ⟨#[97]⟩, .string ⟨#[98]⟩, .string ⟨#[99]⟩, .string ⟨#[100]⟩])]) (fun gg => [⟨nd2, 44, 2, i + 1, nl.flatMap ndEnc ++ ([.string (skey i), .int .i64 v6] : List Value)⟩, ⟨gg.2.2.2.2.1, 48, 5, gg.2.1, gg.2.2.2.2.2.2.2.2⟩, ⟨.slice gg.2.2.1 gg.2.1 gg.2.2.2.1, 46, 2, gg.2.1, gg.2.2.2.2.2.2.2.1⟩, ⟨.slice fsA2 (i + 1) fsc2, 41, 15, i + 1, (sl4.take i).flatMap stEnc ++ ([.string (skey i), .int .i64 0, .int .i64 0, .int .i64 0, .int .i64 0, .int .i64 0, .int .i64 0, .int .i64 0, .int .i64 0, .int .i64 0, .int .i64 0, .int .i64 0, .int .i64 0, .int .i64 0, .int .i64 0] : List Value)⟩]) (fun gg => []) (fun gg => 2 - gg.1) (0, c, fvA, fvc, lg, lc, el, ((vhL c).flatMap vhEnc), (el.flatMap evEnc)) ⟨⟨Nat.zero_le _, by dsimp only; omega, rfl, hlc⟩, ⟨fun s => by dsimp only; split <;> omega, fun x hx => by have := hlt x hx; omega, hsim, hent⟩, rfl, rfl⟩ ⟨rfl, rfl, rfl, rfl, rfl, rfl, rfl, rfl, rfl, rfl, rfl, trivial⟩ (fun _ hm => hm.pick [3, 4, 5] [0, 1, 2, 3] [] rfl rfl) ?_
  rintro ⟨j, cj, vAj, vcj, lgj, lj, ej, vxj, lxj⟩ hinv
  replace hinv : (j ≤ 2 ∧ ((j : Nat) : Int) ≤ max 0 v6 ∧ cj = c + j ∧ lj.length = cj) ∧ ((∀ s, cntR s lj = cntR s lc + (if i = s then ((j : Nat) : Int) else 0)) ∧ (∀ x ∈ lj, x < i + 1) ∧ Sim lj ej 2 cj ∧ EntO lj ej) ∧ vxj = (vhL cj).flatMap vhEnc ∧ lxj = ej.flatMap evEnc := hinv
  dsimp only
  refine sr_ ?_
  obtain ⟨⟨hj0, hj1, hcj, hljl⟩, ⟨hcnt, hlj, hsj, hej⟩, rfl, rfl⟩ := hinv
  refine wl_ov (ov_lss rfl rfl) rfl (nn_ (gw_seq ?_))
  refine gw_cond rfl (fun hh => ?_) (fun hh => ?_)
  ·have hj : ((j : Nat) : Int) < max 0 v6 := by simpa using hh
   clear hh
   refine gw_skip (nx_then (gw_seq (gw_block (sr_ ?_))))
   have hj2 : j < 2 := by omega
   have hc8 : cj < 8 := by omega
   have hvz := vkey_size hc8
   have hus : (Utf8.encode (97 + ((cj : Nat) : Int))).size = 1 := by
    unfold vkey at hvz
    rw [ByteArray.size_append] at hvz
    have h1 : (⟨#[118]⟩ : ByteArray).size = 1 := rfl
    omega
   refine fd_ fo33_2 rfl rfl (lk_ sc30 0 rfl rfl rfl (wl_ov (ov_len es30 rfl) rfl (ad_ rfl rfl ?_)))
   refine wl_ov (ov_toI32 (by kernel_rfl) (by kernel_rfl) rfl (by omega) (by omega)) rfl ?_
   refine wl_ov (ov_runeStr (by kernel_rfl) us9 rfl) rfl ?_
   refine wl_ov (ov_sadd rfl rfl (by rw [hus]; exact (by decide : (⟨#[118]⟩ : ByteArray).size + 1 ≤ 9223372036854775807))) rfl ?_
   refine wl_set 65 (v' := .string (vkey cj)) rfl (rfl) ?_
   refine sg_ rfl (nn_ (sr_ (fd_ fo33_2 rfl rfl (lk_ sc30 0 rfl rfl rfl (mv_ rfl ?_)))))
   refine wl_ov (ov_build (cs := [.string (vkey cj), .string ⟨#[99]⟩]) rfl (by kernel_rfl)) rfl ?_
   refine wl_buildSlice (e := 46) (cs := [.string (vkey cj), .string ⟨#[99]⟩]) rfl (by kernel_rfl) rfl fun g8 => ?_
   refine wl_append (news := [.string (vkey cj), .string ⟨#[99]⟩]) 2 0 ap30 rfl rfl rfl rfl rfl rfl rfl (by omega) (by unfold maxLen; omega) rfl rfl fun v2 hv2 => ?_
   refine wl_look (R := ∃ A cc, v2 = .slice A (cj + 1) cc) (fun wx hm => own_slice (hm.ownI 2 rfl)) ?_
   rintro ⟨vA2, vc2, rfl⟩
   refine fd_ fo33_2 rfl rfl ?_
   refine wl_store 1 sc30 rfl rfl rfl rfl rfl rfl ?_
   refine nn_ (gw_region (mv_ rfl (mv_ rfl (mv_ rfl ?_))))
   refine wl_ov (ov_build (cs := [.int .i64 1, .string (vkey cj), .string (skey i), .int .i64 1, .string ⟨#[]⟩]) rfl (by kernel_rfl)) rfl ?_
   refine wl_buildSlice (e := 48) (cs := [.int .i64 1, .string (vkey cj), .string (skey i), .int .i64 1, .string ⟨#[]⟩]) rfl (by kernel_rfl) rfl fun g9 => ?_
   refine wl_append (news := [.int .i64 1, .string (vkey cj), .string (skey i), .int .i64 1, .string ⟨#[]⟩]) 1 0 ap34 rfl rfl rfl rfl rfl rfl rfl (by omega) (by unfold maxLen; omega) rfl rfl fun lg2 hlg2 => ?_
   refine sg_ rfl (wl_nil (nx_blk_nrm (nx_then (gw_region (ad_ rfl rfl (mv_ rfl (wl_nil ?_)))))))
   obtain ⟨hs2, he2⟩ := hsj.enter (s := i) hej (by omega) (by omega)
   rw [hljl] at hs2 he2
   exact nx_round (j + 1, cj + 1, vA2, vc2, lg2, lj ++ [i], ej ++ [(⟨1, vkey cj, skey i, 1, ⟨#[]⟩⟩ : Ev)], ((vhL cj).flatMap vhEnc ++ ([.string (vkey cj), .string ⟨#[99]⟩] : List Value)), (ej.flatMap evEnc ++ ([.int .i64 1, .string (vkey cj), .string (skey i), .int .i64 1, .string ⟨#[]⟩] : List Value))) ⟨⟨by dsimp only; omega, by dsimp only; omega, by dsimp only; omega, by simp [hljl]⟩, ⟨fun s => by rw [cntR_snoc, hcnt s]; split <;> omega, fun x hx => by
    rcases List.mem_append.1 hx with hx | hx
    ·exact hlj x hx
    rw [List.mem_singleton.1 hx]; omega, hs2, he2⟩, by rw [vhL_succ, List.flatMap_append]; rfl, by rw [List.flatMap_append]; rfl⟩ (by dsimp only; omega) ⟨rfl, rfl, rfl, rfl, rfl, rfl, rfl, rfl, rfl, rfl, (some_int (by omega)), trivial⟩ (fun _ hm => hm.pick [2, 3, 4] [0, 1, 2, 3] [] rfl rfl)
  have hj : ¬ (((j : Nat) : Int) < max 0 v6) := by simpa using hh
  clear hh
  refine gw_exit ?_
  refine nx_then_exit (nx_then_exit ?_)
  refine nx_blk_here ?_
  refine nx_blk_nrm (nx_then (gw_region (ad_ rfl rfl (mv_ rfl (wl_nil ?_)))))
  have hnp2 := hnp.next (lc2 := lj) (z := v6) (by omega) (fun s => by rw [hcnt s]; split <;> omega) hlt
  exact nx_round (i + 1, cj, (Value.slice fsA2 (i + 1) fsc2), vAj, vcj, lgj, nd2, lj, ej, nl ++ [⟨skey i, v6⟩], ((sl4.take i).flatMap stEnc ++ ([.string (skey i), .int .i64 0, .int .i64 0, .int .i64 0, .int .i64 0, .int .i64 0, .int .i64 0, .int .i64 0, .int .i64 0, .int .i64 0, .int .i64 0, .int .i64 0, .int .i64 0, .int .i64 0, .int .i64 0] : List Value)), ((vhL cj).flatMap vhEnc), (ej.flatMap evEnc), (nl.flatMap ndEnc ++ ([.string (skey i), .int .i64 v6] : List Value))) ⟨⟨by dsimp only; omega, by dsimp only; omega, hljl⟩, ⟨hnp2, hlj, hsj, hej⟩, (sl4_take (by omega)).symm, rfl, rfl, by rw [List.flatMap_append]; rfl⟩ (by dsimp only; omega) ⟨rfl, rfl, rfl, rfl, rfl, rfl, rfl, (some_int (by omega)), trivial⟩ (fun _ hm => (hm.more rfl (by first | omega | (dsimp only; omega))).pick [0, 1, 2] [0, 1, 2, 3] [] rfl rfl)
 have hi : ¬ (((i : Nat) : Int) < 4) := by simpa using hh
 clear hh
 refine gw_exit ?_
 refine nx_then_exit (nx_then_exit ?_)
 refine nx_blk_here ?_
 refine nx_then (sr_ ?_)
 obtain rfl : i = 4 := by omega
 have hall : sl4.take 4 = sl4 := rfl
 rw [hall]
 have hc8 := hsim.len
 rw [hlc] at hc8
 refine wl_look (R := ∃ A cc, fs = .slice A 4 cc) (fun wx hm => own_slice (hm.ownI 3 rfl)) ?_
 rintro ⟨sA, sc, rfl⟩
 refine wl_look (R := ∃ A cc, nd = .slice A 4 cc) (fun wx hm => own_slice (hm.ownI 0 rfl)) ?_
 rintro ⟨nA, nc, rfl⟩
 refine wl_look (R := ∃ A cc, lg = .slice A c cc) (fun wx hm => own_slice (hm.ownI 1 rfl)) ?_
 rintro ⟨eA, ec, rfl⟩
 refine mv_ rfl ?_
 refine wl_calls (γ := Option Addr × Nat × Nat × List Ro) (val := (fun g => .slice g.1 g.2.1 g.2.2.1)) (φ := (fun g => (∀ x ∈ g.2.2.2, RoB x) ∧ g.2.1 ≤ 25)) (Y := (fun g => fun wy => SlT roEnc 4 66 wy g.1 g.2.1 g.2.2.2)) (m' := 100 * 4 + 1000) rfl cb5 rfl rfl rfl rfl (fun wx hm => (groads_any wx B sb _ hm.k (by omega)).mono fun _ _ ⟨A, n, c, l, he, hs, hb, hn, hS, hg⟩ => ⟨(A, n, c, l), he, ⟨hb, hn⟩, hS, hg, hs⟩) (fun _ => SlT.lasts2 rfl) ?_
 rintro ⟨rA, rn, rc, rl⟩ hrl
 dsimp only at hrl ⊢
 refine sg_ rfl (nn_ (sr_ (mv_ rfl (mv_ rfl ?_))))
 refine wl_callx (γ := Option Addr × Nat × Nat × Int × List Mv) (val := (fun g => .tuple #[.slice g.1 g.2.1 g.2.2.1, .int .i64 g.2.2.2.1])) (φ := (fun g => (g.2.2.2.1 ≠ 0 → g.1 = none ∧ g.2.1 = 0 ∧ g.2.2.1 = 0) ∧ (g.2.2.2.1 = 0 → PlanOk nl 4 g.2.2.2.2) ∧ g.2.1 ≤ 100 ∧ g.2.2.2.2.length = g.2.1)) (Y := (fun g => fun wy => SlT (mvEnc nl) 3 57 wy g.1 g.2.1 g.2.2.2.2)) rfl cb6 rfl rfl (fun wx hm => (plan_any nl rl nA rA 4 nc rn rc wx (SlT.ofOwn nd_len (hm.ownI 0 rfl) hnp.1) (hm.fact 0 rfl) hnp.ndB hrl.1 (by decide) (by decide) (by omega)).mono fun _ _ ⟨A, kk, c, E, ou, he, h1, h2, hs, hk, hg⟩ => ⟨(A, kk, c, E, ou), he, ⟨h1, h2, hk, hs.len⟩, hg, hs⟩) (fun _ => SlT.lasts2 rfl) ?_
 rintro ⟨pA, kk, pc, E, ou⟩ hpl
 dsimp only at hpl ⊢
 obtain ⟨hp1, hp2, hkk, houl⟩ := hpl
 refine mv_ rfl (wl_ov (ov_extract rfl rfl) rfl (wl_ov (ov_extract rfl rfl) rfl (sg_ rfl (sg_ rfl (nn_ (gw_seq (sr_ (mv_ rfl (wl_ov (ov_neq rfl rfl) rfl (nn_ ?_))))))))))
 refine gw_cond rfl (fun hh => ?_) (fun hh => ?_)
 ·have hE : ¬ (E = 0) := by simpa using hh
  clear hh
  refine sr_ ?_
  obtain ⟨_, hk0, _⟩ := hp1 (by simpa using hE)
  refine mv_ rfl (wl_ov (ov_len es51 rfl) rfl (wl_ov (ov_eql rfl rfl) rfl ?_))
  refine wl_set 93 (v' := .bool true) rfl (congrArg Value.bool (decide_eq_true (by omega))) ?_
  refine mv_ rfl (wl_guard_on rfl rfl rfl ?_)
  refine wl_callv rfl cb7 rfl rfl (fun wx hm => (h10lot_any wx)) ?_
  refine pt_ rfl rfl (sg_ rfl (nn_ ?_))
  refine gw_ret ?_
  refine nx_then_ret ?_
  refine nx_ret1 rfl rfl fun wx hm => ?_
  exact ⟨rfl, law_end hg1 hsb hm.g⟩
 have hE : E = 0 := by simpa using hh
 clear hh
 refine gw_skip (nx_then (sr_ ?_))
 have hpok := hp2 (by simpa using hE)
 clear hp1 hp2
 refine sg_ rfl (nn_ (gw_seq (sr_ (mv_ rfl (wl_ov (ov_len es51 rfl) rfl (mv_ rfl (nn_ (gw_block ?_))))))))
 have hps0 : PSt nl ou 0 lc := PSt.zero hnp
 refine gw_loop (γ := Nat × Nat × Option Addr × Nat × Nat × Int × List Nat × List Ev × List Value) (fun gg => (gg.1 ≤ kk ∧ gg.2.1 ≤ 2 * gg.1 ∧ gg.2.2.2.2.1 = c + 2 * gg.2.1 ∧ gg.2.2.2.2.2.1 = 2 + 2 * ((gg.2.1 : Nat) : Int)) ∧ (gg.2.2.2.2.2.2.1.length = c ∧ Sim gg.2.2.2.2.2.2.1 gg.2.2.2.2.2.2.2.1 gg.2.2.2.2.2.1 gg.2.2.2.2.1 ∧ PSt nl ou gg.1 gg.2.2.2.2.2.2.1) ∧ gg.2.2.2.2.2.2.2.2 = gg.2.2.2.2.2.2.2.1.flatMap evEnc) (fun gg => [(4, .pointer (some ⟨g2, 0, none⟩)), (5, .slice gg.2.2.1 gg.2.2.2.2.1 gg.2.2.2.1), (6, .slice nA 4 nc), (14, .int .i64 gg.2.2.2.2.2.1), (97, .slice pA kk pc), (98, .int .i64 ((kk : Nat) : Int)), (99, .int .i64 ((gg.1 : Nat) : Int))]) (fun gg => fun w => Strm 25 w B sb (100 * 4 + 1000)) (fun gg => [(g2, 33, [.slice sA 4 sc, .slice (some ⟨g1, 0, none⟩) 1 1, .slice fvA c fvc, .slice none 0 0]), (g1, 27, [.string ⟨#[99]⟩, .string ⟨#[]⟩]), (g3, 9, [.string ⟨#[97]⟩, .string ⟨#[98]⟩, .string ⟨#[99]⟩, .string ⟨#[100]⟩])]) (fun gg => [⟨.slice nA 4 nc, 44, 2, 4, nl.flatMap ndEnc⟩, ⟨.slice gg.2.2.1 gg.2.2.2.2.1 gg.2.2.2.1, 48, 5, gg.2.2.2.2.1, gg.2.2.2.2.2.2.2.2⟩, ⟨.slice fvA c fvc, 46, 2, c, (vhL c).flatMap vhEnc⟩, ⟨.slice sA 4 sc, 41, 15, 4, sl4.flatMap stEnc⟩]) (fun gg => [fun wy => SlT (mvEnc nl) 3 57 wy pA kk ou]) (fun gg => kk - gg.1) (0, 0, eA, ec, c, 2, lc, el, (el.flatMap evEnc)) ⟨⟨Nat.zero_le _, Nat.zero_le _, rfl, rfl⟩, ⟨hlc, hsim, hps0⟩, rfl⟩ ⟨rfl, rfl, rfl, rfl, rfl, rfl, rfl, trivial⟩ (fun _ hm => hm.pick [0, 1, 2] [0, 1, 2, 3] [0] rfl rfl) ?_
 rintro ⟨p, u, eA, ec, ne, az, lp, ep, lgx⟩ hinv
 replace hinv : (p ≤ kk ∧ u ≤ 2 * p ∧ ne = c + 2 * u ∧ az = 2 + 2 * ((u : Nat) : Int)) ∧ (lp.length = c ∧ Sim lp ep az ne ∧ PSt nl ou p lp) ∧ lgx = ep.flatMap evEnc := hinv
 dsimp only
 refine sr_ ?_
 obtain ⟨⟨hp0, hup, hne, haz⟩, ⟨hlpl, hsp, hps⟩, rfl⟩ := hinv
 refine wl_ov (ov_lss rfl rfl) rfl (nn_ (gw_seq ?_))
 refine gw_cond rfl (fun hh => ?_) (fun hh => ?_)
 ·have hp : ((p : Nat) : Int) < ((kk : Nat) : Int) := by simpa using hh
  clear hh
  refine gw_skip (nx_then (gw_seq (gw_block (sr_ ?_))))
  obtain ⟨⟨mf, mt, mn⟩, hx⟩ : ∃ x, ou[p]? = some x := ⟨_, List.getElem?_eq_getElem (by omega)⟩
  obtain ⟨⟨hmf, hmt⟩, hmne, ⟨hmn1, hmn2⟩, hmnc⟩ := move_ok hpok hnp hps hx
  obtain ⟨mq, rfl⟩ := Int.eq_ofNat_of_zero_le (show 0 ≤ mn by omega)
  refine wl_look (R := ∃ b o, pA = some ⟨b, o, none⟩) (fun wx hm => by obtain ⟨b, off, hA, _, _⟩ := SlT.get (hm.fact 0 rfl) (by omega); exact ⟨b, off, hA⟩) ?_
  rintro ⟨pb, po, rfl⟩
  refine wl_ov (ov_index (j := p) es51 rfl rfl (by omega)) rfl ?_
  refine wl_ov (ov_elem (vs := [.string (staAt nl mf), .string (staAt nl mt), .int .i64 ((mq : Nat) : Int)]) rz57 rfl (fun _ hm => (hm.fact 0 rfl)) hx rfl rfl) rfl ?_
  refine wl_set 102 (v' := .agg #[.string (skey mf), .string (skey mt), .int .i64 ((mq : Nat) : Int)]) rfl (mv_agg (hnp.sta hmf) (hnp.sta hmt)) ?_
  refine wl_allocs (vs := [.string (skey mf), .string (skey mt), .int .i64 ((mq : Nat) : Int)]) (cs' := [.string (skey mf), .string (skey mt), .int .i64 ((mq : Nat) : Int)]) zc57 rfl rz57 (fun _ => rfl) (fun _ => rfl) rfl rfl rfl rfl fun g10 => ?_
  refine nn_ (sr_ ?_)
  refine wl_ov (ov_loads rz33 rfl (fun _ hm => hm.blkI 1 rfl) rfl rfl) rfl ?_
  refine mv_ rfl (fd_ fo57_0 rfl rfl (lk_ sc9 0 rfl rfl rfl (mv_ rfl ?_)))
  obtain ⟨hrd1, hrd2⟩ := hsp.ready (s := mf) (by omega) (by omega) hmf
  rw [hlpl] at hrd1 hrd2
  refine wl_callx (γ := Option Addr × Nat × Nat) (val := (fun g => .tuple #[.slice g.1 g.2.1 g.2.2, .int .i64 0])) (φ := (fun g => (rdyL lp mf).length = g.2.1 ∧ g.2.1 ≤ g.2.2)) (Y := (fun g => fun wy => SlT sgEnc 1 9 wy g.1 g.2.1 (rdyL lp mf))) rfl cb8 rfl rfl (fun wx hm => (lotReady_anyC sl4 cl1 (vhL c) [] sA (some ⟨g1, 0, none⟩) fvA none 4 sc 1 1 c fvc 0 0 ep eA ne ec (skey mf) ⟨#[99]⟩ az wx (SlT.ofOwnL stEnc_lenL sok4 (hm.ownI 3 rfl) rfl) (SlT.ofBlk (l := cl1) cs_len (hm.blkI 2 rfl)) (SlT.ofOwn vh_len (hm.ownI 2 rfl) (vhL_len c)) (SlT.nil_ _ _) sok4 cok1 (vokL (by omega)) (fun _ h => by cases h) (by decide) (by decide) (by omega) (by decide) (SlT.ofOwn ev_len (hm.ownI 1 rfl) hsp.size) hsp.evs (by omega) (by omega)).mono fun _ _ ⟨A, k, c, he, h1, _, hkc, hg⟩ => ⟨(A, k, c), by rw [hrd1] at he; exact he, ⟨by have h9 := (h1 hrd1).1.len; rw [hrd2] at h9; exact h9, hkc⟩, hg, by have h9 := (h1 hrd1).1; rw [hrd2] at h9; exact h9⟩) (fun _ => SlT.lasts2 rfl) ?_
  rintro ⟨qA, qn, qc⟩ hql
  dsimp only at hql ⊢
  obtain ⟨hql, hqcap⟩ := hql
  have hqc := rdyL_len lp mf
  rw [hql] at hqc
  refine wl_look (R := ∃ b o, qA = some ⟨b, o, none⟩) (fun wx hm => by obtain ⟨b, off, hA, _, _⟩ := SlT.get (hm.fact 0 rfl) (by omega); exact ⟨b, off, hA⟩) ?_
  rintro ⟨qb, qo, rfl⟩
  refine mv_ rfl (wl_ov (ov_extract rfl rfl) rfl (wl_ov (ov_extract rfl rfl) rfl (sg_ rfl (sg_ rfl (nn_ (gw_seq (sr_ (mv_ rfl (wl_ov (ov_neq rfl rfl) rfl ?_)))))))))
  refine wl_set 113 (v' := .bool false) rfl (congrArg Value.bool (by decide)) ?_
  refine mv_ rfl (wl_guard_on rfl rfl rfl (mv_ rfl (wl_guard_on rfl rfl rfl (wl_ov (ov_len es36 rfl) rfl (wl_guard_on rfl rfl rfl (fd_ fo57_2 rfl rfl (wl_guard_on rfl rfl rfl (lk_ sc3 0 rfl rfl rfl (wl_guard_on rfl rfl rfl (wl_ov (ov_lss rfl rfl) rfl ?_))))))))))
  refine wl_set 119 (v' := .bool false) rfl (congrArg Value.bool (decide_eq_false (by omega))) ?_
  refine pf_ rfl rfl (nn_ (cf_ rfl (gw_skip (nx_then (sr_ (mv_ rfl (fd_ fo57_2 rfl rfl (lk_ sc3 0 rfl rfl rfl ?_))))))))
  refine wl_ov (ov_sliceHi (hi := mq) es36 rfl rfl rfl (by omega)) rfl ?_
  refine wl_ov (ov_len es36 rfl) rfl (mv_ rfl (nn_ (gw_block ?_)))
  refine gw_loop (γ := Nat × Option Addr × Nat × Nat × Int × List Nat × List Ev × List Value) (fun gg => (gg.1 ≤ mq ∧ gg.2.2.2.1 = c + 2 * (u + gg.1) ∧ gg.2.2.2.2.1 = 2 + 2 * (((u + gg.1 : Nat)) : Int)) ∧ (MvI lp gg.2.2.2.2.2.1 (idxF mf 0 lp) mf mt gg.1 ∧ Sim gg.2.2.2.2.2.1 gg.2.2.2.2.2.2.1 gg.2.2.2.2.1 gg.2.2.2.1) ∧ gg.2.2.2.2.2.2.2 = gg.2.2.2.2.2.2.1.flatMap evEnc) (fun gg => [(4, .pointer (some ⟨g2, 0, none⟩)), (5, .slice gg.2.1 gg.2.2.2.1 gg.2.2.1), (6, .slice nA 4 nc), (14, .int .i64 gg.2.2.2.2.1), (16, .pointer (some ⟨g10, 0, none⟩)), (97, .slice (some ⟨pb, po, none⟩) kk pc), (98, .int .i64 ((kk : Nat) : Int)), (99, .int .i64 ((p : Nat) : Int)), (124, .slice (some ⟨qb, qo, none⟩) mq qc), (125, .int .i64 ((mq : Nat) : Int)), (126, .int .i64 ((gg.1 : Nat) : Int))]) (fun gg => fun w => Strm 25 w B sb (100 * 4 + 1000)) (fun gg => [(g10, 57, [.string (skey mf), .string (skey mt), .int .i64 ((mq : Nat) : Int)]), (g2, 33, [.slice sA 4 sc, .slice (some ⟨g1, 0, none⟩) 1 1, .slice fvA c fvc, .slice none 0 0]), (g1, 27, [.string ⟨#[99]⟩, .string ⟨#[]⟩]), (g3, 9, [.string ⟨#[97]⟩, .string ⟨#[98]⟩, .string ⟨#[99]⟩, .string ⟨#[100]⟩])]) (fun gg => [⟨.slice nA 4 nc, 44, 2, 4, nl.flatMap ndEnc⟩, ⟨.slice gg.2.1 gg.2.2.2.1 gg.2.2.1, 48, 5, gg.2.2.2.1, gg.2.2.2.2.2.2.2⟩, ⟨.slice fvA c fvc, 46, 2, c, (vhL c).flatMap vhEnc⟩, ⟨.slice sA 4 sc, 41, 15, 4, sl4.flatMap stEnc⟩]) (fun gg => [fun wy => SlT (mvEnc nl) 3 57 wy (some ⟨pb, po, none⟩) kk ou, fun wy => SlT sgEnc 1 9 wy (some ⟨qb, qo, none⟩) qn (rdyL lp mf)]) (fun gg => mq - gg.1) (0, eA, ec, ne, az, lp, ep, (ep.flatMap evEnc)) ⟨⟨Nat.zero_le _, hne, haz⟩, ⟨MvI.zero, hsp⟩, rfl⟩ ⟨rfl, rfl, rfl, rfl, rfl, rfl, rfl, rfl, rfl, rfl, rfl, trivial⟩ (fun _ hm => hm.pick [0, 1, 2, 3] [0, 1, 2, 3] [1, 0] rfl rfl) ?_
  rintro ⟨j, fA, fc, nf, af, lf, ef, lfx⟩ hinv
  replace hinv : (j ≤ mq ∧ nf = c + 2 * (u + j) ∧ af = 2 + 2 * (((u + j : Nat)) : Int)) ∧ (MvI lp lf (idxF mf 0 lp) mf mt j ∧ Sim lf ef af nf) ∧ lfx = ef.flatMap evEnc := hinv
  dsimp only
  refine sr_ ?_
  obtain ⟨⟨hj0, hnf, haf⟩, ⟨hmv, hsf⟩, rfl⟩ := hinv
  refine wl_ov (ov_lss rfl rfl) rfl (nn_ (gw_seq ?_))
  refine gw_cond rfl (fun hh => ?_) (fun hh => ?_)
  ·have hj : ((j : Nat) : Int) < ((mq : Nat) : Int) := by simpa using hh
   clear hh
   refine gw_skip (nx_then (gw_seq (gw_block (sr_ ?_))))
   obtain ⟨k, hk⟩ : ∃ k, (idxF mf 0 lp)[j]? = some k := ⟨_, List.getElem?_eq_getElem (by unfold rdyL at hql; rw [List.length_map] at hql; omega)⟩
   have hr : (rdyL lp mf)[j]? = some (vkey k) := by unfold rdyL; rw [List.getElem?_map, hk]; rfl
   have hka := hmv.at_ j k (Nat.le_refl _) hk
   have hkl := (List.getElem?_eq_some_iff.1 hka).1
   have hmvl := hmv.len
   have hkz := vkey_size (k := k) (by omega)
   have hs2 := hsf.move hka hmt hmne (by omega)
   have hmv2 := hmv.step idxF_nodup hk
   refine wl_ov (ov_index (j := j) es36 rfl rfl (by omega)) rfl ?_
   refine wl_ov (ov_elem1 (k := 0) (v := .string (vkey k)) sc9 rfl (fun _ hm => (hm.fact 1 rfl)) hr rfl rfl) rfl ?_
   refine sg_ rfl (nn_ (sr_ (mv_ rfl (mv_ rfl (mv_ rfl (fd_ fo57_0 rfl rfl (lk_ sc9 0 rfl rfl rfl (fd_ fo57_1 rfl rfl (lk_ sc9 0 rfl rfl rfl ?_)))))))))
   refine wl_ov (ov_build (cs := [.int .i64 af, .string (vkey k), .string (skey mf), .int .i64 6, .string (skey mt)]) rfl (by kernel_rfl)) rfl ?_
   refine mv_ rfl (ad_ rfl rfl (mv_ rfl (fd_ fo57_1 rfl rfl (lk_ sc9 0 rfl rfl rfl ?_))))
   refine wl_ov (ov_build (cs := [.int .i64 (af + 1), .string (vkey k), .string (skey mt), .int .i64 7, .string ⟨#[]⟩]) rfl (by kernel_rfl)) rfl ?_
   refine wl_buildSlice (e := 48) (cs := [.int .i64 af, .string (vkey k), .string (skey mf), .int .i64 6, .string (skey mt), .int .i64 (af + 1), .string (vkey k), .string (skey mt), .int .i64 7, .string ⟨#[]⟩]) rfl (by kernel_rfl) rfl fun g11 => ?_
   refine wl_append (news := [.int .i64 af, .string (vkey k), .string (skey mf), .int .i64 6, .string (skey mt), .int .i64 (af + 1), .string (vkey k), .string (skey mt), .int .i64 7, .string ⟨#[]⟩]) 1 0 ap34 rfl rfl rfl rfl rfl rfl rfl (by omega) (by unfold maxLen; omega) rfl rfl fun lg3 hlg3 => ?_
   refine wl_look (R := ∃ A cc, lg3 = .slice A (nf + 2) cc) (fun wx hm => own_slice (hm.ownI 1 rfl)) ?_
   rintro ⟨fA2, fc2, rfl⟩
   refine sg_ rfl (nn_ (gw_region (mv_ rfl (ad_ rfl rfl (sg_ rfl (wl_nil (nx_blk_nrm (nx_then (gw_region (ad_ rfl rfl (mv_ rfl (wl_nil ?_))))))))))))
   exact nx_round (j + 1, fA2, fc2, nf + 2, (af + 2), lf.set k mt, ef ++ [⟨af, vkey k, skey mf, 6, skey mt⟩, ⟨af + 1, vkey k, skey mt, 7, ⟨#[]⟩⟩], (ef.flatMap evEnc ++ ([.int .i64 af, .string (vkey k), .string (skey mf), .int .i64 6, .string (skey mt), .int .i64 (af + 1), .string (vkey k), .string (skey mt), .int .i64 7, .string ⟨#[]⟩] : List Value))) ⟨⟨by dsimp only; omega, by dsimp only; omega, by dsimp only; omega⟩, ⟨hmv2, hs2⟩, by rw [List.flatMap_append]; rfl⟩ (by dsimp only; omega) ⟨rfl, rfl, rfl, rfl, rfl, rfl, rfl, rfl, rfl, rfl, (some_int (by omega)), trivial⟩ (fun _ hm => hm.pick [1, 2, 3, 4] [0, 1, 2, 3] [0, 1] rfl rfl)
  have hj : ¬ (((j : Nat) : Int) < ((mq : Nat) : Int)) := by simpa using hh
  clear hh
  refine gw_exit ?_
  refine nx_then_exit (nx_then_exit ?_)
  refine nx_blk_here ?_
  refine nx_blk_nrm (nx_then (gw_region (ad_ rfl rfl (mv_ rfl (wl_nil ?_)))))
  obtain rfl : mq = j := by omega
  have hps2 := hps.next hx hmv.cnt
  have hmvl := hmv.len
  exact nx_round (p + 1, u + mq, fA, fc, nf, af, lf, ef, (ef.flatMap evEnc)) ⟨⟨by dsimp only; omega, by dsimp only; omega, hnf, haf⟩, ⟨hmvl.trans hlpl, hsf, hps2⟩, rfl⟩ (by dsimp only; omega) ⟨rfl, rfl, rfl, rfl, rfl, rfl, (some_int (by omega)), trivial⟩ (fun _ hm => hm.pick [1, 2, 3] [0, 1, 2, 3] [0] rfl rfl)
 have hp : ¬ (((p : Nat) : Int) < ((kk : Nat) : Int)) := by simpa using hh
 clear hh
 refine gw_exit ?_
 refine nx_then_exit (nx_then_exit ?_)
 refine nx_blk_here ?_
 refine nx_then (sr_ ?_)
 have hev := hsp.evs0 (by omega)
 rw [hlpl] at hev
 have hwh := hsp.whole
 refine wl_ov (ov_loads rz33 rfl (fun _ hm => hm.blkI 0 rfl) rfl rfl) rfl ?_
 refine mv_ rfl ?_
 refine wl_callx (γ := Option Addr × Nat × Nat) (val := (fun g => .tuple #[.slice g.1 g.2.1 g.2.2, .int .i64 0])) (φ := (fun g => g.2.1 = 0)) (Y := (fun g => fun _ => True)) rfl cb9 rfl rfl (fun wx hm => (broken_right sl4 cl1 (vhL c) [] sA (some ⟨g1, 0, none⟩) fvA none 4 sc 1 1 c fvc 0 0 ep eA ne ec wx (SlT.ofOwnL stEnc_lenL sok4 (hm.ownI 3 rfl) rfl) (SlT.ofBlk (l := cl1) cs_len (hm.blkI 1 rfl)) (SlT.ofOwn vh_len (hm.ownI 2 rfl) (vhL_len c)) (SlT.nil_ _ _) sok4 cok1 (vokL (by omega)) (fun _ h => by cases h) (by decide) (by decide) (by omega) (by decide) (SlT.ofOwn ev_len (hm.ownI 1 rfl) hsp.size) hsp.evs (by omega) hev).mono fun _ _ ⟨A, k, c, he, h1, _, hg⟩ => ⟨(A, k, c), he, by have h9 := h1.len; rw [hwh] at h9; exact h9.symm, hg, trivial⟩) (fun _ => Lasts2.true_) ?_
 rintro ⟨bA, bn, bc⟩ hbn
 dsimp only at hbn ⊢
 refine mv_ rfl (wl_ov (ov_extract rfl rfl) rfl (wl_ov (ov_extract rfl rfl) rfl (sg_ rfl (sg_ rfl (nn_ (gw_seq (sr_ (mv_ rfl (wl_ov (ov_len es35 rfl) rfl ?_)))))))))
 refine wl_set 157 (v' := .int .i64 4) rfl rfl ?_
 refine mv_ rfl (nn_ (gw_block ?_))
 refine gw_loop (γ := Nat) (fun (i : Nat) => i ≤ 4) (fun (i : Nat) => [(4, .pointer (some ⟨g2, 0, none⟩)), (5, .slice eA ne ec), (14, .int .i64 az), (21, .slice bA bn bc), (22, .int .i64 0), (156, .slice nA 4 nc), (157, .int .i64 4), (158, .int .i64 ((i : Nat) : Int))]) (fun (i : Nat) => fun w => Strm 25 w B sb (100 * 4 + 1000)) (fun (i : Nat) => [(g2, 33, [.slice sA 4 sc, .slice (some ⟨g1, 0, none⟩) 1 1, .slice fvA c fvc, .slice none 0 0]), (g1, 27, [.string ⟨#[99]⟩, .string ⟨#[]⟩]), (g3, 9, [.string ⟨#[97]⟩, .string ⟨#[98]⟩, .string ⟨#[99]⟩, .string ⟨#[100]⟩])]) (fun (i : Nat) => [⟨.slice nA 4 nc, 44, 2, 4, nl.flatMap ndEnc⟩, ⟨.slice eA ne ec, 48, 5, ne, ep.flatMap evEnc⟩, ⟨.slice fvA c fvc, 46, 2, c, (vhL c).flatMap vhEnc⟩, ⟨.slice sA 4 sc, 41, 15, 4, sl4.flatMap stEnc⟩]) (fun (i : Nat) => []) (fun (i : Nat) => 4 - i) 0 (Nat.zero_le _) ⟨rfl, rfl, rfl, rfl, rfl, rfl, rfl, rfl, trivial⟩ (fun _ hm => hm.pick [0, 1, 2] [0, 1, 2, 3] [] rfl rfl) ?_
 intro i hinv
 replace hinv : i ≤ 4 := hinv
 refine sr_ (wl_ov (ov_lss rfl rfl) rfl (nn_ (gw_seq ?_)))
 refine gw_cond rfl (fun hh => ?_) (fun hh => ?_)
 ·have hi : ((i : Nat) : Int) < 4 := by simpa using hh
  clear hh
  refine gw_skip (nx_then (gw_seq (gw_block (sr_ ?_))))
  refine wl_look (R := ∃ g, nA = some ⟨g, 0, none⟩) (fun wx hm => own_addr (hm.ownI 0 rfl) (by omega)) ?_
  rintro ⟨nb, rfl⟩
  obtain ⟨z, hz1, hz2, hz3, _⟩ := hnp.2 i (by omega)
  have ez : atL (nl.map Nd.many) i = z := by unfold atL; rw [List.getElem?_map, hz1]; rfl
  refine wl_ov (ov_index (j := i) es35 rfl rfl (by omega)) rfl ?_
  refine wl_ov (ov_elem (vs := [.string (skey i), .int .i64 z]) rz44 rfl (fun _ hm => (SlT.ofOwn nd_len (hm.ownI 0 rfl) hnp.1)) hz1 rfl rfl) rfl ?_
  refine wl_allocs (vs := [.string (skey i), .int .i64 z]) (cs' := [.string (skey i), .int .i64 z]) zc44 rfl rz44 (fun _ => rfl) (fun _ => rfl) rfl rfl rfl rfl fun g13 => ?_
  refine nn_ (sr_ ?_)
  refine wl_ov (ov_loads rz33 rfl (fun _ hm => hm.blkI 1 rfl) rfl rfl) rfl ?_
  refine mv_ rfl (fd_ fo44_0 rfl rfl (lk_ sc9 0 rfl rfl rfl (mv_ rfl ?_)))
  obtain ⟨hrd1, hrd2⟩ := hsp.ready (s := i) (by omega) (by omega) (by omega)
  rw [hlpl] at hrd1 hrd2
  refine wl_callx (γ := Option Addr × Nat × Nat) (val := (fun g => .tuple #[.slice g.1 g.2.1 g.2.2, .int .i64 0])) (φ := (fun g => (rdyL lp i).length = g.2.1 ∧ g.2.1 ≤ g.2.2)) (Y := (fun g => fun wy => SlT sgEnc 1 9 wy g.1 g.2.1 (rdyL lp i))) rfl cb8 rfl rfl (fun wx hm => (lotReady_anyC sl4 cl1 (vhL c) [] sA (some ⟨g1, 0, none⟩) fvA none 4 sc 1 1 c fvc 0 0 ep eA ne ec (skey i) ⟨#[99]⟩ az wx (SlT.ofOwnL stEnc_lenL sok4 (hm.ownI 3 rfl) rfl) (SlT.ofBlk (l := cl1) cs_len (hm.blkI 2 rfl)) (SlT.ofOwn vh_len (hm.ownI 2 rfl) (vhL_len c)) (SlT.nil_ _ _) sok4 cok1 (vokL (by omega)) (fun _ h => by cases h) (by decide) (by decide) (by omega) (by decide) (SlT.ofOwn ev_len (hm.ownI 1 rfl) hsp.size) hsp.evs (by omega) (by omega)).mono fun _ _ ⟨A, k, c, he, h1, _, hkc, hg⟩ => ⟨(A, k, c), by rw [hrd1] at he; exact he, ⟨by have h9 := (h1 hrd1).1.len; rw [hrd2] at h9; exact h9, hkc⟩, hg, by have h9 := (h1 hrd1).1; rw [hrd2] at h9; exact h9⟩) (fun _ => SlT.lasts2 rfl) ?_
  rintro ⟨qA, qn, qc⟩ hql
  dsimp only at hql ⊢
  obtain ⟨hql, _⟩ := hql
  have hqc := rdyL_len lp i
  rw [hql] at hqc
  have hdn := fun h => hps.done hpok (by omega) (s := i) (by omega) h
  rw [ez] at hdn
  refine mv_ rfl (wl_ov (ov_extract rfl rfl) rfl (wl_ov (ov_extract rfl rfl) rfl (sg_ rfl (sg_ rfl (nn_ (sr_ (mv_ rfl (wl_ov (ov_neq rfl rfl) rfl ?_))))))))
  refine wl_set 172 (v' := .bool false) rfl (congrArg Value.bool (by decide)) ?_
  refine mv_ rfl (wl_guard_on rfl rfl rfl (fd_ fo44_1 rfl rfl (wl_guard_on rfl rfl rfl (lk_ sc3 0 rfl rfl rfl (wl_guard_on rfl rfl rfl (wl_ov (ov_lss rfl rfl) rfl (wl_guard_on rfl rfl rfl (mv_ rfl ?_))))))))
  rcases Bool.eq_false_or_eq_true (decide (z < 0)) with hg14 | hg14
  ·refine wl_set 177 rfl (congrArg Value.bool hg14) ?_
   replace hg14 := of_decide_eq_true hg14
   have hdz := hdn (by omega)
   refine wl_guard_on rfl rfl rfl (mv_ rfl (wl_guard_on rfl rfl rfl (wl_ov (ov_len es36 rfl) rfl (wl_guard_on rfl rfl rfl (fd_ fo44_1 rfl rfl (wl_guard_on rfl rfl rfl (lk_ sc3 0 rfl rfl rfl (wl_guard_on rfl rfl rfl ?_))))))))
   refine wl_ov (ov_neg rfl (by omega) (by omega)) rfl ?_
   refine wl_guard_on rfl rfl rfl (wl_ov (ov_neq rfl rfl) rfl ?_)
   refine wl_set 183 (v' := .bool false) rfl (congrArg Value.bool (by rw [decide_eq_true (by omega)]; rfl)) ?_
   refine wl_guard_on rfl rfl rfl (pt_ rfl rfl (pf_ rfl rfl (nn_ (cf_ rfl (gw_skip (nx_blk_nrm (nx_then (gw_region (ad_ rfl rfl (mv_ rfl (wl_nil ?_)))))))))))
   exact nx_round (i + 1) (by omega) (by omega) ⟨rfl, rfl, rfl, rfl, rfl, rfl, rfl, (some_int (by omega)), trivial⟩ (fun _ hm => hm.pick [1, 2, 3] [0, 1, 2, 3] [] rfl rfl)
  refine wl_set 177 rfl (congrArg Value.bool hg14) ?_
  replace hg14 := of_decide_eq_false hg14
  refine goff rfl rfl rfl (goff rfl rfl rfl (goff rfl rfl rfl (goff rfl rfl rfl (goff rfl rfl rfl (goff rfl rfl rfl (wl_guard_on rfl rfl rfl (pf_ rfl rfl (pf_ rfl rfl (nn_ (cf_ rfl (gw_skip (nx_blk_nrm ?_))))))))))))
  refine nx_then (gw_region (ad_ rfl rfl (mv_ rfl (wl_nil ?_))))
  exact nx_round (i + 1) (by omega) (by omega) ⟨rfl, rfl, rfl, rfl, rfl, rfl, rfl, (some_int (by omega)), trivial⟩ (fun _ hm => hm.pick [1, 2, 3] [0, 1, 2, 3] [] rfl rfl)
 have hi : ¬ (((i : Nat) : Int) < 4) := by simpa using hh
 clear hh
 refine gw_exit ?_
 refine nx_then_exit (nx_then_exit ?_)
 refine nx_blk_here ?_
 refine nx_then (sr_ (mv_ rfl (wl_ov (ov_eql rfl rfl) rfl ?_)))
 refine wl_set 188 (v' := .bool true) rfl (congrArg Value.bool (by decide)) ?_
 refine mv_ rfl (wl_guard_on rfl rfl rfl (mv_ rfl (wl_guard_on rfl rfl rfl (wl_ov (ov_len es22 rfl) rfl (wl_guard_on rfl rfl rfl (wl_ov (ov_eql rfl rfl) rfl ?_))))))
 refine wl_set 192 (v' := .bool true) rfl (congrArg Value.bool (decide_eq_true (by omega))) ?_
 refine pt_ rfl rfl (mv_ rfl (wl_guard_on rfl rfl rfl ?_))
 refine wl_callv rfl cb7 rfl rfl (fun wx hm => (h10lot_any wx)) ?_
 refine pt_ rfl rfl (sg_ rfl (nn_ ?_))
 refine gw_ret ?_
 refine nx_ret1 rfl rfl fun wx hm => ?_
 exact ⟨rfl, law_end hg1 hsb hm.g⟩
end Go.Proofs.Ytodcildcipfmcaa
