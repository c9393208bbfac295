/- Several texts as one: Cl Bt Stc Hd Rt Ta Fw Fx Fz Gf Gb Gst Lop LopA LopB Win LopC Sq Fq Sn Ix Sr Gg Rs Rn Wn Eg Ef Ba Cv Gm Gw Gx Gy Srt Clr Cq Gz Wo Ci Rw Rx Gs Eh Gp Ej Rt2 Ek Yp Lo El -/
import Derived.Test.YtodcildcipfmcaaN1a
import Derived.Laws.BitsLemmas
import Derived.Laws.Shifts
import Derived.Shelf.Small.Bits
import Derived.Shelf.Small.Strs
import Derived.Deep.RegionHeld3
import Derived.Deep.LoopGhost
import Derived.StillTailTactics
import Derived.Laws.Concat
import Derived.RangeFuncNested
import Derived.RangeFuncBound
import Derived.RangeFuncCalls
import Derived.RangeFuncLeaves
import Derived.Shelf.Abstract
import Derived.Shelf.RegionOpen
import Derived.WalkKit
import Derived.OwnWalkIn
import Derived.TacticsInMore
import Derived.LoopNIn
import Derived.LoopIn
import Derived.OneCell
import Derived.Shelf.Sort.Plain
set_option maxRecDepth 100000
set_option maxHeartbeats 4000000
namespace Go.Proofs.Ytodcildcipfmcaa
open Go.RowKit
theorem cls_scan {l : List Cs} {v : Int} (h30 : ¬ 30 < l.length) (h : scanE csE none l = v) (hv : v ≠ 0) : classesE l = v := by
  unfold classesE
  rw [if_neg h30, if_pos (by rw [h]; exact hv), h]
theorem cls_up {l : List Cs} (h30 : ¬ 30 < l.length) (h : scanE csE none l = 0) (hu : l.any (upB l) = true) : classesE l = 8 := by
  unfold classesE
  rw [if_neg h30, if_neg (by rw [h]; decide), if_pos hu]
theorem cls_loop {l : List Cs} (h30 : ¬ 30 < l.length) (h : scanE csE none l = 0) (hu : l.any (upB l) = false) : classesE l = if loopB l l.length = true then 14 else 0 := by
  unfold classesE
  rw [if_neg h30, if_neg (by rw [h]; decide), if_neg (by rw [hu]; decide)]
theorem any_at {α : Type} {p : α → Bool} {l : List α} {k : Nat} {x : α} (h : l[k]? = some x) : (l.drop k).any p = (p x || (l.drop (k + 1)).any p) := by
  obtain ⟨hk, rfl⟩ := List.getElem?_eq_some_iff.1 h
  rw [List.drop_eq_getElem_cons hk, List.any_cons]
theorem any_end {α : Type} {p : α → Bool} {l : List α} {k : Nat} (h : l.length ≤ k) : (l.drop k).any p = false := by rw [List.drop_eq_nil_of_le h]; rfl
theorem path_more {l : List Cs} {n i : Nat} {k : ByteArray} (h : emptyS (upOf l k) = false) (hi : i < n) : pathN l (n - i) k = upOf l k :: pathN l (n - (i + 1)) (upOf l k) := by
  rw [show n - i = (n - (i + 1)) + 1 by omega]
  show (if emptyS (upOf l k) = true then [] else _) = _
  rw [if_neg (by rw [h]; decide)]
theorem path_stop {l : List Cs} {n : Nat} {k : ByteArray} (h : emptyS (upOf l k) = true) : pathN l n k = [] := by
  cases n with
  | zero => rfl
  | succ n =>
    show (if emptyS (upOf l k) = true then [] else _) = _
    rw [if_pos h]
def stepsV (l : List Cs) (a b : ByteArray) : Int := if a.toList = b.toList then 0 else if ixP (fun y => b.toList == y.toList) (pathN l l.length a) 0 < 0 then -1 else ixP (fun y => b.toList == y.toList) (pathN l l.length a) 0 + 1
theorem pred_classAt_1_lot (ke : ByteArray) (up : ByteArray) (gk : Nat) (k : ByteArray) (w : World) (hk : Blk w gk 9 [.string k]) :
  Calls Try.prog 47 #[.agg #[.string ke, .string up], .pointer (some ⟨gk, 0, none⟩)] w (fun e w' => e = .returned (.bool (csP k ⟨ke, up⟩)) ∧ w.grownBy w' none) := by
 refine gw_enter ⟨8, w, none, []⟩ Try.func47 rfl Try.ntmps47 rfl (mem0 (X := [BlkOld w.heap.size none gk 9 [.string k]]) (allF_cons hk.old allF_nil) (allL_cons BlkOld.lasts allL_nil)) ?_
 refine sr_ ?_
 refine wl_box rfl rfl rfl fun g1 => ?_
 refine sg_ rfl (nn_ (sr_ (fd_ fo27_0 rfl rfl (lk_ sc9 0 rfl rfl rfl ?_))))
 refine wl_ov (ov_load (v := .string k) sc9 rfl (fun _ hm => (hm.fact 0 rfl).2) rfl) rfl ?_
 refine wl_ov (ov_seql rfl rfl) rfl (sg_ rfl (nn_ ?_))
 refine gw_ret ?_
 refine nx_ret1 rfl rfl fun wx hm => ?_
 exact ⟨rfl, hm.g⟩
theorem index_classAt_1_lot (l : List Cs) (A : Option Addr) (n c0 : Nat) (gk : Nat) (k : ByteArray) (w : World) (hl : SlT csEnc 2 27 w A n l) (hn : n ≤ 1000000) (hk : Blk w gk 9 [.string k]) :
  Calls Try.prog 46 #[.slice A n c0, .func (.func 47) #[] #[.pointer (some ⟨gk, 0, none⟩)]] w (GotE w (ixP (csP k) l 0)) := by
 refine gw_enter ⟨19, w, none, []⟩ Try.func46 rfl Try.ntmps46 rfl (mem0 (X := [SlOld csEnc 2 27 w.heap.size none A n l, BlkOld w.heap.size none gk 9 [.string k]]) (allF_cons hl.old (allF_cons hk.old allF_nil)) (allL_cons SlOld.lasts (allL_cons BlkOld.lasts allL_nil))) ?_
 refine sr_ ?_
 have hlen := hl.len
 refine sg_ rfl (nn_ (gw_seq (sr_ (mv_ rfl (wl_ov (ov_len es28 rfl) rfl (mv_ rfl (nn_ (gw_block ?_))))))))
 refine gw_loop (γ := Nat) (fun (i : Nat) => i ≤ n ∧ ixP (csP k) l 0 = ixP (csP k) (l.drop i) i) (fun (i : Nat) => [(0, .slice A n c0), (1, .func (.func 47) #[] #[.pointer (some ⟨gk, 0, none⟩)]), (7, .int .i64 ((n : Nat) : Int)), (8, .int .i64 ((i : Nat) : Int))]) (fun (i : Nat) => fun _ => True) (fun (i : Nat) => []) (fun (i : Nat) => []) (fun (i : Nat) => [SlOld csEnc 2 27 w.heap.size none A n l, BlkOld w.heap.size none gk 9 [.string k]]) (fun (i : Nat) => n - i) 0 ⟨Nat.zero_le _, rfl⟩ ⟨rfl, rfl, rfl, rfl, trivial⟩ (fun _ hm => hm.pick [] [] [0, 1] rfl rfl) ?_
 intro i hinv
 replace hinv : i ≤ n ∧ ixP (csP k) l 0 = ixP (csP k) (l.drop i) i := hinv
 refine sr_ (wl_ov (ov_lss rfl rfl) rfl (nn_ (gw_seq ?_)))
 refine gw_cond rfl (fun hh => ?_) (fun hh => ?_)
 ·have hi : ((i : Nat) : Int) < ((n : Nat) : Int) := by simpa using hh
  clear hh
  refine gw_skip (nx_then (gw_seq (gw_block (sr_ ?_))))
  obtain ⟨b, off, hA, _, _⟩ := hl.get (by omega)
  subst hA
  obtain ⟨x, hx⟩ : ∃ x, l[i]? = some x := ⟨_, List.getElem?_eq_getElem (by omega)⟩
  obtain ⟨ke, up⟩ := x
  have hat := ixP_at (p := csP k) hx
  refine mv_ rfl (sg_ rfl (nn_ (sr_ (mv_ rfl (mv_ rfl (mv_ rfl ?_))))))
  refine wl_ov (ov_index (j := i) es28 rfl rfl (by omega)) rfl ?_
  refine wl_ov (ov_elem (vs := [.string ke, .string up]) rz27 rfl (fun _ hm => (hm.fact 0 rfl).1) hx rfl rfl) rfl ?_
  refine wl_callv rfl cb47 rfl rfl (fun wx hm => (pred_classAt_1_lot ke up gk k wx (hm.fact 1 rfl).2)) ?_
  refine nn_ ?_
  refine gw_cond rfl (fun hh => ?_) (fun hh => ?_)
  ·have hq : (csP k ⟨ke, up⟩) = true := by simpa using hh
   clear hh
   refine sr_ (mv_ rfl (sg_ rfl (nn_ ?_)))
   refine gw_ret ?_
   refine nx_blk_ret (nx_then_ret (nx_then_ret (nx_blk_ret (nx_then_ret ?_))))
   refine nx_ret1 rfl rfl fun wx hm => ?_
   exact ⟨ret_int (by rw [hinv.2, hat, if_pos hq]), hm.g⟩
  have hq : (csP k ⟨ke, up⟩) = false := by simpa using hh
  clear hh
  refine gw_skip (nx_blk_nrm (nx_then (gw_region (ad_ rfl rfl (mv_ rfl (wl_nil ?_))))))
  exact nx_round (i + 1) ⟨by omega, by rw [hinv.2, hat, if_neg (by rw [hq]; decide)]⟩ (by omega) ⟨rfl, rfl, rfl, (some_int (by omega)), trivial⟩ (fun _ hm => hm.pick [] [] [0, 1] rfl rfl)
 have hi : ¬ (((i : Nat) : Int) < ((n : Nat) : Int)) := by simpa using hh
 clear hh
 refine gw_exit ?_
 refine nx_then_exit (nx_then_exit ?_)
 refine nx_blk_here ?_
 refine nx_then (sr_ (sg_ rfl ?_))
 refine wl_set 4 (v' := .int .i64 (-1)) rfl rfl ?_
 refine nn_ ?_
 refine gw_ret ?_
 refine nx_ret1 rfl rfl fun wx hm => ?_
 exact ⟨ret_int (by rw [hinv.2, List.drop_eq_nil_of_le (by omega)]; rfl), hm.g⟩
theorem classAt_any (l : List Cs) (A : Option Addr) (n c0 : Nat) (k : ByteArray) (w : World) (hl : SlT csEnc 2 27 w A n l) (hn : n ≤ 1000000) :
  Calls Try.prog 23 #[.slice A n c0, .string k] w (GotE w (ixP (csP k) l 0)) := by
 refine gw_enter ⟨8, w, none, []⟩ Try.func23 rfl Try.ntmps23 rfl (mem0 (X := [SlOld csEnc 2 27 w.heap.size none A n l]) (allF_cons hl.old allF_nil) (allL_cons SlOld.lasts allL_nil)) ?_
 refine sr_ ?_
 refine wl_box rfl rfl rfl fun g1 => ?_
 refine sg_ rfl (nn_ (sr_ (mv_ rfl (wl_ov (ov_makeFunc rfl rfl) rfl ?_))))
 refine wl_callv rfl cb46 rfl rfl (fun wx hm => (index_classAt_1_lot l A n c0 _ k wx (hm.fact 0 rfl).1 hn (hm.blkI 0 rfl))) ?_
 refine sg_ rfl (nn_ ?_)
 refine gw_ret ?_
 refine nx_ret1 rfl rfl fun wx hm => ?_
 exact ⟨rfl, hm.g⟩
theorem index_str (ks : List ByteArray) (A1 : Option Addr) (n1 c1 : Nat) (k : ByteArray) (w : World) (hs : SlT sgEnc 1 9 w A1 n1 ks) (hn : n1 ≤ 1000000) :
  Calls Try.prog 50 #[.slice A1 n1 c1, .string k] w (GotE w (ixP (fun y => k.toList == y.toList) ks 0)) := by
 refine gw_enter ⟨19, w, none, []⟩ Try.func50 rfl Try.ntmps50 rfl (mem0 (X := [SlOld sgEnc 1 9 w.heap.size none A1 n1 ks]) (allF_cons hs.old allF_nil) (allL_cons SlOld.lasts allL_nil)) ?_
 refine sr_ ?_
 have hlen := hs.len
 refine sg_ rfl (nn_ (gw_seq (sr_ (mv_ rfl (wl_ov (ov_len es36 rfl) rfl (mv_ rfl (nn_ (gw_block ?_))))))))
 refine gw_loop (γ := Nat) (fun (i : Nat) => i ≤ n1 ∧ ixP (fun y => k.toList == y.toList) ks 0 = ixP (fun y => k.toList == y.toList) (ks.drop i) i) (fun (i : Nat) => [(0, .slice A1 n1 c1), (1, .string k), (7, .int .i64 ((n1 : Nat) : Int)), (8, .int .i64 ((i : Nat) : Int))]) (fun (i : Nat) => fun _ => True) (fun (i : Nat) => []) (fun (i : Nat) => []) (fun (i : Nat) => [SlOld sgEnc 1 9 w.heap.size none A1 n1 ks]) (fun (i : Nat) => n1 - i) 0 ⟨Nat.zero_le _, rfl⟩ ⟨rfl, rfl, rfl, rfl, trivial⟩ (fun _ hm => hm.pick [] [] [0] rfl rfl) ?_
 intro i hinv
 replace hinv : i ≤ n1 ∧ ixP (fun y => k.toList == y.toList) ks 0 = ixP (fun y => k.toList == y.toList) (ks.drop i) i := hinv
 refine sr_ (wl_ov (ov_lss rfl rfl) rfl (nn_ (gw_seq ?_)))
 refine gw_cond rfl (fun hh => ?_) (fun hh => ?_)
 ·have hi : ((i : Nat) : Int) < ((n1 : Nat) : Int) := by simpa using hh
  clear hh
  refine gw_skip (nx_then (gw_seq (gw_block (sr_ ?_))))
  obtain ⟨b, off, hA, _, _⟩ := hs.get (by omega)
  subst hA
  obtain ⟨z0, hx⟩ : ∃ x, ks[i]? = some x := ⟨_, List.getElem?_eq_getElem (by omega)⟩
  have hat := ixP_at (p := (fun y => k.toList == y.toList)) hx
  refine mv_ rfl (sg_ rfl (nn_ (sr_ (mv_ rfl (mv_ rfl (mv_ rfl ?_))))))
  refine wl_ov (ov_index (j := i) es36 rfl rfl (by omega)) rfl ?_
  refine wl_ov (ov_elem1 (k := 0) (v := .string z0) sc9 rfl (fun _ hm => (hm.fact 0 rfl).1) hx rfl rfl) rfl ?_
  refine wl_ov (ov_seql rfl rfl) rfl (nn_ ?_)
  refine gw_cond rfl (fun hh => ?_) (fun hh => ?_)
  ·have hq : (k.toList == z0.toList) = true := by simpa using hh
   clear hh
   refine sr_ (mv_ rfl (sg_ rfl (nn_ ?_)))
   refine gw_ret ?_
   refine nx_blk_ret (nx_then_ret (nx_then_ret (nx_blk_ret (nx_then_ret ?_))))
   refine nx_ret1 rfl rfl fun wx hm => ?_
   exact ⟨ret_int (by rw [hinv.2, hat, if_pos hq]), hm.g⟩
  have hq : (k.toList == z0.toList) = false := by simpa using hh
  clear hh
  refine gw_skip (nx_blk_nrm (nx_then (gw_region (ad_ rfl rfl (mv_ rfl (wl_nil ?_))))))
  exact nx_round (i + 1) ⟨by omega, by rw [hinv.2, hat, if_neg (by rw [hq]; decide)]⟩ (by omega) ⟨rfl, rfl, rfl, (some_int (by omega)), trivial⟩ (fun _ hm => hm.pick [] [] [0] rfl rfl)
 have hi : ¬ (((i : Nat) : Int) < ((n1 : Nat) : Int)) := by simpa using hh
 clear hh
 refine gw_exit ?_
 refine nx_then_exit (nx_then_exit ?_)
 refine nx_blk_here ?_
 refine nx_then (sr_ (sg_ rfl ?_))
 refine wl_set 4 (v' := .int .i64 (-1)) rfl rfl ?_
 refine nn_ ?_
 refine gw_ret ?_
 refine nx_ret1 rfl rfl fun wx hm => ?_
 exact ⟨ret_int (by rw [hinv.2, List.drop_eq_nil_of_le (by omega)]; rfl), hm.g⟩
theorem contains_str (ks : List ByteArray) (A1 : Option Addr) (n1 c1 : Nat) (k : ByteArray) (w : World) (hs : SlT sgEnc 1 9 w A1 n1 ks) (hn : n1 ≤ 1000000) :
  Calls Try.prog 67 #[.slice A1 n1 c1, .string k] w (fun e w' => e = .returned (.bool (inK k ks)) ∧ w.grownBy w' none) := by
 refine gw_enter ⟨9, w, none, []⟩ Try.func67 rfl Try.ntmps67 rfl (mem0 (X := [SlOld sgEnc 1 9 w.heap.size none A1 n1 ks]) (allF_cons hs.old allF_nil) (allL_cons SlOld.lasts allL_nil)) ?_
 refine sr_ (sg_ rfl (nn_ (sr_ (mv_ rfl (mv_ rfl ?_)))))
 refine wl_callv rfl cb50 rfl rfl (fun wx hm => (index_str ks A1 n1 c1 k wx (hm.fact 0 rfl).1 hn)) ?_
 refine wl_ov (ov_geq rfl rfl) rfl ?_
 refine sg_ rfl (nn_ ?_)
 refine gw_ret ?_
 refine nx_ret1 rfl rfl fun wx hm => ?_
 exact ⟨by unfold inK; rw [← ix_any], hm.g⟩
theorem above_any (l : List Cs) (A : Option Addr) (n c : Nat) (k0 : ByteArray) (w : World) (hl : SlT csEnc 2 27 w A n l) (hc : Closed l) (hk0 : 0 ≤ ixP (csP k0) l 0) (hn : n ≤ 1000000) :
  Calls Try.prog 51 #[.slice A n c, .string k0] w (fun e w' => ∃ (A2 : Option Addr) (n2 c2 : Nat), e = .returned (.slice A2 n2 c2) ∧ w'.ownsRow w.heap.size 9 1 (.slice A2 n2 c2) n2 ((pathN l n k0).flatMap sgEnc) ∧ (pathN l n k0).length = n2 ∧ w.grownBy w' none) := by
 refine gw_enter ⟨25, w, none, []⟩ Try.func51 rfl Try.ntmps51 rfl (mem0 (X := [SlOld csEnc 2 27 w.heap.size none A n l]) (allF_cons hl.old allF_nil) (allL_cons SlOld.lasts allL_nil)) ?_
 refine sr_ ?_
 have hlen := hl.len
 refine sg_ rfl (nn_ (sr_ (sg_ rfl (nn_ (gw_seq (sr_ (mv_ rfl (wl_ov (ov_len es28 rfl) rfl (mv_ rfl ?_)))))))))
 refine nn_ (gw_block ?_)
 refine gw_nilOwn 9 1 ?_
 refine gw_loop (γ := Nat × ByteArray × Value × List ByteArray × List Value) (fun g => g.1 ≤ n ∧ 0 ≤ ixP (csP g.2.1) l 0 ∧ g.2.2.2.1.length = g.1 ∧ g.2.2.2.1 ++ pathN l (n - g.1) g.2.1 = pathN l n k0 ∧ g.2.2.2.2 = g.2.2.2.1.flatMap sgEnc) (fun g => [(0, .slice A n c), (1, .string g.2.1), (4, .slice none 0 0), (5, g.2.2.1), (7, .int .i64 ((n : Nat) : Int)), (8, .int .i64 ((g.1 : Nat) : Int))]) (fun g => fun _ => True) (fun g => []) (fun g => [⟨g.2.2.1, 9, 1, g.1, g.2.2.2.2⟩]) (fun g => [SlOld csEnc 2 27 w.heap.size none A n l]) (fun g => n - g.1) (0, k0, .slice none 0 0, [], []) ⟨Nat.zero_le _, hk0, rfl, rfl, rfl⟩ ⟨rfl, rfl, rfl, rfl, rfl, rfl, trivial⟩ (fun _ hm => hm.pick [] [0] [0] rfl rfl) ?_
 rintro ⟨i, k, v, done, xs⟩ hinv
 replace hinv : i ≤ n ∧ 0 ≤ ixP (csP k) l 0 ∧ done.length = i ∧ done ++ pathN l (n - i) k = pathN l n k0 ∧ xs = done.flatMap sgEnc := hinv
 dsimp only
 refine sr_ ?_
 obtain ⟨hi0, hik, hdl, hdp, rfl⟩ := hinv
 refine wl_ov (ov_lss rfl rfl) rfl (nn_ (gw_seq ?_))
 refine gw_cond rfl (fun hh => ?_) (fun hh => ?_)
 ·have hi : ((i : Nat) : Int) < ((n : Nat) : Int) := by simpa using hh
  clear hh
  refine gw_skip (nx_then (gw_seq (gw_block (sr_ ?_))))
  obtain ⟨b, off, hA, _, _⟩ := hl.get (by omega)
  subst hA
  refine mv_ rfl (mv_ rfl (mv_ rfl ?_))
  obtain ⟨x, hx, hxl, hxk⟩ := ix_key hik
  obtain ⟨j, hj⟩ := Int.eq_ofNat_of_zero_le hik
  have hjx : (ixP (csP k) l 0).toNat = j := by omega
  rw [hjx] at hx
  have hup := upOf_at hj hx
  have hjn : j < n := by have := (List.getElem?_eq_some_iff.1 hx).1; omega
  obtain ⟨ke, up⟩ := x
  have hup : upOf l k = up := hup
  have hcl := hc ⟨ke, up⟩ hxl
  have hcl : emptyS up = false → 0 ≤ ixP (csP up) l 0 := hcl
  refine wl_callv (v := .int .i64 ((j : Nat) : Int)) rfl cb23 rfl rfl (fun wx hm => (by rw [← hj]; exact classAt_any l _ n c k wx (hm.fact 0 rfl).1 hn)) ?_
  refine wl_ov (ov_index (j := j) es28 rfl rfl (by omega)) rfl ?_
  refine fd_ fo27_1 rfl rfl ?_
  refine wl_ov (ov_elem1 (k := 1) (v := .string up) sc9 rfl (fun _ hm => (hm.fact 0 rfl).1) hx rfl rfl) rfl ?_
  refine sg_ rfl (nn_ (gw_seq (sr_ (mv_ rfl (wl_ov (ov_seql rfl rfl) rfl (nn_ ?_))))))
  refine gw_cond rfl (fun hh => ?_) (fun hh => ?_)
  ·have hq : (up.toList == (⟨#[]⟩ : ByteArray).toList) = true := by simpa using hh
   clear hh
   refine gw_exit ?_
   refine nx_then_exit ?_
   refine nx_blk_on rfl ?_
   refine nx_then_exit (nx_then_exit ?_)
   refine nx_blk_here ?_
   refine nx_then (sr_ ?_)
   refine wl_look (R := ∃ A cc, v = .slice A i cc) (fun wx hm => own_slice (hm.ownI 0 rfl)) ?_
   rintro ⟨A2, c2, rfl⟩
   refine mv_ rfl (sg_ rfl (nn_ ?_))
   refine gw_ret ?_
   have hall : done = pathN l n k0 := by rw [← hdp, path_stop (by rw [hup]; unfold emptyS; exact hq), List.append_nil]
   refine nx_ret1 rfl rfl fun wx hm => ?_
   exact ⟨A2, i, c2, rfl, by rw [← hall]; exact hm.ownI 0 rfl, by rw [← hall]; exact hdl, hm.g⟩
  have hq : (up.toList == (⟨#[]⟩ : ByteArray).toList) = false := by simpa using hh
  clear hh
  refine gw_skip (nx_then (gw_region (mv_ rfl (mv_ rfl ?_))))
  refine wl_buildSlice (e := 9) (cs := [.string up]) rfl (by kernel_rfl) rfl fun g1 => ?_
  refine wl_append (news := [.string up]) 0 0 ap36 rfl rfl rfl rfl rfl rfl rfl (by omega) (by unfold maxLen; omega) rfl rfl fun v2 hv2 => ?_
  refine sg_ rfl (wl_nil (nx_blk_nrm (nx_then (gw_region (ad_ rfl rfl (mv_ rfl (wl_nil ?_)))))))
  have hue : emptyS (upOf l k) = false := by rw [hup]; unfold emptyS; exact hq
  have hpm := path_more hue (show i < n by omega)
  rw [hup] at hpm hue
  exact nx_round (i + 1, up, v2, done ++ [up], done.flatMap sgEnc ++ ([.string up] : List Value)) ⟨by dsimp only; omega, hcl hue, by simp [hdl], by dsimp only; rw [← hdp, hpm, List.append_assoc]; rfl, by simp [sgEnc]⟩ (by dsimp only; omega) ⟨rfl, rfl, rfl, rfl, rfl, (some_int (by omega)), trivial⟩ (fun _ hm => hm.pick [] [0] [0] rfl rfl)
 have hi : ¬ (((i : Nat) : Int) < ((n : Nat) : Int)) := by simpa using hh
 clear hh
 refine gw_exit ?_
 refine nx_then_exit (nx_then_exit ?_)
 refine nx_blk_here ?_
 refine nx_then (sr_ ?_)
 refine wl_look (R := ∃ A cc, v = .slice A i cc) (fun wx hm => own_slice (hm.ownI 0 rfl)) ?_
 rintro ⟨A2, c2, rfl⟩
 refine mv_ rfl (sg_ rfl (nn_ ?_))
 refine gw_ret ?_
 have hin : i = n := by omega
 have hall : done = pathN l n k0 := by rw [← hdp, hin, Nat.sub_self]; exact (List.append_nil _).symm
 refine nx_ret1 rfl rfl fun wx hm => ?_
 exact ⟨A2, i, c2, rfl, by rw [← hall]; exact hm.ownI 0 rfl, by rw [← hall]; exact hdl, hm.g⟩
theorem checkClasses_any (l : List Cs) (A : Option Addr) (n c : Nat) (w : World) (hl : SlT csEnc 2 27 w A n l) (hok : ∀ x ∈ l, CsOk x) (hn : n ≤ 1000000) :
  Calls Try.prog 58 #[.slice A n c] w (GotE w (classesE l)) := by
 refine gw_enter ⟨80, w, none, []⟩ Try.func58 rfl Try.ntmps58 rfl (mem0 (X := [SlOld csEnc 2 27 w.heap.size none A n l]) (allF_cons hl.old allF_nil) (allL_cons SlOld.lasts allL_nil)) ?_
 refine sr_ ?_
 have hlen := hl.len
 refine sg_ rfl (nn_ (gw_seq (sr_ (mv_ rfl (wl_ov (ov_len es28 rfl) rfl ?_)))))
 refine wl_ov (ov_gtr rfl rfl) rfl ?_
 refine nn_ ?_
 refine gw_cond rfl (fun hh => ?_) (fun hh => ?_)
 ·have h1 : 30 < ((n : Nat) : Int) := by simpa using hh
  clear hh
  refine sr_ (sg_ rfl (nn_ ?_))
  refine gw_ret ?_
  refine nx_then_ret ?_
  refine nx_ret1 rfl rfl fun wx hm => ?_
  exact ⟨ret_int (by unfold classesE; rw [if_pos (by omega)]), hm.g⟩
 have h1 : ¬ (30 < ((n : Nat) : Int)) := by simpa using hh
 clear hh
 refine gw_skip (nx_then (gw_seq (sr_ ?_)))
 have h30 : ¬ 30 < l.length := by omega
 refine mv_ rfl (wl_ov (ov_len es28 rfl) rfl (mv_ rfl (nn_ (gw_block ?_))))
 refine gw_loop (γ := Nat) (fun (k : Nat) => k ≤ n ∧ scanE csE none l = scanE csE (prevOf l k) (l.drop k)) (fun (k : Nat) => [(0, .slice A n c), (12, .slice A n c), (13, .int .i64 ((n : Nat) : Int)), (14, .int .i64 ((k : Nat) : Int))]) (fun (k : Nat) => fun _ => True) (fun (k : Nat) => []) (fun (k : Nat) => []) (fun (k : Nat) => [SlOld csEnc 2 27 w.heap.size none A n l]) (fun (k : Nat) => n - k) 0 ⟨Nat.zero_le _, rfl⟩ ⟨rfl, rfl, rfl, rfl, trivial⟩ (fun _ hm => hm.pick [] [] [0] rfl rfl) ?_
 intro k hinv
 replace hinv : k ≤ n ∧ scanE csE none l = scanE csE (prevOf l k) (l.drop k) := hinv
 refine sr_ (wl_ov (ov_lss rfl rfl) rfl (nn_ (gw_seq ?_)))
 refine gw_cond rfl (fun hh => ?_) (fun hh => ?_)
 ·have hk : ((k : Nat) : Int) < ((n : Nat) : Int) := by simpa using hh
  clear hh
  refine gw_skip (nx_then (gw_seq (gw_block (sr_ ?_))))
  obtain ⟨b, off, hA, _, _⟩ := hl.get (by omega)
  subst hA
  obtain ⟨x, hx⟩ : ∃ x, l[k]? = some x := ⟨_, List.getElem?_eq_getElem (by omega)⟩
  obtain ⟨ke, up⟩ := x
  have hat := scanE_at csE l k _ hx
  have hk1 : ke.size ≤ 1000000 := (hok _ (List.mem_of_getElem? hx)).1
  have hk2 : up.size ≤ 1000000 := (hok _ (List.mem_of_getElem? hx)).2
  refine mv_ rfl ?_
  refine wl_ov (ov_index (j := k) es28 rfl rfl (by omega)) rfl ?_
  refine wl_ov (ov_elem (vs := [.string ke, .string up]) rz27 rfl (fun _ hm => (hm.fact 0 rfl).1) hx rfl rfl) rfl ?_
  refine wl_alloc zc27 rfl fun g1 => ?_
  refine sg_ rfl ?_
  refine wl_stores (cs' := [.string ke, .string up]) 0 rz27 rfl rfl rfl rfl rfl rfl rfl rfl ?_
  refine nn_ (gw_block (sr_ (fd_ fo27_0 rfl rfl (lk_ sc9 0 rfl rfl rfl ?_))))
  refine wl_callw rfl cb54 rfl rfl (fun wx hm => (isKey_any _ wx (by omega))) ?_
  refine wl_ov (ov_un_not rfl) rfl (sg_ rfl (nn_ ?_))
  refine gw_cond rfl (fun hh => ?_) (fun hh => ?_)
  ·have h2 : (keyB ke) = false := by simpa using hh
   clear hh
   refine sr_ (sg_ rfl (nn_ ?_))
   refine gw_ret ?_
   refine nx_blk_ret (nx_blk_ret (nx_then_ret (nx_then_ret (nx_blk_ret (nx_then_ret ?_)))))
   have hE : csE (prevOf l k) ⟨ke, up⟩ = 5 := by unfold csE; simp [h2]
   refine nx_ret1 rfl rfl fun wx hm => ?_
   exact ⟨ret_int (by rw [cls_scan h30 (v := 5) (by rw [hinv.2, hat, if_neg (by rw [hE]; decide), hE]) (by decide)]), hm.g⟩
  have h2 : (keyB ke) = true := by simpa using hh
  clear hh
  refine gw_seq ?_
  by_cases hk0 : k = 0
  ·have hO : leCs (prevOf l k) ⟨ke, up⟩ = false := by rw [prevOf_zero hk0]; rfl
   refine gd (fun wz => Blk wz g1 27 [.string ke, .string up] ∧ (SlOld csEnc 2 27 w.heap.size none (some ⟨b, off, none⟩) n l) wz ∧ True) mixed (fun _ hm => ⟨hm.bl 0, hm.fa 0, trivial⟩) fun z => ?_
   refine wt 0 14 1 rfl z (ov_move rfl) ?_
   refine wt 1 14 3 rfl z (ov_gtr rfl rfl) ?_
   refine wa_set 26 (v' := .bool false) rfl (congrArg Value.bool (decide_eq_false (by omega))) ?_
   refine wt 2 14 7 rfl z (ov_move rfl) ?_
   refine wtf 3 14 15 rfl rfl rfl z ?_
   refine wtf 4 14 31 rfl rfl rfl z ?_
   refine wtf 5 14 63 rfl rfl rfl z ?_
   refine wtf 6 14 127 rfl rfl rfl z ?_
   refine wtf 7 14 255 rfl rfl rfl z ?_
   refine wtf 8 14 511 rfl rfl rfl z ?_
   refine wtf 9 14 1023 rfl rfl rfl z ?_
   refine wtf 10 14 2047 rfl rfl rfl z ?_
   refine wtf 11 14 4095 rfl rfl rfl z ?_
   refine wt 12 14 8191 rfl z (ov_pick_f rfl rfl) ?_
   refine wt 13 14 16383 rfl z (ov_assign rfl) ?_
   refine wa_done (by kernel_rfl) ?_
   refine nx_then (cf_ rfl (sr_ (fd_ fo27_1 rfl rfl (lk_ sc9 0 rfl rfl rfl (wl_ov (ov_sneq rfl rfl) rfl (mv_ rfl ?_))))))
   rcases Bool.eq_false_or_eq_true (!(up.toList == (⟨#[]⟩ : ByteArray).toList)) with h31 | h31
   ·refine wl_set 42 rfl (congrArg Value.bool h31) ?_
    have h31 : emptyS up = false := by unfold emptyS; simpa only [Bool.not_eq_true'] using h31
    refine wl_guard_on rfl rfl rfl (fd_ fo27_1 rfl rfl (wl_guard_on rfl rfl rfl (lk_ sc9 0 rfl rfl rfl (wl_guard_on rfl rfl rfl ?_))))
    refine wl_callw rfl cb54 rfl rfl (fun wx hm => (isKey_any _ wx (by omega))) ?_
    refine wl_guard_on rfl rfl rfl (wl_ov (ov_un_not rfl) rfl (pt_ rfl rfl (sg_ rfl (nn_ ?_))))
    refine gw_cond rfl (fun hh => ?_) (fun hh => ?_)
    ·have h32 : (keyB up) = false := by simpa using hh
     clear hh
     refine sr_ (sg_ rfl (nn_ ?_))
     refine gw_ret ?_
     refine nx_blk_ret (nx_blk_ret (nx_then_ret (nx_then_ret (nx_blk_ret (nx_then_ret ?_)))))
     have hE : csE (prevOf l k) ⟨ke, up⟩ = 5 := by unfold csE; simp [h2, hO, h31, h32]
     refine nx_ret1 rfl rfl fun wx hm => ?_
     exact ⟨ret_int (by rw [cls_scan h30 (v := 5) (by rw [hinv.2, hat, if_neg (by rw [hE]; decide), hE]) (by decide)]), hm.g⟩
    have h32 : (keyB up) = true := by simpa using hh
    clear hh
    refine gw_skip (nx_blk_nrm (nx_blk_nrm (nx_then (gw_region ?_))))
    have hE : csE (prevOf l k) ⟨ke, up⟩ = 0 := by unfold csE; simp [h2, hO, h31, h32]
    refine ad_ rfl rfl (mv_ rfl (wl_nil ?_))
    exact nx_round (k + 1) ⟨by omega, by rw [hinv.2, hat, if_pos hE]⟩ (by omega) ⟨rfl, rfl, rfl, (some_int (by omega)), trivial⟩ (fun _ hm => hm.pick [] [] [0] rfl rfl)
   refine wl_set 42 rfl (congrArg Value.bool h31) ?_
   have h31 : emptyS up = true := by unfold emptyS; simpa only [Bool.not_eq_false'] using h31
   have hE : csE (prevOf l k) ⟨ke, up⟩ = 0 := by unfold csE; simp [h2, hO, h31]
   refine goff rfl rfl rfl (goff rfl rfl rfl (goff rfl rfl rfl (goff rfl rfl rfl (pf_ rfl rfl (sg_ rfl (nn_ (cf_ rfl (gw_skip (nx_blk_nrm (nx_blk_nrm (nx_then (gw_region ?_))))))))))))
   refine ad_ rfl rfl (mv_ rfl (wl_nil ?_))
   exact nx_round (k + 1) ⟨by omega, by rw [hinv.2, hat, if_pos hE]⟩ (by omega) ⟨rfl, rfl, rfl, (some_int (by omega)), trivial⟩ (fun _ hm => hm.pick [] [] [0] rfl rfl)
  obtain ⟨y, hy⟩ : ∃ x, l[k - 1]? = some x := ⟨_, List.getElem?_eq_getElem (by omega)⟩
  obtain ⟨p0, p1⟩ := y
  refine gd (fun wz => Blk wz g1 27 [.string ke, .string up] ∧ (SlOld csEnc 2 27 w.heap.size none (some ⟨b, off, none⟩) n l) wz ∧ True) mixed (fun _ hm => ⟨hm.bl 0, hm.fa 0, trivial⟩) fun z => ?_
  refine wt 0 14 1 rfl z (ov_move rfl) ?_
  refine wt 1 14 3 rfl z (ov_gtr rfl rfl) ?_
  refine wa_set 26 (v' := .bool true) rfl (congrArg Value.bool (decide_eq_true (by omega))) ?_
  refine wt 2 14 7 rfl z (ov_move rfl) ?_
  refine wto 3 14 15 rfl rfl rfl z (ov_field fo27_0 rfl rfl) ?_
  refine wto 4 14 31 rfl rfl rfl z (ov_load sc9 rfl (fun _ hm => hm.1) rfl) ?_
  refine wto 5 14 63 rfl rfl rfl z (ov_move rfl) ?_
  refine wto 6 14 127 rfl rfl rfl z (ov_move rfl) ?_
  refine wto 7 14 255 rfl rfl rfl z (ov_sub rfl rfl (by omega) (by omega)) ?_
  refine wa_set 32 (v' := .int .i64 ((k - 1 : Nat) : Int)) rfl (congrArg (Value.int .i64) (by omega)) ?_
  refine wto 8 14 511 rfl rfl rfl z (ov_index (j := k - 1) es28 rfl rfl (by omega)) ?_
  refine wto 9 14 1023 rfl rfl rfl z (ov_field fo27_0 rfl rfl) ?_
  refine wto 10 14 2047 rfl rfl rfl z (ov_elem1 (k := 0) (v := .string p0) sc9 rfl (fun _ hm => (hm.2.1).1) hy rfl rfl) ?_
  refine wto 11 14 4095 rfl rfl rfl z (ov_sleq rfl rfl) ?_
  refine wt 12 14 8191 rfl z (ov_pick_t rfl rfl) ?_
  refine wt 13 14 16383 rfl z (ov_assign rfl) ?_
  refine wa_done (by kernel_rfl) ?_
  refine nx_then ?_
  refine gw_cond rfl (fun hh => ?_) (fun hh => ?_)
  ·have h9 : (Op.bytesLess ke.toList p0.toList || ke.toList == p0.toList) = true := by simpa using hh
   clear hh
   refine sr_ ?_
   have hO : leCs (prevOf l k) ⟨ke, up⟩ = true := by rw [prevOf_pos hk0 hy]; exact h9
   refine sg_ rfl (nn_ ?_)
   refine gw_ret ?_
   refine nx_blk_ret (nx_blk_ret (nx_then_ret (nx_then_ret (nx_blk_ret (nx_then_ret ?_)))))
   have hE : csE (prevOf l k) ⟨ke, up⟩ = 7 := by unfold csE; simp [h2, hO]
   refine nx_ret1 rfl rfl fun wx hm => ?_
   exact ⟨ret_int (by rw [cls_scan h30 (v := 7) (by rw [hinv.2, hat, if_neg (by rw [hE]; decide), hE]) (by decide)]), hm.g⟩
  have h9 : (Op.bytesLess ke.toList p0.toList || ke.toList == p0.toList) = false := by simpa using hh
  clear hh
  refine sr_ ?_
  have hO : leCs (prevOf l k) ⟨ke, up⟩ = false := by rw [prevOf_pos hk0 hy]; exact h9
  refine fd_ fo27_1 rfl rfl (lk_ sc9 0 rfl rfl rfl (wl_ov (ov_sneq rfl rfl) rfl (mv_ rfl ?_)))
  rcases Bool.eq_false_or_eq_true (!(up.toList == (⟨#[]⟩ : ByteArray).toList)) with h31 | h31
  ·refine wl_set 42 rfl (congrArg Value.bool h31) ?_
   have h31 : emptyS up = false := by unfold emptyS; simpa only [Bool.not_eq_true'] using h31
   refine wl_guard_on rfl rfl rfl (fd_ fo27_1 rfl rfl (wl_guard_on rfl rfl rfl (lk_ sc9 0 rfl rfl rfl (wl_guard_on rfl rfl rfl ?_))))
   refine wl_callw rfl cb54 rfl rfl (fun wx hm => (isKey_any _ wx (by omega))) ?_
   refine wl_guard_on rfl rfl rfl (wl_ov (ov_un_not rfl) rfl (pt_ rfl rfl (sg_ rfl (nn_ ?_))))
   refine gw_cond rfl (fun hh => ?_) (fun hh => ?_)
   ·have h32 : (keyB up) = false := by simpa using hh
    clear hh
    refine sr_ (sg_ rfl (nn_ ?_))
    refine gw_ret ?_
    refine nx_blk_ret (nx_blk_ret (nx_then_ret (nx_then_ret (nx_blk_ret (nx_then_ret ?_)))))
    have hE : csE (prevOf l k) ⟨ke, up⟩ = 5 := by unfold csE; simp [h2, hO, h31, h32]
    refine nx_ret1 rfl rfl fun wx hm => ?_
    exact ⟨ret_int (by rw [cls_scan h30 (v := 5) (by rw [hinv.2, hat, if_neg (by rw [hE]; decide), hE]) (by decide)]), hm.g⟩
   have h32 : (keyB up) = true := by simpa using hh
   clear hh
   refine gw_skip (nx_blk_nrm (nx_blk_nrm (nx_then (gw_region ?_))))
   have hE : csE (prevOf l k) ⟨ke, up⟩ = 0 := by unfold csE; simp [h2, hO, h31, h32]
   refine ad_ rfl rfl (mv_ rfl (wl_nil ?_))
   exact nx_round (k + 1) ⟨by omega, by rw [hinv.2, hat, if_pos hE]⟩ (by omega) ⟨rfl, rfl, rfl, (some_int (by omega)), trivial⟩ (fun _ hm => hm.pick [] [] [0] rfl rfl)
  refine wl_set 42 rfl (congrArg Value.bool h31) ?_
  have h31 : emptyS up = true := by unfold emptyS; simpa only [Bool.not_eq_false'] using h31
  have hE : csE (prevOf l k) ⟨ke, up⟩ = 0 := by unfold csE; simp [h2, hO, h31]
  refine goff rfl rfl rfl (goff rfl rfl rfl (goff rfl rfl rfl (goff rfl rfl rfl (pf_ rfl rfl (sg_ rfl (nn_ (cf_ rfl (gw_skip (nx_blk_nrm (nx_blk_nrm (nx_then (gw_region ?_))))))))))))
  refine ad_ rfl rfl (mv_ rfl (wl_nil ?_))
  exact nx_round (k + 1) ⟨by omega, by rw [hinv.2, hat, if_pos hE]⟩ (by omega) ⟨rfl, rfl, rfl, (some_int (by omega)), trivial⟩ (fun _ hm => hm.pick [] [] [0] rfl rfl)
 have hk : ¬ (((k : Nat) : Int) < ((n : Nat) : Int)) := by simpa using hh
 clear hh
 refine gw_exit ?_
 refine nx_then_exit (nx_then_exit ?_)
 refine nx_blk_here ?_
 refine nx_then (gw_seq (sr_ ?_))
 have hsc : scanE csE none l = 0 := by rw [hinv.2, scanE_end _ _ _ _ (by omega)]
 clear hinv hk
 refine mv_ rfl (wl_ov (ov_len es28 rfl) rfl (mv_ rfl (nn_ (gw_block ?_))))
 refine gw_loop (γ := Nat) (fun (k2 : Nat) => k2 ≤ n ∧ l.any (upB l) = (l.drop k2).any (upB l)) (fun (k2 : Nat) => [(0, .slice A n c), (49, .slice A n c), (50, .int .i64 ((n : Nat) : Int)), (51, .int .i64 ((k2 : Nat) : Int))]) (fun (k2 : Nat) => fun _ => True) (fun (k2 : Nat) => []) (fun (k2 : Nat) => []) (fun (k2 : Nat) => [SlOld csEnc 2 27 w.heap.size none A n l]) (fun (k2 : Nat) => n - k2) 0 ⟨Nat.zero_le _, rfl⟩ ⟨rfl, rfl, rfl, rfl, trivial⟩ (fun _ hm => hm.pick [] [] [0] rfl rfl) ?_
 intro k2 hinv
 replace hinv : k2 ≤ n ∧ l.any (upB l) = (l.drop k2).any (upB l) := hinv
 refine sr_ (wl_ov (ov_lss rfl rfl) rfl (nn_ (gw_seq ?_)))
 refine gw_cond rfl (fun hh => ?_) (fun hh => ?_)
 ·have hk : ((k2 : Nat) : Int) < ((n : Nat) : Int) := by simpa using hh
  clear hh
  refine gw_skip (nx_then (gw_seq (gw_block (sr_ ?_))))
  obtain ⟨b, off, hA, _, _⟩ := hl.get (by omega)
  subst hA
  obtain ⟨x, hx⟩ : ∃ x, l[k2]? = some x := ⟨_, List.getElem?_eq_getElem (by omega)⟩
  obtain ⟨ke, up⟩ := x
  have hat := any_at (p := upB l) hx
  have hk2 : up.size ≤ 1000000 := (hok _ (List.mem_of_getElem? hx)).2
  refine wl_ov (ov_index (j := k2) es28 rfl rfl (by omega)) rfl ?_
  refine wl_ov (ov_elem (vs := [.string ke, .string up]) rz27 rfl (fun _ hm => (hm.fact 0 rfl).1) hx rfl rfl) rfl ?_
  refine wl_alloc zc27 rfl fun g2 => ?_
  refine wl_stores (cs' := [.string ke, .string up]) 0 rz27 rfl rfl rfl rfl rfl rfl rfl rfl ?_
  refine nn_ (sr_ (fd_ fo27_1 rfl rfl (lk_ sc9 0 rfl rfl rfl (wl_ov (ov_sneq rfl rfl) rfl (mv_ rfl ?_)))))
  rcases Bool.eq_false_or_eq_true (!(up.toList == (⟨#[]⟩ : ByteArray).toList)) with h31 | h31
  ·refine wl_set 58 rfl (congrArg Value.bool h31) ?_
   have h31 : emptyS up = false := by unfold emptyS; simpa only [Bool.not_eq_true'] using h31
   refine wl_guard_on rfl rfl rfl (mv_ rfl (wl_guard_on rfl rfl rfl (fd_ fo27_1 rfl rfl (wl_guard_on rfl rfl rfl (lk_ sc9 0 rfl rfl rfl (wl_guard_on rfl rfl rfl ?_))))))
   refine wl_callv rfl cb23 rfl rfl (fun wx hm => (classAt_any l _ n c up wx (hm.fact 0 rfl).1 (by omega))) ?_
   refine wl_guard_on rfl rfl rfl (wl_ov (ov_lss rfl rfl) rfl (pt_ rfl rfl (nn_ ?_)))
   refine gw_cond rfl (fun hh => ?_) (fun hh => ?_)
   ·have h32 : ixP (csP up) l 0 < 0 := by simpa using hh
    clear hh
    refine sr_ (sg_ rfl (nn_ ?_))
    refine gw_ret ?_
    refine nx_blk_ret (nx_then_ret (nx_then_ret (nx_blk_ret (nx_then_ret ?_))))
    have hE : upB l ⟨ke, up⟩ = true := by unfold upB; simp [h31, h32]
    refine nx_ret1 rfl rfl fun wx hm => ?_
    exact ⟨ret_int (by rw [cls_up h30 hsc (by rw [hinv.2, hat, hE]; rfl)]), hm.g⟩
   have h32 : ¬ (ixP (csP up) l 0 < 0) := by simpa using hh
   clear hh
   refine gw_skip (nx_blk_nrm (nx_then (gw_region ?_)))
   have hE : upB l ⟨ke, up⟩ = false := by unfold upB; simp [h31]; omega
   refine ad_ rfl rfl (mv_ rfl (wl_nil ?_))
   exact nx_round (k2 + 1) ⟨by omega, by rw [hinv.2, hat, hE]; rfl⟩ (by omega) ⟨rfl, rfl, rfl, (some_int (by omega)), trivial⟩ (fun _ hm => hm.pick [] [] [0] rfl rfl)
  refine wl_set 58 rfl (congrArg Value.bool h31) ?_
  have h31 : emptyS up = true := by unfold emptyS; simpa only [Bool.not_eq_false'] using h31
  have hE : upB l ⟨ke, up⟩ = false := by unfold upB; simp [h31]
  refine goff rfl rfl rfl (goff rfl rfl rfl (goff rfl rfl rfl (goff rfl rfl rfl (goff rfl rfl rfl (pf_ rfl rfl (nn_ (cf_ rfl (gw_skip (nx_blk_nrm (nx_then (gw_region (ad_ rfl rfl ?_))))))))))))
  refine mv_ rfl (wl_nil ?_)
  exact nx_round (k2 + 1) ⟨by omega, by rw [hinv.2, hat, hE]; rfl⟩ (by omega) ⟨rfl, rfl, rfl, (some_int (by omega)), trivial⟩ (fun _ hm => hm.pick [] [] [0] rfl rfl)
 have hk : ¬ (((k2 : Nat) : Int) < ((n : Nat) : Int)) := by simpa using hh
 clear hh
 refine gw_exit ?_
 refine nx_then_exit (nx_then_exit ?_)
 refine nx_blk_here ?_
 refine nx_then (gw_seq (sr_ ?_))
 have hup : l.any (upB l) = false := by rw [hinv.2, any_end (by omega)]
 clear hinv hk
 have hcl := closed_of hup
 have hlo := cls_loop h30 hsc hup
 refine mv_ rfl (wl_ov (ov_len es28 rfl) rfl (mv_ rfl (nn_ (gw_block ?_))))
 refine gw_loop (γ := Nat) (fun (k3 : Nat) => k3 ≤ n ∧ l.any (fun x => inK x.key (pathN l (n) x.key)) = (l.drop k3).any (fun x => inK x.key (pathN l (n) x.key))) (fun (k3 : Nat) => [(0, .slice A n c), (66, .slice A n c), (67, .int .i64 ((n : Nat) : Int)), (68, .int .i64 ((k3 : Nat) : Int))]) (fun (k3 : Nat) => fun _ => True) (fun (k3 : Nat) => []) (fun (k3 : Nat) => []) (fun (k3 : Nat) => [SlOld csEnc 2 27 w.heap.size none A n l]) (fun (k3 : Nat) => n - k3) 0 ⟨Nat.zero_le _, rfl⟩ ⟨rfl, rfl, rfl, rfl, trivial⟩ (fun _ hm => hm.pick [] [] [0] rfl rfl) ?_
 intro k3 hinv
 replace hinv : k3 ≤ n ∧ l.any (fun x => inK x.key (pathN l (n) x.key)) = (l.drop k3).any (fun x => inK x.key (pathN l (n) x.key)) := hinv
 refine sr_ ?_
 have hlo2 : classesE l = if l.any (fun x => inK x.key (pathN l (n) x.key)) = true then 14 else 0 := by rw [hlo]; unfold loopB; rw [hlen]
 refine wl_ov (ov_lss rfl rfl) rfl (nn_ (gw_seq ?_))
 refine gw_cond rfl (fun hh => ?_) (fun hh => ?_)
 ·have hk : ((k3 : Nat) : Int) < ((n : Nat) : Int) := by simpa using hh
  clear hh
  refine gw_skip (nx_then (gw_seq (gw_block (sr_ ?_))))
  obtain ⟨b, off, hA, _, _⟩ := hl.get (by omega)
  subst hA
  obtain ⟨x, hx⟩ : ∃ x, l[k3]? = some x := ⟨_, List.getElem?_eq_getElem (by omega)⟩
  obtain ⟨ke, up⟩ := x
  have hat := any_at (p := (fun x => inK x.key (pathN l (n) x.key))) hx
  have hk2 : ke.size ≤ 1000000 := (hok _ (List.mem_of_getElem? hx)).1
  have hix : 0 ≤ ixP (csP ke) l 0 := by
   rcases ixP_spec (p := csP ke) l 0 with ⟨_, h⟩ | ⟨j, x, h, _⟩
   ·have := h _ (List.mem_of_getElem? hx)
    simp [csP] at this
   omega
  refine wl_ov (ov_index (j := k3) es28 rfl rfl (by omega)) rfl ?_
  refine wl_ov (ov_elem (vs := [.string ke, .string up]) rz27 rfl (fun _ hm => (hm.fact 0 rfl).1) hx rfl rfl) rfl ?_
  refine wl_alloc zc27 rfl fun g3 => ?_
  refine wl_stores (cs' := [.string ke, .string up]) 0 rz27 rfl rfl rfl rfl rfl rfl rfl rfl ?_
  refine nn_ (gw_seq ?_)
  refine gd (fun wz => Blk wz g3 27 [.string ke, .string up] ∧ (SlOld csEnc 2 27 w.heap.size none (some ⟨b, off, none⟩) n l) wz ∧ True) mixed (fun _ hm => ⟨hm.bl 0, hm.fa 0, trivial⟩) fun z => ?_
  refine wt 0 7 1 rfl z (ov_move rfl) ?_
  refine wt 1 7 3 rfl z (ov_field fo27_0 rfl rfl) ?_
  refine wt 2 7 7 rfl z (ov_load sc9 rfl (fun _ hm => hm.1) rfl) ?_
  refine wt 4 7 23 rfl z (ov_field fo27_0 rfl rfl) ?_
  refine wt 5 7 55 rfl z (ov_load sc9 rfl (fun _ hm => hm.1) rfl) ?_
  refine wa1 3 rfl ?_
  refine wl_callgo (γ := Option Addr × Nat × Nat) (val := (fun g => .slice g.1 g.2.1 g.2.2)) (φ := (fun g => (pathN l (n) ke).length = g.2.1)) (fun g => ⟨.slice g.1 g.2.1 g.2.2, 9, 1, g.2.1, (pathN l (n) ke).flatMap sgEnc⟩) rfl cb51 rfl rfl (fun wx hm => (above_any l _ n c ke wx (hm.fact 0 rfl).1 hcl hix (by omega)).mono fun _ _ ⟨A2, n2, c2, he, ho, hl2, hg⟩ => ⟨(A2, n2, c2), he, hl2, ho, hg⟩) ?_
  rintro ⟨A2, n2, c2⟩ hpl
  dsimp only at hpl ⊢
  have hpb := pathN_len l (n) ke
  refine wl_nil ?_
  refine nw 7 63 (fun _ hm => ⟨hm.bl 0, hm.fa 0, trivial⟩) fun z => ?_
  refine wa1 6 rfl ?_
  refine wl_callv rfl cb67 rfl rfl (fun wx hm => (contains_str (pathN l (n) ke) A2 n2 c2 ke wx (SlT.ofOwn sg_len (hm.ownI 0 rfl) hpl) (by omega))) ?_
  refine wl_nil ?_
  refine nw 7 127 (fun _ hm => ⟨hm.bl 0, hm.fa 0, trivial⟩) fun z => ?_
  refine wa_done (by kernel_rfl) ?_
  refine nx_then ?_
  refine gw_cond rfl (fun hh => ?_) (fun hh => ?_)
  ·have h33 : (inK ke (pathN l (n) ke)) = true := by simpa using hh
   clear hh
   refine sr_ (sg_ rfl (nn_ ?_))
   refine gw_ret ?_
   refine nx_blk_ret (nx_then_ret (nx_then_ret (nx_blk_ret (nx_then_ret ?_))))
   refine nx_ret1 rfl rfl fun wx hm => ?_
   exact ⟨ret_int (by rw [hlo2, if_pos (by rw [hinv.2, hat, h33]; rfl)]), hm.g⟩
  have h33 : (inK ke (pathN l (n) ke)) = false := by simpa using hh
  clear hh
  refine gw_skip (nx_blk_nrm (nx_then (gw_region (ad_ rfl rfl (mv_ rfl (wl_nil ?_))))))
  exact nx_round (k3 + 1) ⟨by omega, by rw [hinv.2, hat, h33]; rfl⟩ (by omega) ⟨rfl, rfl, rfl, (some_int (by omega)), trivial⟩ (fun _ hm => hm.pick [] [] [0] rfl rfl)
 have hk : ¬ (((k3 : Nat) : Int) < ((n : Nat) : Int)) := by simpa using hh
 clear hh
 refine gw_exit ?_
 refine nx_then_exit (nx_then_exit ?_)
 refine nx_blk_here ?_
 refine nx_then (sr_ (sg_ rfl (nn_ ?_)))
 refine gw_ret ?_
 refine nx_ret1 rfl rfl fun wx hm => ?_
 exact ⟨ret_int (by rw [hlo2, if_neg (by rw [hinv.2, any_end (by omega)]; decide)]), hm.g⟩
theorem steps_any (l : List Cs) (A : Option Addr) (n c : Nat) (ka kb : ByteArray) (w : World) (hl : SlT csEnc 2 27 w A n l) (hcl : Closed l) (hix : 0 ≤ ixP (csP ka) l 0) (hn : n ≤ 1000000) :
  Calls Try.prog 26 #[.slice A n c, .string ka, .string kb] w (GotE w (stepsV l ka kb)) := by
 refine gw_enter ⟨20, w, none, []⟩ Try.func26 rfl Try.ntmps26 rfl (mem0 (X := [SlOld csEnc 2 27 w.heap.size none A n l]) (allF_cons hl.old allF_nil) (allL_cons SlOld.lasts allL_nil)) ?_
 refine sr_ ?_
 have hlen := hl.len
 refine sg_ rfl (nn_ (gw_seq (sr_ (mv_ rfl (mv_ rfl (wl_ov (ov_seql rfl rfl) rfl (nn_ ?_)))))))
 refine gw_cond rfl (fun hh => ?_) (fun hh => ?_)
 ·have h1 : (ka.toList == kb.toList) = true := by simpa using hh
  clear hh
  refine sr_ (sg_ rfl (nn_ ?_))
  refine gw_ret ?_
  refine nx_then_ret ?_
  refine nx_ret1 rfl rfl fun wx hm => ?_
  exact ⟨ret_int (by unfold stepsV; rw [if_pos (by simpa using h1)]), hm.g⟩
 have h1 : (ka.toList == kb.toList) = false := by simpa using hh
 clear hh
 refine gw_skip (nx_then (sr_ (mv_ rfl (mv_ rfl ?_))))
 refine wl_callgo (γ := Option Addr × Nat × Nat) (val := (fun g => .slice g.1 g.2.1 g.2.2)) (φ := (fun g => (pathN l n ka).length = g.2.1)) (fun g => ⟨.slice g.1 g.2.1 g.2.2, 9, 1, g.2.1, (pathN l n ka).flatMap sgEnc⟩) rfl cb51 rfl rfl (fun wx hm => (above_any l _ n c ka wx (hm.fact 0 rfl).1 hcl hix (by omega)).mono fun _ _ ⟨A2, n2, c2, he, ho, hl2, hg⟩ => ⟨(A2, n2, c2), he, hl2, ho, hg⟩) ?_
 rintro ⟨A2, n2, c2⟩ hpl
 dsimp only at hpl ⊢
 have hpb := pathN_len l n ka
 obtain ⟨IX, hIX⟩ : ∃ E, E = ixP (fun y => kb.toList == y.toList) (pathN l n ka) 0 := ⟨_, rfl⟩
 have hixb := ixP_bound (p := fun y => kb.toList == y.toList) (pathN l n ka)
 rw [← hIX] at hixb
 have hst : stepsV l ka kb = if IX < 0 then -1 else IX + 1 := by unfold stepsV; rw [if_neg (by simpa using h1), hlen, ← hIX]
 refine mv_ rfl ?_
 refine wl_callv (v := .int .i64 IX) rfl cb50 rfl rfl (fun wx hm => (by rw [hIX]; exact index_str (pathN l n ka) A2 n2 c2 kb wx (SlT.ofOwn sg_len (hm.ownI 0 rfl) hpl) (by omega))) ?_
 refine sg_ rfl (nn_ (gw_seq (sr_ (mv_ rfl (wl_ov (ov_lss rfl rfl) rfl (nn_ ?_))))))
 refine gw_cond rfl (fun hh => ?_) (fun hh => ?_)
 ·have h2 : IX < 0 := by simpa using hh
  clear hh
  refine sr_ (sg_ rfl ?_)
  refine wl_set 6 (v' := .int .i64 (-1)) rfl rfl ?_
  refine nn_ ?_
  refine gw_ret ?_
  refine nx_then_ret ?_
  refine nx_ret1 rfl rfl fun wx hm => ?_
  exact ⟨ret_int (by rw [hst, if_pos h2]), hm.g⟩
 have h2 : ¬ (IX < 0) := by simpa using hh
 clear hh
 refine gw_skip (nx_then (sr_ (mv_ rfl (ad_ rfl rfl (sg_ rfl (nn_ ?_))))))
 refine gw_ret ?_
 refine nx_ret1 rfl rfl fun wx hm => ?_
 exact ⟨ret_int (by rw [hst, if_neg h2]), hm.g⟩
end Go.Proofs.Ytodcildcipfmcaa
namespace Go.Proofs.Ytodcildcipfmcaa
open Go.RowKit
section
variable {P : Program} {nn : Nat} {S : List (Nat × Value)} {Z : World → Prop} {d : Nat} {ty : TypeId} {pos : String} {aft : Array Edge}
def kindTy (P : Program) (t : TypeId) : Option IntKind :=
  match P.underlying t with
  | some (.int k) => some k
  | _ => none
theorem kindTy_u {t : TypeId} {k : IntKind} (h : kindTy P t = some k) : P.underlying t = some (.int k) := by
  unfold kindTy at h
  cases hu : P.underlying t with
  | none => simp [hu] at h
  | some dd => cases dd <;> simp [hu] at h <;> simp [h]
theorem ov_u64 {s t : TypeId} {k : IntKind} {x : Operand} {a : Nat} (hs : kindTy P s = some .i64) (ht : kindTy P t = some .u64) (hx : rd S x = some (.int k (a : Int))) (ha : a ≤ 9223372036854775807) : OV P nn S Z ⟨some d, .convert s t x, ty, pos, aft, none⟩ (.int .u64 (a : Int)) := fun b w hb hm => by
  have h1 : IntKind.u64.wrap (a : Int) = (a : Int) := by rw [IntKind.wrap_u64]; omega
  have hk : P.intKind t = .u64 := by simp [Program.intKind, kindTy_u ht]
  have h2 := run_convert_int (P := P) w s t k (a : Int) (by rw [kindTy_u hs]; rfl) (by rw [hk]; exact kindTy_u ht)
  rw [hk, h1] at h2
  simp [execOp, hb.eval hx, h2]
theorem ov_i64 {s t : TypeId} {k : IntKind} {x : Operand} {a : Nat} (hs : (kindTy P s).isSome = true) (ht : kindTy P t = some .i64) (hx : rd S x = some (.int k (a : Int))) (ha : a ≤ 9223372036854775807) : OV P nn S Z ⟨some d, .convert s t x, ty, pos, aft, none⟩ (.int .i64 (a : Int)) := fun b w hb hm => by
  have h1 : IntKind.i64.wrap (a : Int) = (a : Int) := IntWalk.i64_in _ (by omega)
  have hk : P.intKind t = .i64 := by simp [Program.intKind, kindTy_u ht]
  obtain ⟨k', hk'⟩ := Option.isSome_iff_exists.1 hs
  have h2 := run_convert_int (P := P) w s t k (a : Int) (by rw [kindTy_u hk']; rfl) (by rw [hk]; exact kindTy_u ht)
  rw [hk, h1] at h2
  simp [execOp, hb.eval hx, h2]
theorem ov_shru1 {t t' : TypeId} {x y : Operand} {a : Nat} (hx : rd S x = some (.int .u64 (a : Int))) (hy : rd S y = some (.int .u64 1)) : OV P nn S Z ⟨some d, .binOp .shr t x y t', ty, pos, aft, none⟩ (.int .u64 ((a / 2 : Nat) : Int)) :=
  ov_bin hx hy (fun w => by simp [go_sem, IntKind.bits])
end
end Go.Proofs.Ytodcildcipfmcaa
namespace Go.Proofs.Ytodcildcipfmcaa
open Go.RowKit
theorem b_ne_self (a : ByteArray) : (!(a.toList == a.toList)) = false := by simp
theorem i_ne_self (a : Int) : (!decide (a = a)) = false := by simp
theorem nan_string (a : ByteArray) (w : World) : Calls Try.prog 72 #[.string a] w (fun e w' => e = .returned (.bool false) ∧ w.grownBy w' none) := by
 refine gw_enter ⟨6, w, none, []⟩ Try.func72 rfl Try.ntmps72 rfl (mem0 (X := []) allF_nil allL_nil) ?_
 refine sr_ (sg_ rfl (nn_ (sr_ (mv_ rfl (mv_ rfl (wl_ov (ov_sneq rfl rfl) rfl ?_))))))
 refine wl_set 5 (v' := .bool false) rfl (congrArg Value.bool (b_ne_self a)) ?_
 refine sg_ rfl (nn_ ?_)
 refine gw_ret ?_
 refine nx_ret1 rfl rfl fun wx hm => ?_
 exact ⟨rfl, hm.g⟩
theorem cmp_string (a b : ByteArray) (w : World) : Calls Try.prog 66 #[.string a, .string b] w (fun e w' => e = .returned (.int .i64 (cmpS a b)) ∧ w.grownBy w' none) := by
 refine gw_enter ⟨20, w, none, []⟩ Try.func66 rfl Try.ntmps66 rfl (mem0 (X := []) allF_nil allL_nil) ?_
 refine sr_ (sg_ rfl (nn_ (sr_ (mv_ rfl ?_))))
 refine wl_callv rfl cb72 rfl rfl (fun wx hm => (nan_string _ wx)) ?_
 refine sg_ rfl (nn_ (sr_ (mv_ rfl ?_)))
 refine wl_callv rfl cb72 rfl rfl (fun wx hm => (nan_string _ wx)) ?_
 refine sg_ rfl (nn_ (gw_seq (sr_ (mv_ rfl (nn_ (cf_ rfl (gw_skip (nx_then (gw_seq (gw_seq ?_))))))))))
 refine gw_region (mv_ rfl (nn_ (cf_ rfl (gw_skip (nx_then (gw_seq (sr_ (mv_ rfl (mv_ rfl ?_)))))))))
 refine wl_ov (ov_slss rfl rfl) rfl ?_
 refine nn_ ?_
 refine gw_cond rfl (fun hh => ?_) (fun hh => ?_)
 ·have h1 : (Op.bytesLess a.toList b.toList) = true := by simpa using hh
  clear hh
  refine sr_ (sg_ rfl ?_)
  refine wl_set 4 (v' := .int .i64 (-1)) rfl rfl ?_
  refine nn_ ?_
  refine gw_ret ?_
  refine nx_then_ret ?_
  refine nx_ret1 rfl rfl fun wx hm => ?_
  refine ⟨?_, hm.g⟩
  unfold cmpS; rw [if_pos h1]
 have h1 : (Op.bytesLess a.toList b.toList) = false := by simpa using hh
 clear hh
 refine gw_skip (nx_then (gw_seq (sr_ (mv_ rfl (mv_ rfl ?_)))))
 refine wl_ov (ov_sgtr rfl rfl) rfl ?_
 refine nn_ ?_
 refine gw_cond rfl (fun hh => ?_) (fun hh => ?_)
 ·have h2 : (Op.bytesLess a.toList b.toList || a.toList == b.toList) = false := by simpa only [Bool.not_eq_true', Bool.not_eq_false'] using hh
  clear hh
  refine sr_ (sg_ rfl (nn_ ?_))
  refine gw_ret ?_
  refine nx_then_ret ?_
  refine nx_ret1 rfl rfl fun wx hm => ?_
  refine ⟨?_, hm.g⟩
  unfold cmpS; rw [if_neg (by rw [h1]; decide), if_pos h2]
 have h2 : (Op.bytesLess a.toList b.toList || a.toList == b.toList) = true := by simpa only [Bool.not_eq_true', Bool.not_eq_false'] using hh
 clear hh
 refine gw_skip (nx_then (sr_ (sg_ rfl (nn_ ?_))))
 refine gw_ret ?_
 refine nx_ret1 rfl rfl fun wx hm => ?_
 refine ⟨?_, hm.g⟩
 unfold cmpS; rw [if_neg (by rw [h1]; decide), if_neg (by rw [h2]; decide)]
theorem nan_int (a : Int) (w : World) : Calls Try.prog 53 #[.int .i64 a] w (fun e w' => e = .returned (.bool false) ∧ w.grownBy w' none) := by
 refine gw_enter ⟨6, w, none, []⟩ Try.func53 rfl Try.ntmps53 rfl (mem0 (X := []) allF_nil allL_nil) ?_
 refine sr_ (sg_ rfl (nn_ (sr_ (mv_ rfl (mv_ rfl (wl_ov (ov_neq rfl rfl) rfl ?_))))))
 refine wl_set 5 (v' := .bool false) rfl (congrArg Value.bool (i_ne_self a)) ?_
 refine sg_ rfl (nn_ ?_)
 refine gw_ret ?_
 refine nx_ret1 rfl rfl fun wx hm => ?_
 exact ⟨rfl, hm.g⟩
theorem cmp_int (a b : Int) (w : World) : Calls Try.prog 29 #[.int .i64 a, .int .i64 b] w (fun e w' => e = .returned (.int .i64 (cmpI a b)) ∧ w.grownBy w' none) := by
 refine gw_enter ⟨20, w, none, []⟩ Try.func29 rfl Try.ntmps29 rfl (mem0 (X := []) allF_nil allL_nil) ?_
 refine sr_ (sg_ rfl (nn_ (sr_ (mv_ rfl ?_))))
 refine wl_callv rfl cb53 rfl rfl (fun wx hm => (nan_int _ wx)) ?_
 refine sg_ rfl (nn_ (sr_ (mv_ rfl ?_)))
 refine wl_callv rfl cb53 rfl rfl (fun wx hm => (nan_int _ wx)) ?_
 refine sg_ rfl (nn_ (gw_seq (sr_ (mv_ rfl (nn_ (cf_ rfl (gw_skip (nx_then (gw_seq (gw_seq ?_))))))))))
 refine gw_region (mv_ rfl (nn_ (cf_ rfl (gw_skip (nx_then (gw_seq (sr_ (mv_ rfl (mv_ rfl (wl_ov (ov_lss rfl rfl) rfl (wl_nil ?_)))))))))))
 refine nx_then ?_
 refine gw_cond rfl (fun hh => ?_) (fun hh => ?_)
 ·have h1 : a < b := by simpa using hh
  clear hh
  refine sr_ (sg_ rfl ?_)
  refine wl_set 4 (v' := .int .i64 (-1)) rfl rfl ?_
  refine nn_ ?_
  refine gw_ret ?_
  refine nx_then_ret ?_
  refine nx_ret1 rfl rfl fun wx hm => ?_
  refine ⟨?_, hm.g⟩
  unfold cmpI; rw [if_pos h1]
 have h1 : ¬ (a < b) := by simpa using hh
 clear hh
 refine gw_skip (nx_then (gw_seq (sr_ (mv_ rfl (mv_ rfl ?_)))))
 refine wl_ov (ov_gtr rfl rfl) rfl ?_
 refine nn_ ?_
 refine gw_cond rfl (fun hh => ?_) (fun hh => ?_)
 ·have h2 : b < a := by simpa using hh
  clear hh
  refine sr_ (sg_ rfl (nn_ ?_))
  refine gw_ret ?_
  refine nx_then_ret ?_
  refine nx_ret1 rfl rfl fun wx hm => ?_
  refine ⟨?_, hm.g⟩
  unfold cmpI; rw [if_neg h1, if_pos h2]
 have h2 : ¬ (b < a) := by simpa using hh
 clear hh
 refine gw_skip (nx_then (sr_ (sg_ rfl (nn_ ?_))))
 refine gw_ret ?_
 refine nx_ret1 rfl rfl fun wx hm => ?_
 refine ⟨?_, hm.g⟩
 unfold cmpI; rw [if_neg h1, if_neg h2]
theorem or_two (a b : Int) (g T c : Nat) (w : World) (h : Blk w g T [.int .i64 a, .int .i64 b]) : Calls Try.prog 65 #[.slice (some ⟨g, 0, none⟩) 2 c] w (fun e w' => e = .returned (.int .i64 (firstE [a, b])) ∧ w.grownBy w' none) := by
 refine gw_enter ⟨18, w, none, []⟩ Try.func65 rfl Try.ntmps65 rfl (mem0 (X := [BlkOld w.heap.size none g T [.int .i64 a, .int .i64 b] ]) (allF_cons h.old allF_nil) (allL_cons BlkOld.lasts allL_nil)) ?_
 refine sr_ (sg_ rfl (nn_ (sr_ (sg_ rfl (nn_ (gw_seq (sr_ (mv_ rfl ?_))))))))
 refine wl_ov (ov_len es22 rfl) rfl ?_
 refine wl_set 7 (v' := .int .i64 2) rfl rfl ?_
 refine mv_ rfl (nn_ (gw_block ?_))
 refine gw_rounds 3 ?_
 refine gr_next ?_
 refine sr_ (wl_ov (ov_lss rfl rfl) rfl ?_)
 refine wl_set 9 (v' := .bool true) rfl (congrArg Value.bool (by decide)) ?_
 refine nn_ (gw_seq (ct_ rfl (gw_skip (nx_then (gw_seq (gw_block (sr_ ?_)))))))
 refine wl_ov (ov_index (j := 0) es22 rfl rfl (by decide)) rfl ?_
 refine wl_ov (ov_load (v := .int .i64 a) sc3 rfl (fun _ hm => (hm.fact 0 rfl).2) rfl) rfl ?_
 refine sg_ rfl (nn_ (sr_ (mv_ rfl (mv_ rfl (wl_ov (ov_neq rfl rfl) rfl (nn_ ?_))))))
 refine gw_cond rfl (fun hh => ?_) (fun hh => ?_)
 ·have h1 : ¬ (a = 0) := by simpa using hh
  clear hh
  refine sr_ (mv_ rfl (sg_ rfl (nn_ ?_)))
  refine gw_ret ?_
  refine nx_blk_ret (nx_then_ret (nx_then_ret (nx_blk_ret (nx_then_ret ?_))))
  refine nx_ret1 rfl rfl fun wx hm => ?_
  refine ⟨?_, hm.g⟩
  rw [firstE_pair, if_neg h1]
 have h1 : a = 0 := by simpa using hh
 clear hh
 refine gw_skip (nx_blk_nrm (nx_then (gw_region (ad_ rfl rfl ?_))))
 refine wl_set 16 (v' := .int .i64 1) rfl rfl ?_
 refine mv_ rfl (wl_nil ?_)
 refine nx_next ?_
 refine gr_next ?_
 refine sr_ (wl_ov (ov_lss rfl rfl) rfl ?_)
 refine wl_set 9 (v' := .bool true) rfl (congrArg Value.bool (by decide)) ?_
 refine nn_ (gw_seq (ct_ rfl (gw_skip (nx_then (gw_seq (gw_block (sr_ ?_)))))))
 refine wl_ov (ov_index (j := 1) es22 rfl rfl (by decide)) rfl ?_
 refine wl_ov (ov_load (v := .int .i64 b) sc3 rfl (fun _ hm => (hm.fact 0 rfl).2) rfl) rfl ?_
 refine sg_ rfl (nn_ (sr_ (mv_ rfl (mv_ rfl (wl_ov (ov_neq rfl rfl) rfl (nn_ ?_))))))
 refine gw_cond rfl (fun hh => ?_) (fun hh => ?_)
 ·have h2 : ¬ (b = 0) := by simpa using hh
  clear hh
  refine sr_ (mv_ rfl (sg_ rfl (nn_ ?_)))
  refine gw_ret ?_
  refine nx_blk_ret (nx_then_ret (nx_then_ret (nx_blk_ret (nx_then_ret ?_))))
  refine nx_ret1 rfl rfl fun wx hm => ?_
  refine ⟨?_, hm.g⟩
  rw [firstE_pair, if_pos h1]
 have h2 : b = 0 := by simpa using hh
 clear hh
 refine gw_skip (nx_blk_nrm (nx_then (gw_region (ad_ rfl rfl ?_))))
 refine wl_set 16 (v' := .int .i64 2) rfl rfl ?_
 refine mv_ rfl (wl_nil ?_)
 refine nx_next ?_
 refine gr_next ?_
 refine sr_ (wl_ov (ov_lss rfl rfl) rfl ?_)
 refine wl_set 9 (v' := .bool false) rfl (congrArg Value.bool (by decide)) ?_
 refine nn_ (gw_seq (cf_ rfl ?_))
 refine gw_exit ?_
 refine nx_then_exit (nx_then_exit ?_)
 refine nx_blk_here ?_
 refine nx_then (sr_ (mv_ rfl (sg_ rfl (nn_ ?_))))
 refine gw_ret ?_
 refine nx_ret1 rfl rfl fun wx hm => ?_
 refine ⟨?_, hm.g⟩
 rw [firstE_pair, if_pos h1, h2]
end Go.Proofs.Ytodcildcipfmcaa
namespace Go.Proofs.Ytodcildcipfmcaa
open Go.RowKit
theorem vehCmp (vk vc k : ByteArray) (w : World) : Calls Try.prog 70 #[.agg #[.string vk, .string vc], .string k] w (fun e w' => e = .returned (.int .i64 (cmpS vk k)) ∧ w.grownBy w' none) := by
 refine gw_enter ⟨9, w, none, []⟩ Try.func70 rfl Try.ntmps70 rfl (mem0 (X := []) allF_nil allL_nil) ?_
 refine sr_ ?_
 refine wl_box rfl rfl rfl fun g1 => ?_
 refine sg_ rfl (nn_ (sr_ (fd_ fo46_0 rfl rfl (lk_ sc9 0 rfl rfl rfl (mv_ rfl ?_)))))
 refine wl_callv rfl cb66 rfl rfl (fun wx hm => (cmp_string _ _ wx)) ?_
 refine sg_ rfl (nn_ ?_)
 refine gw_ret ?_
 refine nx_ret1 rfl rfl fun wx hm => ?_
 exact ⟨rfl, hm.g⟩
theorem bsearch_any (vl : List Vh) (vA : Option Addr) (vn vc : Nat) (k : ByteArray) (w : World) (hv : SlT vhEnc 2 46 w vA vn vl) (hn : vn ≤ 1000000) (hr : Rise vl) :
  Calls Try.prog 69 #[.slice vA vn vc, .string k, .func (.func 70) #[] #[]] w (fun e w' => ∃ (i : Nat) (f : Bool), e = .returned (.tuple #[.int .i64 ((i : Nat) : Int), .bool f]) ∧ (f = true → ixP (vhP k) vl 0 = (i : Int)) ∧ (f = false → ixP (vhP k) vl 0 = -1) ∧ w.grownBy w' none) := by
 refine gw_enter ⟨49, w, none, []⟩ Try.func69 rfl Try.ntmps69 rfl (mem0 (X := [SlOld vhEnc 2 46 w.heap.size none vA vn vl]) (allF_cons hv.old allF_nil) (allL_cons SlOld.lasts allL_nil)) ?_
 refine sr_ ?_
 have hlen := hv.len
 refine sg_ rfl (sg_ rfl (nn_ (sr_ (mv_ rfl (wl_ov (ov_len es30 rfl) rfl (sg_ rfl (nn_ (sr_ (mv_ rfl ?_)))))))))
 refine sg_ rfl (sg_ rfl (nn_ (gw_seq (gw_block ?_))))
 refine gw_loop (γ := Nat × Nat) (fun g => (g.1 ≤ g.2 ∧ g.2 ≤ vn) ∧ Low vl k g.1 ∧ High vl k g.2) (fun g => [(0, .slice vA vn vc), (1, .string k), (2, .func (.func 70) #[] #[]), (6, .int .i64 0), (7, .bool false), (8, .int .i64 ((vn : Nat) : Int)), (9, .int .i64 ((g.1 : Nat) : Int)), (10, .int .i64 ((g.2 : Nat) : Int))]) (fun g => fun _ => True) (fun g => []) (fun g => []) (fun g => [SlOld vhEnc 2 46 w.heap.size none vA vn vl]) (fun g => g.2 - g.1) (0, vn) ⟨⟨Nat.zero_le _, Nat.le_refl _⟩, (fun i h => by omega), fun i h x hx => by have := (List.getElem?_eq_some_iff.1 hx).1; omega⟩ ⟨rfl, rfl, rfl, rfl, rfl, rfl, (some_int (by omega)), rfl, trivial⟩ (fun _ hm => hm.pick [] [] [0] rfl rfl) ?_
 rintro ⟨a, b⟩ hinv
 replace hinv : (a ≤ b ∧ b ≤ vn) ∧ Low vl k a ∧ High vl k b := hinv
 dsimp only
 refine gw_seq (sr_ ?_)
 obtain ⟨⟨hab, hbn⟩, hlow, hhigh⟩ := hinv
 refine mv_ rfl (mv_ rfl (wl_ov (ov_lss rfl rfl) rfl (nn_ ?_)))
 refine gw_cond rfl (fun hh => ?_) (fun hh => ?_)
 ·have hc : ((a : Nat) : Int) < ((b : Nat) : Int) := by simpa using hh
  clear hh
  refine gw_skip (nx_then (gw_block (sr_ ?_)))
  obtain ⟨h, hh⟩ : ∃ h, h = (a + b) / 2 := ⟨_, rfl⟩
  have hha : a ≤ h := by omega
  have hhb : h < b := by omega
  obtain ⟨x, hx⟩ : ∃ x, vl[h]? = some x := ⟨_, List.getElem?_eq_getElem (by omega)⟩
  obtain ⟨vk, vc2⟩ := x
  obtain ⟨bv, ov, hA, _, _⟩ := hv.get (by omega)
  subst hA
  refine mv_ rfl (mv_ rfl (ad_ rfl rfl ?_))
  refine wl_set 20 (v' := .int .i64 (((a + b) : Nat) : Int)) rfl (congrArg (Value.int .i64) (by omega)) ?_
  refine wl_ov (ov_u64 (a := (a + b)) (by kernel_rfl) (by kernel_rfl) rfl (by omega)) rfl ?_
  refine wl_ov (ov_shru1 (a := (a + b)) rfl rfl) rfl ?_
  refine wl_ov (ov_i64 (a := (a + b) / 2) (by kernel_rfl) (by kernel_rfl) rfl (by omega)) rfl ?_
  refine wl_set 23 (v' := .int .i64 ((h : Nat) : Int)) rfl (congrArg (Value.int .i64) (by omega)) ?_
  refine sg_ rfl (nn_ (sr_ (mv_ rfl (mv_ rfl (mv_ rfl ?_)))))
  refine wl_ov (ov_index (j := h) es30 rfl rfl (by omega)) rfl ?_
  refine wl_ov (ov_elem (vs := [.string vk, .string vc2]) rz46 rfl (fun _ hm => (hm.fact 0 rfl).1) hx rfl rfl) rfl ?_
  refine mv_ rfl ?_
  refine wl_callv rfl cb70 rfl rfl (fun wx hm => (vehCmp vk vc2 k wx)) ?_
  refine wl_ov (ov_lss rfl rfl) rfl (nn_ ?_)
  refine gw_cond rfl (fun hh => ?_) (fun hh => ?_)
  ·have hl : cmpS vk k < 0 := by simpa using hh
   clear hh
   refine gw_region (mv_ rfl (ad_ rfl rfl (sg_ rfl (wl_nil (nx_blk_nrm ?_)))))
   exact nx_round (h + 1, b) ⟨⟨by dsimp only; omega, hbn⟩, low_next hr hx hl, hhigh⟩ (by dsimp only; omega) ⟨rfl, rfl, rfl, rfl, rfl, rfl, (some_int (by omega)), rfl, trivial⟩ (fun _ hm => hm.pick [] [] [0] rfl rfl)
  have hl : ¬ (cmpS vk k < 0) := by simpa using hh
  clear hh
  refine gw_region (mv_ rfl (sg_ rfl (wl_nil (nx_blk_nrm ?_))))
  exact nx_round (a, h) ⟨⟨by dsimp only; omega, by dsimp only; omega⟩, hlow, high_next hr hx hl⟩ (by dsimp only; omega) ⟨rfl, rfl, rfl, rfl, rfl, rfl, rfl, (some_int (by omega)), trivial⟩ (fun _ hm => hm.pick [] [] [0] rfl rfl)
 have hc : ¬ (((a : Nat) : Int) < ((b : Nat) : Int)) := by simpa using hh
 clear hh
 refine gw_exit ?_
 refine nx_then_exit (nx_then_exit ?_)
 refine nx_blk_here ?_
 refine nx_then (sr_ ?_)
 obtain rfl : b = a := by omega
 by_cases hbv : b < vn
 ·obtain ⟨x, hx⟩ : ∃ x, vl[b]? = some x := ⟨_, List.getElem?_eq_getElem (by omega)⟩
  obtain ⟨vk, vc2⟩ := x
  obtain ⟨bv, ov, hA, _, _⟩ := hv.get (by omega)
  subst hA
  refine mv_ rfl (mv_ rfl (mv_ rfl (wl_ov (ov_lss rfl rfl) rfl ?_)))
  refine wl_set 38 (v' := .bool true) rfl (congrArg Value.bool (decide_eq_true (by omega))) ?_
  refine mv_ rfl (wl_guard_on rfl rfl rfl (mv_ rfl (wl_guard_on rfl rfl rfl (mv_ rfl (wl_guard_on rfl rfl rfl (mv_ rfl (wl_guard_on rfl rfl rfl ?_)))))))
  refine wl_ov (ov_index (j := b) es30 rfl rfl (by omega)) rfl ?_
  refine wl_guard_on rfl rfl rfl ?_
  refine wl_ov (ov_elem (vs := [.string vk, .string vc2]) rz46 rfl (fun _ hm => (hm.fact 0 rfl).1) hx rfl rfl) rfl ?_
  refine wl_guard_on rfl rfl rfl (mv_ rfl (wl_guard_on rfl rfl rfl ?_))
  refine wl_callv rfl cb70 rfl rfl (fun wx hm => (vehCmp vk vc2 k wx)) ?_
  refine wl_guard_on rfl rfl rfl (wl_ov (ov_eql rfl rfl) rfl (pt_ rfl rfl (sg_ rfl (sg_ rfl (nn_ ?_)))))
  refine gw_ret ?_
  refine nx_ret2 rfl rfl rfl fun wx hm => ?_
  exact ⟨_, _, rfl, fun h => bs_yes hlow hx (of_decide_eq_true h), fun h => bs_no hr hlow hhigh (fun y hy => by rw [hx] at hy; cases hy; exact of_decide_eq_false h), hm.g⟩
 refine mv_ rfl (mv_ rfl (mv_ rfl (wl_ov (ov_lss rfl rfl) rfl ?_)))
 refine wl_set 38 (v' := .bool false) rfl (congrArg Value.bool (decide_eq_false (by omega))) ?_
 refine mv_ rfl (goff rfl rfl rfl (goff rfl rfl rfl (goff rfl rfl rfl (goff rfl rfl rfl (goff rfl rfl rfl (goff rfl rfl rfl (goff rfl rfl rfl (goff rfl rfl rfl (pf_ rfl rfl (sg_ rfl (sg_ rfl (nn_ ?_))))))))))))
 refine gw_ret ?_
 refine nx_ret2 rfl rfl rfl fun wx hm => ?_
 exact ⟨_, _, rfl, (fun h => by cases h), fun _ => bs_no hr hlow hhigh (fun y hy => by have := (List.getElem?_eq_some_iff.1 hy).1; omega), hm.g⟩
theorem vehicleAt_any (vl : List Vh) (sA cA vA pA : Option Addr) (sn sc cn cc vn vc pn pc : Nat) (k : ByteArray) (w : World) (hv : SlT vhEnc 2 46 w vA vn vl) (hn : vn ≤ 1000000) (hr : Rise vl) :
  Calls Try.prog 60 #[.agg #[.slice sA sn sc, .slice cA cn cc, .slice vA vn vc, .slice pA pn pc], .string k] w (GotE w (ixP (vhP k) vl 0)) := by
 refine gw_enter ⟨17, w, none, []⟩ Try.func60 rfl Try.ntmps60 rfl (mem0 (X := [SlOld vhEnc 2 46 w.heap.size none vA vn vl]) (allF_cons hv.old allF_nil) (allL_cons SlOld.lasts allL_nil)) ?_
 refine sr_ ?_
 refine wl_box rfl rfl rfl fun g1 => ?_
 refine sg_ rfl (nn_ (sr_ (fd_ fo33_2 rfl rfl (lk_ sc30 0 rfl rfl rfl (mv_ rfl ?_)))))
 refine wl_callx (γ := Nat × Bool) (val := (fun g => .tuple #[.int .i64 ((g.1 : Nat) : Int), .bool g.2])) (φ := (fun g => (g.2 = true → ixP (vhP k) vl 0 = (g.1 : Int)) ∧ (g.2 = false → ixP (vhP k) vl 0 = -1))) (Y := (fun g => fun _ => True)) rfl cb69 rfl rfl (fun wx hm => (bsearch_any vl vA vn vc k wx (hm.fact 0 rfl).1 hn hr).mono fun _ _ ⟨i, f, he, h1, h2, hg⟩ => ⟨(i, f), he, ⟨h1, h2⟩, hg, trivial⟩) (fun _ => Lasts2.true_) ?_
 rintro ⟨i, f⟩ hif
 dsimp only at hif ⊢
 refine mv_ rfl (wl_ov (ov_extract rfl rfl) rfl (wl_ov (ov_extract rfl rfl) rfl (sg_ rfl (sg_ rfl (nn_ (gw_seq (sr_ (mv_ rfl (wl_ov (ov_un_not rfl) rfl (nn_ ?_))))))))))
 refine gw_cond rfl (fun hh => ?_) (fun hh => ?_)
 ·have hf : f = false := by simpa using hh
  clear hh
  refine sr_ (sg_ rfl ?_)
  refine wl_set 4 (v' := .int .i64 (-1)) rfl rfl ?_
  refine nn_ ?_
  refine gw_ret ?_
  refine nx_then_ret ?_
  refine nx_ret1 rfl rfl fun wx hm => ?_
  exact ⟨ret_int (by rw [hif.2 hf]), hm.g⟩
 have hf : f = true := by simpa using hh
 clear hh
 refine gw_skip (nx_then (sr_ (mv_ rfl (sg_ rfl (nn_ ?_)))))
 refine gw_ret ?_
 refine nx_ret1 rfl rfl fun wx hm => ?_
 exact ⟨ret_int (by rw [hif.1 hf]), hm.g⟩
end Go.Proofs.Ytodcildcipfmcaa
namespace Go.Proofs.Ytodcildcipfmcaa
open Go.RowKit
theorem ord_le {a b : Pl} (h : ¬ 0 ≤ plOrd a b) : a.fr ≤ b.fr := by
  refine Classical.byContradiction fun hn => h ?_
  unfold plOrd cmpI
  rw [if_neg (by omega), if_pos (by omega)]
  simp [firstE]
def PSort (l : List Pl) : Prop := l.Pairwise fun q r => q.fr ≤ r.fr
theorem psort_snoc {l : List Pl} {p : Pl} (h : PSort l) (hl : ∀ q, l.getLast? = some q → q.fr ≤ p.fr) : PSort (l ++ [p]) := by
  unfold PSort at *
  rw [List.pairwise_append]
  refine ⟨h, List.pairwise_singleton _ _, fun q hq r hr => ?_⟩
  rw [List.mem_singleton.1 hr]
  cases hg : l.getLast? with
  | none =>
    rw [List.getLast?_eq_none_iff.1 hg] at hq; cases hq
  | some z =>
    have hz := hl z hg
    rcases List.getLast?_eq_some_iff.1 hg with ⟨ys, rfl⟩
    rw [List.pairwise_append] at h
    rcases List.mem_append.1 hq with h1 | h1
    · have := h.2.2 q h1 z (by simp); omega
    · rw [List.mem_singleton.1 h1]; exact hz
theorem psort_at {l : List Pl} (h : PSort l) {i j : Nat} {x y : Pl} (hij : i ≤ j) (hx : l[i]? = some x) (hy : l[j]? = some y) : x.fr ≤ y.fr := by
  rcases Nat.eq_or_lt_of_le hij with rfl | h1
  · rw [hx] at hy; cases hy; exact Int.le_refl _
  · obtain ⟨hi, rfl⟩ := List.getElem?_eq_some_iff.1 hx
    obtain ⟨hj, rfl⟩ := List.getElem?_eq_some_iff.1 hy
    exact List.pairwise_iff_getElem.1 h i j hi hj h1
theorem plG_at {vs : List Vh} {l : List Pl} {i : Nat} {p : Pl} (h : l[i]? = some p) : plG vs (l.take i) (l.drop i) = if plE vs (l.take i) p = 0 then plG vs (l.take (i + 1)) (l.drop (i + 1)) else plE vs (l.take i) p := by
  obtain ⟨hi, rfl⟩ := List.getElem?_eq_some_iff.1 h
  rw [List.drop_eq_getElem_cons hi, List.take_succ_eq_append_getElem hi]
  rfl
theorem last_take {l : List Pl} {i : Nat} (hi : i ≤ l.length) : (l.take i).getLast? = if i = 0 then none else l[i - 1]? := by
  rw [List.getLast?_eq_getElem?, List.length_take, Nat.min_eq_left hi]
  by_cases h : i = 0
  · subst h; simp
  · rw [if_neg h, List.getElem?_take, if_pos (by omega)]
theorem plE_one {vs : List Vh} {pre : List Pl} {p : Pl} (h1 : inB p.fr 0 5761439 = false) : plE vs pre p = 1 := by unfold plE; rw [h1]; rfl
theorem plE_two {vs : List Vh} {pre : List Pl} {p : Pl} (h1 : inB p.fr 0 5761439 = true) (h2 : ixP (vhP p.veh) vs 0 < 0) : plE vs pre p = 8 := by unfold plE; rw [h1, if_neg (by decide), if_pos h2]
theorem plE_three {vs : List Vh} {pre : List Pl} {p : Pl} (h1 : inB p.fr 0 5761439 = true) (h2 : ¬ ixP (vhP p.veh) vs 0 < 0) (h3 : plateB p.plate = false) : plE vs pre p = 3 := by unfold plE; rw [h1, if_neg (by decide), if_neg h2, h3]; rfl
def plO (pre : List Pl) (p : Pl) : Bool := match pre.getLast? with | none => false | some q => decide (0 ≤ plOrd q p)
theorem plE_four {vs : List Vh} {pre : List Pl} {p : Pl} (h1 : inB p.fr 0 5761439 = true) (h2 : ¬ ixP (vhP p.veh) vs 0 < 0) (h3 : plateB p.plate = true) : plE vs pre p = if plO pre p = true then 7 else if pre.any (plTwin p) = true then 6 else 0 := by
  unfold plE
  rw [h1, if_neg (by decide), if_neg h2, h3, if_neg (by decide)]; rfl
theorem plO_zero {l : List Pl} {p : Pl} : plO (l.take 0) p = false := rfl
theorem plO_pos {l : List Pl} {i : Nat} {p q : Pl} (hi : i < l.length) (h0 : ¬ i = 0) (hq : l[i - 1]? = some q) : plO (l.take i) p = decide (0 ≤ plOrd q p) := by
  unfold plO
  rw [last_take (by omega), if_neg h0, hq]
theorem twin_none {l : List Pl} {i j : Nat} {p : Pl} (hs : PSort (l.take i)) (hi : i ≤ l.length) (hj : j ≤ i) (hlast : ∀ q, l[i - 1]? = some q → ¬ i = 0 → q.fr ≤ p.fr) (hno : ∀ t, j ≤ t → t < i → ∀ x, l[t]? = some x → plTwin p x = false) (hend : j = 0 ∨ ∃ x, l[j - 1]? = some x ∧ x.fr ≠ p.fr) : (l.take i).any (plTwin p) = false := by
  rw [List.any_eq_false]
  intro x hx
  obtain ⟨t, ht⟩ := List.getElem?_of_mem hx
  have hti : t < i := by
    have := (List.getElem?_eq_some_iff.1 ht).1
    rw [List.length_take] at this; omega
  have hlt : l[t]? = some x := by rw [List.getElem?_take, if_pos hti] at ht; exact ht
  rcases Nat.lt_or_ge t j with h1 | h1
  · rcases hend with rfl | ⟨y, hy, hne⟩
    · omega
    · have hyt : (l.take i)[j - 1]? = some y := by rw [List.getElem?_take, if_pos (by omega)]; exact hy
      have h2 := psort_at hs (show t ≤ j - 1 by omega) ht hyt
      obtain ⟨z, hz⟩ : ∃ z, l[i - 1]? = some z := ⟨_, List.getElem?_eq_getElem (by omega)⟩
      have hzt : (l.take i)[i - 1]? = some z := by rw [List.getElem?_take, if_pos (by omega)]; exact hz
      have h3 := psort_at hs (show j - 1 ≤ i - 1 by omega) hyt hzt
      have h4 := hlast z hz (by omega)
      have h5 : ¬ x.fr = p.fr := by omega
      unfold plTwin
      rw [decide_eq_false h5]; simp
  · rw [hno t h1 hti x hlt]; decide
theorem or_three (g : Nat) (a b c : Int) (w : World) (h : Blk w g 3 [.int .i64 a, .int .i64 b, .int .i64 c]) :
  Calls Try.prog 65 #[.slice (some ⟨g, 0, none⟩) 3 3] w (GotE w (firstE [a, b, c])) := by
 refine gw_enter ⟨18, w, none, []⟩ Try.func65 rfl Try.ntmps65 rfl (mem0 (X := [BlkOld w.heap.size none g 3 [.int .i64 a, .int .i64 b, .int .i64 c]]) (allF_cons h.old allF_nil) (allL_cons BlkOld.lasts allL_nil)) ?_
 refine sr_ (sg_ rfl (nn_ (sr_ (sg_ rfl (nn_ (gw_seq (sr_ (mv_ rfl ?_))))))))
 refine wl_ov (ov_len es22 rfl) rfl ?_
 refine wl_set 7 (v' := .int .i64 3) rfl rfl ?_
 refine mv_ rfl (nn_ (gw_block ?_))
 refine gw_rounds 4 ?_
 refine gr_next ?_
 refine sr_ (wl_ov (ov_lss rfl rfl) rfl ?_)
 refine wl_set 9 (v' := .bool true) rfl (congrArg Value.bool (by decide)) ?_
 refine nn_ (gw_seq (ct_ rfl (gw_skip (nx_then (gw_seq (gw_block (sr_ ?_)))))))
 refine wl_ov (ov_index (j := 0) es22 rfl rfl (by decide)) rfl ?_
 refine wl_ov (ov_load (v := .int .i64 a) sc3 rfl (fun _ hm => (hm.fact 0 rfl).2) rfl) rfl ?_
 refine sg_ rfl (nn_ (sr_ (mv_ rfl (mv_ rfl (wl_ov (ov_neq rfl rfl) rfl (nn_ ?_))))))
 refine gw_cond rfl (fun hh => ?_) (fun hh => ?_)
 ·have h1 : ¬ (a = 0) := by simpa using hh
  clear hh
  refine sr_ (mv_ rfl (sg_ rfl (nn_ ?_)))
  refine gw_ret ?_
  refine nx_blk_ret (nx_then_ret (nx_then_ret (nx_blk_ret (nx_then_ret ?_))))
  refine nx_ret1 rfl rfl fun wx hm => ?_
  exact ⟨ret_int (by simp [firstE, h1]), hm.g⟩
 have h1 : a = 0 := by simpa using hh
 clear hh
 refine gw_skip (nx_blk_nrm (nx_then (gw_region (ad_ rfl rfl ?_))))
 refine wl_set 16 (v' := .int .i64 1) rfl rfl ?_
 refine mv_ rfl (wl_nil ?_)
 refine nx_next ?_
 refine gr_next ?_
 refine sr_ (wl_ov (ov_lss rfl rfl) rfl ?_)
 refine wl_set 9 (v' := .bool true) rfl (congrArg Value.bool (by decide)) ?_
 refine nn_ (gw_seq (ct_ rfl (gw_skip (nx_then (gw_seq (gw_block (sr_ ?_)))))))
 refine wl_ov (ov_index (j := 1) es22 rfl rfl (by decide)) rfl ?_
 refine wl_ov (ov_load (v := .int .i64 b) sc3 rfl (fun _ hm => (hm.fact 0 rfl).2) rfl) rfl ?_
 refine sg_ rfl (nn_ (sr_ (mv_ rfl (mv_ rfl (wl_ov (ov_neq rfl rfl) rfl (nn_ ?_))))))
 refine gw_cond rfl (fun hh => ?_) (fun hh => ?_)
 ·have h2 : ¬ (b = 0) := by simpa using hh
  clear hh
  refine sr_ (mv_ rfl (sg_ rfl (nn_ ?_)))
  refine gw_ret ?_
  refine nx_blk_ret (nx_then_ret (nx_then_ret (nx_blk_ret (nx_then_ret ?_))))
  refine nx_ret1 rfl rfl fun wx hm => ?_
  exact ⟨ret_int (by simp [firstE, h1, h2]), hm.g⟩
 have h2 : b = 0 := by simpa using hh
 clear hh
 refine gw_skip (nx_blk_nrm (nx_then (gw_region (ad_ rfl rfl ?_))))
 refine wl_set 16 (v' := .int .i64 2) rfl rfl ?_
 refine mv_ rfl (wl_nil ?_)
 refine nx_next ?_
 refine gr_next ?_
 refine sr_ (wl_ov (ov_lss rfl rfl) rfl ?_)
 refine wl_set 9 (v' := .bool true) rfl (congrArg Value.bool (by decide)) ?_
 refine nn_ (gw_seq (ct_ rfl (gw_skip (nx_then (gw_seq (gw_block (sr_ ?_)))))))
 refine wl_ov (ov_index (j := 2) es22 rfl rfl (by decide)) rfl ?_
 refine wl_ov (ov_load (v := .int .i64 c) sc3 rfl (fun _ hm => (hm.fact 0 rfl).2) rfl) rfl ?_
 refine sg_ rfl (nn_ (sr_ (mv_ rfl (mv_ rfl (wl_ov (ov_neq rfl rfl) rfl (nn_ ?_))))))
 refine gw_cond rfl (fun hh => ?_) (fun hh => ?_)
 ·have h3 : ¬ (c = 0) := by simpa using hh
  clear hh
  refine sr_ (mv_ rfl (sg_ rfl (nn_ ?_)))
  refine gw_ret ?_
  refine nx_blk_ret (nx_then_ret (nx_then_ret (nx_blk_ret (nx_then_ret ?_))))
  refine nx_ret1 rfl rfl fun wx hm => ?_
  exact ⟨ret_int (by simp [firstE, h1, h2, h3]), hm.g⟩
 have h3 : c = 0 := by simpa using hh
 clear hh
 refine gw_skip (nx_blk_nrm (nx_then (gw_region (ad_ rfl rfl ?_))))
 refine wl_set 16 (v' := .int .i64 3) rfl rfl ?_
 refine mv_ rfl (wl_nil ?_)
 refine nx_next ?_
 refine gr_next ?_
 refine sr_ (wl_ov (ov_lss rfl rfl) rfl ?_)
 refine wl_set 9 (v' := .bool false) rfl (congrArg Value.bool (by decide)) ?_
 refine nn_ (gw_seq (cf_ rfl ?_))
 refine gw_exit ?_
 refine nx_then_exit (nx_then_exit ?_)
 refine nx_blk_here ?_
 refine nx_then (sr_ (mv_ rfl (sg_ rfl (nn_ ?_))))
 refine gw_ret ?_
 refine nx_ret1 rfl rfl fun wx hm => ?_
 exact ⟨ret_int (by simp [firstE, h1, h2, h3]), hm.g⟩
end Go.Proofs.Ytodcildcipfmcaa
namespace Go.Proofs.Ytodcildcipfmcaa
open Go.RowKit
theorem ord_last {l : List Pl} {i : Nat} {p : Pl} (hi : i < l.length) (hO : plO (l.take i) p = false) : ∀ q, l[i - 1]? = some q → ¬ i = 0 → q.fr ≤ p.fr := fun q hq h0 => by
  rw [plO_pos hi h0 hq] at hO
  exact ord_le (of_decide_eq_false hO)
theorem psort_next {l : List Pl} {i : Nat} {p : Pl} (hs : PSort (l.take i)) (hp : l[i]? = some p) (hO : plO (l.take i) p = false) : PSort (l.take (i + 1)) := by
  have hi := (List.getElem?_eq_some_iff.1 hp).1
  rw [List.take_add_one, hp]
  refine psort_snoc hs fun q hq => ?_
  rw [last_take (by omega)] at hq
  split at hq
  · cases hq
  · rename_i h0
    exact ord_last hi hO q hq h0
theorem plates_end {vs : List Vh} {l : List Pl} {i : Nat} (h : l.length ≤ i) (hh : platesE vs l = plG vs (l.take i) (l.drop i)) : platesE vs l = 0 := by
  rw [hh, List.drop_eq_nil_of_le h]; rfl
theorem checkPlates_any (vl : List Vh) (pl : List Pl) (sA cA vA pA : Option Addr) (sn sc cn cc vn vc pn pc : Nat) (w : World) (hv : SlT vhEnc 2 46 w vA vn vl) (hp : SlT plEnc 3 139 w pA pn pl) (hvn : vn ≤ 1000000) (hpn : pn ≤ 1000000) (hr : Rise vl) (hpok : ∀ x ∈ pl, PlOk x) :
  Calls Try.prog 59 #[.agg #[.slice sA sn sc, .slice cA cn cc, .slice vA vn vc, .slice pA pn pc]] w (GotE w (platesE vl pl)) := by
 refine gw_enter ⟨97, w, none, []⟩ Try.func59 rfl Try.ntmps59 rfl (mem0 (X := [SlOld vhEnc 2 46 w.heap.size none vA vn vl, SlOld plEnc 3 139 w.heap.size none pA pn pl]) (allF_cons hv.old (allF_cons hp.old allF_nil)) (allL_cons SlOld.lasts (allL_cons SlOld.lasts allL_nil))) ?_
 refine sr_ ?_
 have hlen := hp.len
 refine wl_box rfl rfl rfl fun g1 => ?_
 refine sg_ rfl (nn_ (gw_seq (sr_ (fd_ fo33_3 rfl rfl (lk_ sc31 0 rfl rfl rfl (wl_ov (ov_len es31 rfl) rfl ?_))))))
 refine wl_ov (ov_gtr rfl rfl) rfl ?_
 refine nn_ ?_
 refine gw_cond rfl (fun hh => ?_) (fun hh => ?_)
 ·have h1 : 1000 < ((pn : Nat) : Int) := by simpa using hh
  clear hh
  refine sr_ (sg_ rfl (nn_ ?_))
  refine gw_ret ?_
  refine nx_then_ret ?_
  refine nx_ret1 rfl rfl fun wx hm => ?_
  exact ⟨ret_int (by unfold platesE; rw [if_pos (by omega)]), hm.g⟩
 have h1 : ¬ (1000 < ((pn : Nat) : Int)) := by simpa using hh
 clear hh
 refine gw_skip (nx_then (gw_seq (sr_ (fd_ fo33_3 rfl rfl (lk_ sc31 0 rfl rfl rfl (wl_ov (ov_len es31 rfl) rfl (mv_ rfl (nn_ (gw_block ?_)))))))))
 refine gw_loop (γ := Nat) (fun (i : Nat) => i ≤ pn ∧ platesE vl pl = plG vl (pl.take i) (pl.drop i) ∧ PSort (pl.take i)) (fun (i : Nat) => [(1, .pointer (some ⟨g1, 0, none⟩)), (13, .slice pA pn pc), (14, .int .i64 ((pn : Nat) : Int)), (15, .int .i64 ((i : Nat) : Int))]) (fun (i : Nat) => fun _ => True) (fun (i : Nat) => [(g1, 33, [.slice sA sn sc, .slice cA cn cc, .slice vA vn vc, .slice pA pn pc])]) (fun (i : Nat) => []) (fun (i : Nat) => [SlOld vhEnc 2 46 w.heap.size none vA vn vl, SlOld plEnc 3 139 w.heap.size none pA pn pl]) (fun (i : Nat) => pn - i) 0 ⟨Nat.zero_le _, by unfold platesE; rw [if_neg (by omega)]; rfl, List.Pairwise.nil⟩ ⟨rfl, rfl, rfl, rfl, trivial⟩ (fun _ hm => hm.pick [0] [] [0, 1] rfl rfl) ?_
 intro i hinv
 replace hinv : i ≤ pn ∧ platesE vl pl = plG vl (pl.take i) (pl.drop i) ∧ PSort (pl.take i) := hinv
 refine sr_ ?_
 obtain ⟨hi0, hpe, hps⟩ := hinv
 refine wl_ov (ov_lss rfl rfl) rfl (nn_ (gw_seq ?_))
 refine gw_cond rfl (fun hh => ?_) (fun hh => ?_)
 ·have hi : ((i : Nat) : Int) < ((pn : Nat) : Int) := by simpa using hh
  clear hh
  refine gw_skip (nx_then (gw_seq (gw_block (sr_ ?_))))
  obtain ⟨bp, op, hA, _, _⟩ := hp.get (by omega)
  subst hA
  obtain ⟨x, hx⟩ : ∃ x, pl[i]? = some x := ⟨_, List.getElem?_eq_getElem (by omega)⟩
  obtain ⟨pf, pv, pp⟩ := x
  have hat := plG_at (vs := vl) hx
  obtain ⟨hpf, hpv, hpp⟩ := hpok _ (List.mem_of_getElem? hx)
  have hpv : pv.size ≤ 1000000 := hpv
  have hpp : pp.size ≤ 1000000 := hpp
  have hil : i < pl.length := by omega
  refine mv_ rfl ?_
  refine wl_ov (ov_index (j := i) es31 rfl rfl (by omega)) rfl ?_
  refine wl_ov (ov_elem (vs := [.int .i64 pf, .string pv, .string pp]) rz139 rfl (fun _ hm => (hm.fact 1 rfl).1) hx rfl rfl) rfl ?_
  refine wl_alloc zc139 rfl fun g2 => ?_
  refine sg_ rfl ?_
  refine wl_stores (cs' := [.int .i64 pf, .string pv, .string pp]) 0 rz139 rfl rfl rfl rfl rfl rfl rfl rfl ?_
  refine nn_ (gw_seq (gw_block (sr_ (fd_ fo139_0 rfl rfl (lk_ sc3 0 rfl rfl rfl ?_)))))
  refine wl_callv rfl cb48 rfl rfl (fun wx hm => ((isMoment_any _ wx).mono fun _ _ ⟨he, hw⟩ => ⟨he, hw ▸ World.grownBy.refl _ _⟩)) ?_
  refine wl_ov (ov_un_not rfl) rfl (sg_ rfl (nn_ ?_))
  refine gw_cond rfl (fun hh => ?_) (fun hh => ?_)
  ·have h2 : (inB pf 0 5761439) = false := by simpa using hh
   clear hh
   refine sr_ (sg_ rfl (nn_ ?_))
   refine gw_ret ?_
   refine nx_blk_ret (nx_then_ret (nx_blk_ret (nx_then_ret (nx_then_ret (nx_blk_ret (nx_then_ret ?_))))))
   have hE : plE vl (pl.take i) ⟨pf, pv, pp⟩ = 1 := plE_one (by simpa using h2)
   refine nx_ret1 rfl rfl fun wx hm => ?_
   exact ⟨ret_int (by rw [hpe, hat, if_neg (by rw [hE]; decide), hE]), hm.g⟩
  have h2 : (inB pf 0 5761439) = true := by simpa using hh
  clear hh
  refine sr_ ?_
  refine wl_ov (ov_loads rz33 rfl (fun _ hm => hm.blkI 1 rfl) rfl rfl) rfl ?_
  refine fd_ fo139_1 rfl rfl (lk_ sc9 0 rfl rfl rfl ?_)
  refine wl_callv rfl cb60 rfl rfl (fun wx hm => (vehicleAt_any vl sA cA vA (some ⟨bp, op, none⟩) sn sc cn cc vn vc pn pc pv wx (hm.fact 0 rfl).1 hvn hr)) ?_
  refine wl_ov (ov_lss rfl rfl) rfl (sg_ rfl (nn_ ?_))
  refine gw_cond rfl (fun hh => ?_) (fun hh => ?_)
  ·have h3 : ixP (vhP pv) vl 0 < 0 := by simpa using hh
   clear hh
   refine sr_ (sg_ rfl (nn_ ?_))
   refine gw_ret ?_
   refine nx_blk_ret (nx_then_ret (nx_blk_ret (nx_then_ret (nx_then_ret (nx_blk_ret (nx_then_ret ?_))))))
   have hE : plE vl (pl.take i) ⟨pf, pv, pp⟩ = 8 := plE_two (by simpa using h2) h3
   refine nx_ret1 rfl rfl fun wx hm => ?_
   exact ⟨ret_int (by rw [hpe, hat, if_neg (by rw [hE]; decide), hE]), hm.g⟩
  have h3 : ¬ (ixP (vhP pv) vl 0 < 0) := by simpa using hh
  clear hh
  refine sr_ (fd_ fo139_2 rfl rfl (lk_ sc9 0 rfl rfl rfl ?_))
  refine wl_callv rfl cb68 rfl rfl (fun wx hm => ((isPlate_any pp wx (by omega)).mono fun _ _ ⟨he, hw⟩ => ⟨he, hw ▸ World.grownBy.refl _ _⟩)) ?_
  refine wl_ov (ov_un_not rfl) rfl (sg_ rfl (nn_ ?_))
  refine gw_cond rfl (fun hh => ?_) (fun hh => ?_)
  ·have h4 : (plateB pp) = false := by simpa using hh
   clear hh
   refine sr_ (sg_ rfl (nn_ ?_))
   refine gw_ret ?_
   refine nx_blk_ret (nx_then_ret (nx_blk_ret (nx_then_ret (nx_then_ret (nx_blk_ret (nx_then_ret ?_))))))
   have hE : plE vl (pl.take i) ⟨pf, pv, pp⟩ = 3 := plE_three (by simpa using h2) h3 (by simpa using h4)
   refine nx_ret1 rfl rfl fun wx hm => ?_
   exact ⟨ret_int (by rw [hpe, hat, if_neg (by rw [hE]; decide), hE]), hm.g⟩
  have h4 : (plateB pp) = true := by simpa using hh
  clear hh
  refine gw_skip (nx_blk_nrm (nx_then ?_))
  have hfour := plE_four (vs := vl) (pre := pl.take i) (p := ⟨pf, pv, pp⟩) (by simpa using h2) h3 (by simpa using h4)
  refine gw_cut (γ := Unit) (I := (fun (uu : Unit) => plO (pl.take i) ⟨pf, pv, pp⟩ = false)) (S' := (fun (uu : Unit) => [(1, .pointer (some ⟨g1, 0, none⟩)), (3, .int .i64 ((i : Nat) : Int)), (4, .pointer (some ⟨g2, 0, none⟩)), (13, .slice (some ⟨bp, op, none⟩) pn pc), (14, .int .i64 ((pn : Nat) : Int)), (15, .int .i64 ((i : Nat) : Int))])) (K' := (fun (uu : Unit) => fun _ => True)) (L' := (fun (uu : Unit) => [(g2, 139, [.int .i64 pf, .string pv, .string pp]), (g1, 33, [.slice sA sn sc, .slice cA cn cc, .slice vA vn vc, .slice (some ⟨bp, op, none⟩) pn pc])])) (O' := (fun (uu : Unit) => [])) (X' := (fun (uu : Unit) => [SlOld vhEnc 2 46 w.heap.size none vA vn vl, SlOld plEnc 3 139 w.heap.size none (some ⟨bp, op, none⟩) pn pl])) ?_ ?_
  ·refine sr_ (mv_ rfl ?_)
   refine wl_ov (ov_gtr rfl rfl) rfl ?_
   refine nn_ ?_
   refine gw_cond rfl (fun hh => ?_) (fun hh => ?_)
   ·have h5 : 0 < ((i : Nat) : Int) := by simpa using hh
    clear hh
    refine sr_ ?_
    have hi1 : i - 1 < pn := by omega
    have h0 : ¬ i = 0 := by omega
    obtain ⟨q, hq⟩ : ∃ x, pl[i - 1]? = some x := ⟨_, List.getElem?_eq_getElem (by omega)⟩
    obtain ⟨qf, qv, qp⟩ := q
    have hO := plO_pos (p := ⟨pf, pv, pp⟩) hil h0 hq
    refine fd_ fo33_3 rfl rfl (lk_ sc31 1 rfl rfl rfl (mv_ rfl ?_))
    refine wl_ov (ov_sub rfl rfl (by omega) (by omega)) rfl ?_
    refine wl_set 41 (v' := .int .i64 (((i - 1) : Nat) : Int)) rfl (congrArg (Value.int .i64) (by omega)) ?_
    refine wl_ov (ov_index (j := (i - 1)) es31 rfl rfl (by omega)) rfl ?_
    refine wl_ov (ov_elem (vs := [.int .i64 qf, .string qv, .string qp]) rz139 rfl (fun _ hm => (hm.fact 1 rfl).1) hq rfl rfl) rfl ?_
    refine wl_alloc zc139 rfl fun g3 => ?_
    refine wl_stores (cs' := [.int .i64 qf, .string qv, .string qp]) 0 rz139 rfl rfl rfl rfl rfl rfl rfl rfl ?_
    refine nn_ (gw_seq ?_)
    refine gd (fun wz => Blk wz g3 139 [.int .i64 qf, .string qv, .string qp] ∧ Blk wz g2 139 [.int .i64 pf, .string pv, .string pp] ∧ Blk wz g1 33 [.slice sA sn sc, .slice cA cn cc, .slice vA vn vc, .slice (some ⟨bp, op, none⟩) pn pc] ∧ (SlOld vhEnc 2 46 w.heap.size none vA vn vl) wz ∧ (SlOld plEnc 3 139 w.heap.size none (some ⟨bp, op, none⟩) pn pl) wz ∧ True) mixed (fun _ hm => ⟨hm.bl 0, hm.bl 1, hm.bl 2, hm.fa 0, hm.fa 1, trivial⟩) fun z => ?_
    refine wt 0 18 1 rfl z (ov_field fo139_0 rfl rfl) ?_
    refine wt 1 18 3 rfl z (ov_load sc3 rfl (fun _ hm => hm.1) rfl) ?_
    refine wt 2 18 7 rfl z (ov_field fo139_0 rfl rfl) ?_
    refine wt 3 18 15 rfl z (ov_load sc3 rfl (fun _ hm => hm.2.1) rfl) ?_
    refine wt 5 18 47 rfl z (ov_field fo139_1 rfl rfl) ?_
    refine wt 6 18 111 rfl z (ov_load sc9 rfl (fun _ hm => hm.1) rfl) ?_
    refine wt 7 18 239 rfl z (ov_field fo139_1 rfl rfl) ?_
    refine wt 8 18 495 rfl z (ov_load sc9 rfl (fun _ hm => hm.2.1) rfl) ?_
    refine wt 10 18 1519 rfl z (ov_field fo139_2 rfl rfl) ?_
    refine wt 11 18 3567 rfl z (ov_load sc9 rfl (fun _ hm => hm.1) rfl) ?_
    refine wt 12 18 7663 rfl z (ov_field fo139_2 rfl rfl) ?_
    refine wt 13 18 15855 rfl z (ov_load sc9 rfl (fun _ hm => hm.2.1) rfl) ?_
    refine wa1 4 rfl ?_
    refine wl_callv rfl cb29 rfl rfl (fun wx hm => (cmp_int _ _ wx)) ?_
    refine wl_nil ?_
    refine nw 18 15871 (fun _ hm => ⟨hm.bl 0, hm.bl 1, hm.bl 2, hm.fa 0, hm.fa 1, trivial⟩) fun z => ?_
    refine wa1 9 rfl ?_
    refine wl_callv rfl cb66 rfl rfl (fun wx hm => (cmp_string _ _ wx)) ?_
    refine wl_nil ?_
    refine nw 18 16383 (fun _ hm => ⟨hm.bl 0, hm.bl 1, hm.bl 2, hm.fa 0, hm.fa 1, trivial⟩) fun z => ?_
    refine wa1 14 rfl ?_
    refine wl_callv rfl cb66 rfl rfl (fun wx hm => (cmp_string _ _ wx)) ?_
    refine wl_nil ?_
    refine nw 18 32767 (fun _ hm => ⟨hm.bl 0, hm.bl 1, hm.bl 2, hm.fa 0, hm.fa 1, trivial⟩) fun z => ?_
    refine wa1 15 rfl ?_
    refine wl_buildSlice (e := 3) (cs := [.int .i64 (cmpI qf pf), .int .i64 (cmpS qv pv), .int .i64 (cmpS qp pp)]) rfl (by kernel_rfl) rfl fun g4 => ?_
    refine wl_nil ?_
    refine nw 18 65535 (fun _ hm => ⟨hm.bl 1, hm.bl 2, hm.bl 3, hm.fa 0, hm.fa 1, trivial⟩) fun z => ?_
    refine wa1 16 rfl ?_
    refine wl_callv rfl cb65 rfl rfl (fun wx hm => (or_three g4 _ _ _ wx (hm.blkI 0 rfl))) ?_
    refine wl_nil ?_
    refine nw 18 131071 (fun _ hm => ⟨hm.bl 1, hm.bl 2, hm.bl 3, hm.fa 0, hm.fa 1, trivial⟩) fun z => ?_
    refine wt 17 18 262143 rfl z (ov_geq rfl rfl) ?_
    refine wa_done (by kernel_rfl) ?_
    refine nx_then ?_
    refine gw_cond rfl (fun hh => ?_) (fun hh => ?_)
    ·have h6 : 0 ≤ firstE [cmpI qf pf, cmpS qv pv, cmpS qp pp] := by simpa using hh
     clear hh
     refine sr_ ?_
     have hO2 : plO (pl.take i) ⟨pf, pv, pp⟩ = true := by rw [hO]; exact decide_eq_true h6
     refine sg_ rfl (nn_ ?_)
     refine gw_ret ?_
     refine nx_then_ret (nx_blk_ret (nx_then_ret (nx_then_ret (nx_blk_ret (nx_then_ret ?_)))))
     have hE : plE vl (pl.take i) ⟨pf, pv, pp⟩ = 7 := by rw [hfour, if_pos hO2]
     refine nx_ret1 rfl rfl fun wx hm => ?_
     exact ⟨ret_int (by rw [hpe, hat, if_neg (by rw [hE]; decide), hE]), hm.g⟩
    have h6 : ¬ (0 ≤ firstE [cmpI qf pf, cmpS qv pv, cmpS qp pp]) := by simpa using hh
    clear hh
    refine gw_skip ?_
    have hO2 : plO (pl.take i) ⟨pf, pv, pp⟩ = false := by rw [hO]; exact decide_eq_false h6
    exact nx_meet () hO2 ⟨rfl, rfl, rfl, rfl, rfl, rfl, trivial⟩ (fun _ hm => hm.pick [2, 3] [] [0, 1] rfl rfl)
   have h5 : ¬ (0 < ((i : Nat) : Int)) := by simpa using hh
   clear hh
   refine gw_skip ?_
   obtain rfl : i = 0 := by omega
   exact nx_meet () plO_zero ⟨rfl, rfl, rfl, rfl, rfl, rfl, trivial⟩ (fun _ hm => hm.pick [0, 1] [] [0, 1] rfl rfl)
  intro uu hinv
  replace hinv : plO (pl.take i) ⟨pf, pv, pp⟩ = false := hinv
  refine sr_ ?_
  have hO : plO (pl.take i) ⟨pf, pv, pp⟩ = false := hinv
  have hlast := ord_last hil hO
  refine mv_ rfl ?_
  refine wl_ov (ov_sub rfl rfl (by omega) (by omega)) rfl ?_
  refine sg_ rfl (nn_ (gw_block ?_))
  refine gw_loop (γ := Nat) (fun (j : Nat) => j ≤ i ∧ ∀ t, j ≤ t → t < i → ∀ x, pl[t]? = some x → plTwin ⟨pf, pv, pp⟩ x = false) (fun (j : Nat) => [(1, .pointer (some ⟨g1, 0, none⟩)), (4, .pointer (some ⟨g2, 0, none⟩)), (6, .int .i64 (((j : Nat) : Int) - 1)), (13, .slice (some ⟨bp, op, none⟩) pn pc), (14, .int .i64 ((pn : Nat) : Int)), (15, .int .i64 ((i : Nat) : Int))]) (fun (j : Nat) => fun _ => True) (fun (j : Nat) => [(g2, 139, [.int .i64 pf, .string pv, .string pp]), (g1, 33, [.slice sA sn sc, .slice cA cn cc, .slice vA vn vc, .slice (some ⟨bp, op, none⟩) pn pc])]) (fun (j : Nat) => []) (fun (j : Nat) => [SlOld vhEnc 2 46 w.heap.size none vA vn vl, SlOld plEnc 3 139 w.heap.size none (some ⟨bp, op, none⟩) pn pl]) (fun (j : Nat) => j) i ⟨Nat.le_refl _, fun t h1 h2 => by omega⟩ ⟨rfl, rfl, rfl, rfl, rfl, rfl, trivial⟩ (fun _ hm => hm.pick [0, 1] [] [0, 1] rfl rfl) ?_
  intro j hinv
  replace hinv : j ≤ i ∧ ∀ t, j ≤ t → t < i → ∀ x, pl[t]? = some x → plTwin ⟨pf, pv, pp⟩ x = false := hinv
  refine gw_seq (gw_seq ?_)
  obtain ⟨hji, hno⟩ := hinv
  rcases j with _ | j
  ·refine gd (fun wz => Blk wz g2 139 [.int .i64 pf, .string pv, .string pp] ∧ Blk wz g1 33 [.slice sA sn sc, .slice cA cn cc, .slice vA vn vc, .slice (some ⟨bp, op, none⟩) pn pc] ∧ (SlOld vhEnc 2 46 w.heap.size none vA vn vl) wz ∧ (SlOld plEnc 3 139 w.heap.size none (some ⟨bp, op, none⟩) pn pl) wz ∧ True) mixed (fun _ hm => ⟨hm.bl 0, hm.bl 1, hm.fa 0, hm.fa 1, trivial⟩) fun z => ?_
   refine wt 0 13 1 rfl z (ov_move rfl) ?_
   refine wa_set 64 (v' := .int .i64 (-1)) rfl rfl ?_
   refine wt 1 13 3 rfl z (ov_geq rfl rfl) ?_
   refine wa_set 65 (v' := .bool false) rfl (congrArg Value.bool (by decide)) ?_
   refine wt 2 13 7 rfl z (ov_move rfl) ?_
   refine wtf 3 13 15 rfl rfl rfl z ?_
   refine wtf 4 13 31 rfl rfl rfl z ?_
   refine wtf 5 13 63 rfl rfl rfl z ?_
   refine wtf 6 13 127 rfl rfl rfl z ?_
   refine wtf 7 13 255 rfl rfl rfl z ?_
   refine wtf 8 13 511 rfl rfl rfl z ?_
   refine wtf 9 13 1023 rfl rfl rfl z ?_
   refine wtf 10 13 2047 rfl rfl rfl z ?_
   refine wtf 11 13 4095 rfl rfl rfl z ?_
   refine wt 12 13 8191 rfl z (ov_pick_f rfl rfl) ?_
   refine wa_done (by kernel_rfl) ?_
   refine nx_then (cf_ rfl ?_)
   refine gw_exit ?_
   refine nx_then_exit (nx_then_exit ?_)
   refine nx_blk_here ?_
   refine nx_blk_nrm (nx_then (gw_region (ad_ rfl rfl (mv_ rfl (wl_nil ?_)))))
   have hany := twin_none (p := ⟨pf, pv, pp⟩) hps (by omega) (by omega) hlast hno (.inl rfl)
   have hE : plE vl (pl.take i) ⟨pf, pv, pp⟩ = 0 := by rw [hfour, if_neg (by rw [hO]; decide), if_neg (by rw [hany]; decide)]
   exact nx_round (i + 1) ⟨by omega, by rw [hpe, hat, if_pos hE], psort_next hps hx hO⟩ (by omega) ⟨rfl, rfl, rfl, (some_int (by omega)), trivial⟩ (fun _ hm => hm.pick [1] [] [0, 1] rfl rfl)
  obtain ⟨tx, ht⟩ : ∃ x, pl[j]? = some x := ⟨_, List.getElem?_eq_getElem (by omega)⟩
  obtain ⟨tf, tv, tp⟩ := tx
  refine gd (fun wz => Blk wz g2 139 [.int .i64 pf, .string pv, .string pp] ∧ Blk wz g1 33 [.slice sA sn sc, .slice cA cn cc, .slice vA vn vc, .slice (some ⟨bp, op, none⟩) pn pc] ∧ (SlOld vhEnc 2 46 w.heap.size none vA vn vl) wz ∧ (SlOld plEnc 3 139 w.heap.size none (some ⟨bp, op, none⟩) pn pl) wz ∧ True) mixed (fun _ hm => ⟨hm.bl 0, hm.bl 1, hm.fa 0, hm.fa 1, trivial⟩) fun z => ?_
  refine wt 0 13 1 rfl z (ov_move rfl) ?_
  refine wa_set 64 (v' := .int .i64 ((j : Nat) : Int)) rfl (congrArg (Value.int .i64) (by omega)) ?_
  refine wt 1 13 3 rfl z (ov_geq rfl rfl) ?_
  refine wa_set 65 (v' := .bool true) rfl (congrArg Value.bool (decide_eq_true (by omega))) ?_
  refine wt 2 13 7 rfl z (ov_move rfl) ?_
  refine wto 3 13 15 rfl rfl rfl z (ov_field fo33_3 rfl rfl) ?_
  refine wto 4 13 31 rfl rfl rfl z (ov_load sc31 rfl (fun _ hm => hm.2.1) rfl) ?_
  refine wto 5 13 63 rfl rfl rfl z (ov_move rfl) ?_
  refine wa_set 69 (v' := .int .i64 ((j : Nat) : Int)) rfl (congrArg (Value.int .i64) (by omega)) ?_
  refine wto 6 13 127 rfl rfl rfl z (ov_index (j := j) es31 rfl rfl (by omega)) ?_
  refine wto 7 13 255 rfl rfl rfl z (ov_field fo139_0 rfl rfl) ?_
  refine wto 8 13 511 rfl rfl rfl z (ov_elem1 (k := 0) (v := .int .i64 tf) sc3 rfl (fun _ hm => (hm.2.2.2.1).1) ht rfl rfl) ?_
  refine wto 9 13 1023 rfl rfl rfl z (ov_field fo139_0 rfl rfl) ?_
  refine wto 10 13 2047 rfl rfl rfl z (ov_load sc3 rfl (fun _ hm => hm.1) rfl) ?_
  refine wto 11 13 4095 rfl rfl rfl z (ov_eql rfl rfl) ?_
  refine wt 12 13 8191 rfl z (ov_pick_t rfl rfl) ?_
  refine wa_done (by kernel_rfl) ?_
  refine nx_then ?_
  refine gw_cond rfl (fun hh => ?_) (fun hh => ?_)
  ·have h7 : tf = pf := by simpa using hh
   clear hh
   refine gw_skip (nx_then (gw_seq (gw_block (sr_ (fd_ fo33_3 rfl rfl (lk_ sc31 1 rfl rfl rfl (mv_ rfl ?_)))))))
   refine wl_set 81 (v' := .int .i64 ((j : Nat) : Int)) rfl (congrArg (Value.int .i64) (by omega)) ?_
   refine wl_ov (ov_index (j := j) es31 rfl rfl (by omega)) rfl ?_
   refine wl_ov (ov_elem (vs := [.int .i64 tf, .string tv, .string tp]) rz139 rfl (fun _ hm => (hm.fact 1 rfl).1) ht rfl rfl) rfl ?_
   refine wl_alloc zc139 rfl fun g5 => ?_
   refine wl_stores (cs' := [.int .i64 tf, .string tv, .string tp]) 0 rz139 rfl rfl rfl rfl rfl rfl rfl rfl ?_
   refine nn_ (sr_ (fd_ fo139_1 rfl rfl (lk_ sc9 0 rfl rfl rfl (fd_ fo139_1 rfl rfl (lk_ sc9 1 rfl rfl rfl (wl_ov (ov_seql rfl rfl) rfl (mv_ rfl ?_)))))))
   rcases Bool.eq_false_or_eq_true (tv.toList == pv.toList) with h8 | h8
   ·refine wl_set 89 rfl (congrArg Value.bool h8) ?_
    have htw : plTwin ⟨pf, pv, pp⟩ ⟨tf, tv, tp⟩ = true := by unfold plTwin; rw [decide_eq_true (show (⟨tf, tv, tp⟩ : Pl).fr = (⟨pf, pv, pp⟩ : Pl).fr from h7), h8]; rfl
    refine goff rfl rfl rfl (goff rfl rfl rfl (goff rfl rfl rfl (goff rfl rfl rfl (goff rfl rfl rfl (pt_ rfl rfl (nn_ (ct_ rfl (sr_ (sg_ rfl (nn_ ?_))))))))))
    refine gw_ret ?_
    refine nx_blk_ret (nx_then_ret (nx_then_ret (nx_blk_ret (nx_blk_ret (nx_then_ret (nx_then_ret (nx_blk_ret (nx_then_ret ?_))))))))
    have hany : (pl.take i).any (plTwin ⟨pf, pv, pp⟩) = true := List.any_eq_true.2 ⟨_, List.mem_of_getElem? (i := j) (by rw [List.getElem?_take, if_pos (by omega)]; exact ht), htw⟩
    have hE : plE vl (pl.take i) ⟨pf, pv, pp⟩ = 6 := by rw [hfour, if_neg (by rw [hO]; decide), if_pos hany]
    refine nx_ret1 rfl rfl fun wx hm => ?_
    exact ⟨ret_int (by rw [hpe, hat, if_neg (by rw [hE]; decide), hE]), hm.g⟩
   refine wl_set 89 rfl (congrArg Value.bool h8) ?_
   refine wl_guard_on rfl rfl rfl (fd_ fo139_2 rfl rfl (wl_guard_on rfl rfl rfl (lk_ sc9 0 rfl rfl rfl (wl_guard_on rfl rfl rfl (fd_ fo139_2 rfl rfl (wl_guard_on rfl rfl rfl (lk_ sc9 1 rfl rfl rfl (wl_guard_on rfl rfl rfl (wl_ov (ov_seql rfl rfl) rfl (pf_ rfl rfl (nn_ ?_)))))))))))
   refine gw_cond rfl (fun hh => ?_) (fun hh => ?_)
   ·have h9 : (tp.toList == pp.toList) = true := by simpa using hh
    clear hh
    refine sr_ ?_
    have htw : plTwin ⟨pf, pv, pp⟩ ⟨tf, tv, tp⟩ = true := by unfold plTwin; rw [decide_eq_true (show (⟨tf, tv, tp⟩ : Pl).fr = (⟨pf, pv, pp⟩ : Pl).fr from h7), h8, h9]; rfl
    refine sg_ rfl (nn_ ?_)
    refine gw_ret ?_
    refine nx_blk_ret (nx_then_ret (nx_then_ret (nx_blk_ret (nx_blk_ret (nx_then_ret (nx_then_ret (nx_blk_ret (nx_then_ret ?_))))))))
    have hany : (pl.take i).any (plTwin ⟨pf, pv, pp⟩) = true := List.any_eq_true.2 ⟨_, List.mem_of_getElem? (i := j) (by rw [List.getElem?_take, if_pos (by omega)]; exact ht), htw⟩
    have hE : plE vl (pl.take i) ⟨pf, pv, pp⟩ = 6 := by rw [hfour, if_neg (by rw [hO]; decide), if_pos hany]
    refine nx_ret1 rfl rfl fun wx hm => ?_
    exact ⟨ret_int (by rw [hpe, hat, if_neg (by rw [hE]; decide), hE]), hm.g⟩
   have h9 : (tp.toList == pp.toList) = false := by simpa using hh
   clear hh
   refine gw_skip (nx_blk_nrm (nx_then (gw_region ?_)))
   have htw : plTwin ⟨pf, pv, pp⟩ ⟨tf, tv, tp⟩ = false := by unfold plTwin; rw [decide_eq_true (show (⟨tf, tv, tp⟩ : Pl).fr = (⟨pf, pv, pp⟩ : Pl).fr from h7), h8, h9]; rfl
   refine mv_ rfl ?_
   refine wl_set 77 (v' := .int .i64 ((j : Nat) : Int)) rfl (congrArg (Value.int .i64) (by omega)) ?_
   refine wl_ov (ov_sub rfl rfl (by omega) (by omega)) rfl ?_
   refine sg_ rfl (wl_nil ?_)
   exact nx_round j ⟨by omega, fun t h1 h2 y hy => by
    rcases Nat.eq_or_lt_of_le h1 with rfl | h3
    ·rw [ht] at hy; cases hy; exact htw
    exact hno t h3 h2 y hy⟩ (by omega) ⟨rfl, rfl, rfl, rfl, rfl, rfl, trivial⟩ (fun _ hm => hm.pick [1, 2] [] [0, 1] rfl rfl)
  have h7 : ¬ (tf = pf) := by simpa using hh
  clear hh
  refine gw_exit ?_
  refine nx_then_exit (nx_then_exit ?_)
  refine nx_blk_here ?_
  refine nx_blk_nrm (nx_then (gw_region (ad_ rfl rfl (mv_ rfl (wl_nil ?_)))))
  have hany := twin_none (p := ⟨pf, pv, pp⟩) hps (by omega) (by omega) hlast hno (.inr ⟨_, ht, h7⟩)
  have hE : plE vl (pl.take i) ⟨pf, pv, pp⟩ = 0 := by rw [hfour, if_neg (by rw [hO]; decide), if_neg (by rw [hany]; decide)]
  exact nx_round (i + 1) ⟨by omega, by rw [hpe, hat, if_pos hE], psort_next hps hx hO⟩ (by omega) ⟨rfl, rfl, rfl, (some_int (by omega)), trivial⟩ (fun _ hm => hm.pick [1] [] [0, 1] rfl rfl)
 have hi : ¬ (((i : Nat) : Int) < ((pn : Nat) : Int)) := by simpa using hh
 clear hh
 refine gw_exit ?_
 refine nx_then_exit (nx_then_exit ?_)
 refine nx_blk_here ?_
 refine nx_then (sr_ (sg_ rfl (nn_ ?_)))
 refine gw_ret ?_
 refine nx_ret1 rfl rfl fun wx hm => ?_
 exact ⟨ret_int (by rw [plates_end (by omega) hpe]), hm.g⟩
end Go.Proofs.Ytodcildcipfmcaa
namespace Go.Proofs.Ytodcildcipfmcaa
open Go.RowKit
theorem fleet_head {sl : List St} {cl : List Cs} {vl : List Vh} {pl : List Pl} {vn : Nat} (hl : vl.length = vn) (h : firstE [stationsE sl, classesE cl, whenE (decide ((500 : Int) < ((vn : Nat) : Int))) 2] ≠ 0) : fleetE sl cl vl pl = firstE [stationsE sl, classesE cl, whenE (decide ((500 : Int) < ((vn : Nat) : Int))) 2] := by
  unfold fleetE
  by_cases h1 : stationsE sl = 0
  · by_cases h2 : classesE cl = 0
    · by_cases h3 : (500 : Int) < ((vn : Nat) : Int)
      · have h4 : vehsE cl vl = 2 := by unfold vehsE; rw [if_pos (by omega)]
        rw [h1, h2, h4, decide_eq_true h3]; rfl
      · rw [h1, h2, decide_eq_false h3] at h
        exact absurd rfl h
    · simp [firstE, h1, h2]
  · simp [firstE, h1]
theorem fleet_tail {sl : List St} {cl : List Cs} {vl : List Vh} {pl : List Pl} {vn : Nat} (hl : vl.length = vn) (h : firstE [stationsE sl, classesE cl, whenE (decide ((500 : Int) < ((vn : Nat) : Int))) 2] = 0) : stationsE sl = 0 ∧ classesE cl = 0 ∧ vn ≤ 500 ∧ fleetE sl cl vl pl = firstE [scanE (vhE cl) none vl, platesE vl pl] := by
  have hz := fe_all h
  have h1 := hz (stationsE sl) (by simp)
  have h2 := hz (classesE cl) (by simp)
  have h3 := hz (whenE (decide ((500 : Int) < ((vn : Nat) : Int))) 2) (by simp)
  have h4 : ¬ (500 : Int) < ((vn : Nat) : Int) := fun h => by rw [decide_eq_true h] at h3; cases h3
  refine ⟨h1, h2, by omega, ?_⟩
  unfold fleetE vehsE
  rw [h1, h2, if_neg (by omega)]; rfl
theorem fe_left {a b : Int} (h : a ≠ 0) : firstE [a, b] = a := by simp [firstE, h]
theorem fe_right {b : Int} : firstE [0, b] = b := by
  by_cases h : b = 0
  · subst h; rfl
  · simp [firstE, h]
theorem vhE_one {cl : List Cs} {p : Option Vh} {b : Vh} (h : keyB b.key = false) : vhE cl p b = 5 := by unfold vhE; rw [h]; rfl
theorem vhE_two {cl : List Cs} {p : Option Vh} {b : Vh} (h : keyB b.key = true) (h2 : leVh p b = true) : vhE cl p b = 7 := by unfold vhE; rw [h, h2]; rfl
theorem vhE_three {cl : List Cs} {p : Option Vh} {b : Vh} (h : keyB b.key = true) (h2 : leVh p b = false) : vhE cl p b = if ixP (csP b.cls) cl 0 < 0 then 8 else 0 := by unfold vhE; rw [h, h2]; rfl
theorem checkFleet_any (sl : List St) (cl : List Cs) (vl : List Vh) (pl : List Pl) (sA cA vA pA : Option Addr) (sn sc cn cc vn vc pn pc : Nat) (w : World) (hs : SlT stEnc 15 41 w sA sn sl) (hc : SlT csEnc 2 27 w cA cn cl) (hv : SlT vhEnc 2 46 w vA vn vl) (hp : SlT plEnc 3 139 w pA pn pl) (hsok : ∀ x ∈ sl, StOk x) (hcok : ∀ x ∈ cl, CsOk x) (hvok : ∀ x ∈ vl, VhOk x) (hpok : ∀ x ∈ pl, PlOk x) (hsn : sn ≤ 1000000) (hcn : cn ≤ 1000000) (hvn : vn ≤ 1000000) (hpn : pn ≤ 1000000) :
  Calls Try.prog 41 #[.agg #[.slice sA sn sc, .slice cA cn cc, .slice vA vn vc, .slice pA pn pc]] w (GotE w (fleetE sl cl vl pl)) := by
 refine gw_enter ⟨60, w, none, []⟩ Try.func41 rfl Try.ntmps41 rfl (mem0 (X := [SlOld stEnc 15 41 w.heap.size none sA sn sl, SlOld csEnc 2 27 w.heap.size none cA cn cl, SlOld vhEnc 2 46 w.heap.size none vA vn vl, SlOld plEnc 3 139 w.heap.size none pA pn pl]) (allF_cons hs.old (allF_cons hc.old (allF_cons hv.old (allF_cons hp.old allF_nil)))) (allL_cons SlOld.lasts (allL_cons SlOld.lasts (allL_cons SlOld.lasts (allL_cons SlOld.lasts allL_nil))))) ?_
 refine sr_ ?_
 have hlen := hv.len
 obtain ⟨SE, hSE⟩ : ∃ z, z = stationsE sl := ⟨_, rfl⟩
 obtain ⟨CE, hCE⟩ : ∃ z, z = classesE cl := ⟨_, rfl⟩
 obtain ⟨FE, hFE⟩ : ∃ z, z = firstE [stationsE sl, classesE cl, whenE (decide ((500 : Int) < ((vn : Nat) : Int))) 2] := ⟨_, rfl⟩
 have hFE2 : FE = firstE [SE, CE, whenE (decide ((500 : Int) < ((vn : Nat) : Int))) 2] := by rw [hFE, hSE, hCE]
 refine wl_box rfl rfl rfl fun g1 => ?_
 refine sg_ rfl (nn_ (gw_seq ?_))
 refine gw_cut (γ := Unit) (I := (fun (uu : Unit) => True)) (S' := (fun (uu : Unit) => [(1, .pointer (some ⟨g1, 0, none⟩)), (2, .int .i64 0), (3, .int .i64 FE)])) (K' := (fun (uu : Unit) => fun _ => True)) (L' := (fun (uu : Unit) => [(g1, 33, [.slice sA sn sc, .slice cA cn cc, .slice vA vn vc, .slice pA pn pc])])) (O' := (fun (uu : Unit) => [])) (X' := (fun (uu : Unit) => [SlOld stEnc 15 41 w.heap.size none sA sn sl, SlOld csEnc 2 27 w.heap.size none cA cn cl, SlOld vhEnc 2 46 w.heap.size none vA vn vl, SlOld plEnc 3 139 w.heap.size none pA pn pl])) ?_ ?_
 ·refine gd (fun wz => Blk wz g1 33 [.slice sA sn sc, .slice cA cn cc, .slice vA vn vc, .slice pA pn pc] ∧ (SlOld stEnc 15 41 w.heap.size none sA sn sl) wz ∧ (SlOld csEnc 2 27 w.heap.size none cA cn cl) wz ∧ (SlOld vhEnc 2 46 w.heap.size none vA vn vl) wz ∧ (SlOld plEnc 3 139 w.heap.size none pA pn pl) wz ∧ True) mixed (fun _ hm => ⟨hm.bl 0, hm.fa 0, hm.fa 1, hm.fa 2, hm.fa 3, trivial⟩) fun z => ?_
  refine wt 0 14 1 rfl z (ov_field fo33_0 rfl rfl) ?_
  refine wt 1 14 3 rfl z (ov_load sc29 rfl (fun _ hm => hm.1) rfl) ?_
  refine wt 3 14 11 rfl z (ov_field fo33_1 rfl rfl) ?_
  refine wt 4 14 27 rfl z (ov_load sc28 rfl (fun _ hm => hm.1) rfl) ?_
  refine wt 6 14 91 rfl z (ov_field fo33_2 rfl rfl) ?_
  refine wt 7 14 219 rfl z (ov_load sc30 rfl (fun _ hm => hm.1) rfl) ?_
  refine wt 8 14 475 rfl z (ov_len es30 rfl) ?_
  refine wt 9 14 987 rfl z (ov_gtr rfl rfl) ?_
  refine wa1 2 rfl ?_
  refine wl_callv (v := .int .i64 SE) rfl cb57 rfl rfl (fun wx hm => (by rw [hSE]; exact checkStations_any sl sA sn sc wx (hm.fact 0 rfl).1 hsok (by omega))) ?_
  refine wl_nil ?_
  refine nw 14 991 (fun _ hm => ⟨hm.bl 0, hm.fa 0, hm.fa 1, hm.fa 2, hm.fa 3, trivial⟩) fun z => ?_
  refine wa1 5 rfl ?_
  refine wl_callv (v := .int .i64 CE) rfl cb58 rfl rfl (fun wx hm => (by rw [hCE]; exact checkClasses_any cl cA cn cc wx (hm.fact 1 rfl).1 hcok (by omega))) ?_
  refine wl_nil ?_
  refine nw 14 1023 (fun _ hm => ⟨hm.bl 0, hm.fa 0, hm.fa 1, hm.fa 2, hm.fa 3, trivial⟩) fun z => ?_
  refine wa1 10 rfl ?_
  refine wl_callw rfl cb21 rfl rfl (fun wx hm => (when_any _ _ wx)) ?_
  refine wl_nil ?_
  refine nw 14 2047 (fun _ hm => ⟨hm.bl 0, hm.fa 0, hm.fa 1, hm.fa 2, hm.fa 3, trivial⟩) fun z => ?_
  refine wa1 11 rfl ?_
  refine wl_buildSlice (e := 52) (cs := [.int .i64 SE, .int .i64 CE, .int .i64 (whenE (decide (500 < ((vn : Nat) : Int))) 2)]) rfl (by kernel_rfl) rfl fun g2 => ?_
  refine wl_nil ?_
  refine nw 14 4095 (fun _ hm => ⟨hm.bl 1, hm.fa 0, hm.fa 1, hm.fa 2, hm.fa 3, trivial⟩) fun z => ?_
  refine wa1 12 rfl ?_
  refine wl_callw rfl cb20 rfl rfl (fun wx hm => (first_any [SE, CE, whenE (decide (500 < ((vn : Nat) : Int))) 2] _ _ _ wx (hm.blkI 0 rfl) (by simp))) ?_
  refine wl_nil ?_
  refine nw 14 8191 (fun _ hm => ⟨hm.bl 1, hm.fa 0, hm.fa 1, hm.fa 2, hm.fa 3, trivial⟩) fun z => ?_
  refine wt 13 14 16383 rfl z (ov_assign rfl) ?_
  refine wa_done (by kernel_rfl) ?_
  exact nx_meet () trivial ⟨rfl, rfl, (some_int hFE2.symm), trivial⟩ (fun _ hm => hm.pick [1] [] [0, 1, 2, 3] rfl rfl)
 intro uu hinv
 replace hinv : True := hinv
 refine sr_ (mv_ rfl (wl_ov (ov_neq rfl rfl) rfl (nn_ ?_)))
 refine gw_cond rfl (fun hh => ?_) (fun hh => ?_)
 ·have h1 : ¬ (FE = 0) := by simpa using hh
  clear hh
  refine sr_ ?_
  have h2 : FE ≠ 0 := by simpa using h1
  have h3 : fleetE sl cl vl pl = FE := by rw [hFE]; exact fleet_head hlen (by rw [← hFE]; exact h2)
  refine mv_ rfl (sg_ rfl (nn_ ?_))
  refine gw_ret ?_
  refine nx_then_ret ?_
  refine nx_ret1 rfl rfl fun wx hm => ?_
  exact ⟨ret_int (by rw [h3]), hm.g⟩
 have h1 : FE = 0 := by simpa using hh
 clear hh
 refine gw_skip (nx_then (gw_seq (sr_ ?_)))
 have h2 : FE = 0 := by simpa using h1
 obtain ⟨_, hcz, hv5, hfl⟩ := fleet_tail (sl := sl) (cl := cl) (pl := pl) hlen (hFE.symm.trans h2)
 refine fd_ fo33_2 rfl rfl (lk_ sc30 0 rfl rfl rfl (wl_ov (ov_len es30 rfl) rfl (mv_ rfl (nn_ (gw_block ?_)))))
 refine gw_loop (γ := Nat) (fun (i : Nat) => i ≤ vn ∧ scanE (vhE cl) none vl = scanE (vhE cl) (prevOf vl i) (vl.drop i)) (fun (i : Nat) => [(1, .pointer (some ⟨g1, 0, none⟩)), (23, .slice vA vn vc), (24, .int .i64 ((vn : Nat) : Int)), (25, .int .i64 ((i : Nat) : Int))]) (fun (i : Nat) => fun _ => True) (fun (i : Nat) => [(g1, 33, [.slice sA sn sc, .slice cA cn cc, .slice vA vn vc, .slice pA pn pc])]) (fun (i : Nat) => []) (fun (i : Nat) => [SlOld stEnc 15 41 w.heap.size none sA sn sl, SlOld csEnc 2 27 w.heap.size none cA cn cl, SlOld vhEnc 2 46 w.heap.size none vA vn vl, SlOld plEnc 3 139 w.heap.size none pA pn pl]) (fun (i : Nat) => vn - i) 0 ⟨Nat.zero_le _, rfl⟩ ⟨rfl, rfl, rfl, rfl, trivial⟩ (fun _ hm => hm.pick [0] [] [0, 1, 2, 3] rfl rfl) ?_
 intro i hinv
 replace hinv : i ≤ vn ∧ scanE (vhE cl) none vl = scanE (vhE cl) (prevOf vl i) (vl.drop i) := hinv
 refine sr_ ?_
 obtain ⟨hi0, hsc⟩ := hinv
 refine wl_ov (ov_lss rfl rfl) rfl (nn_ (gw_seq ?_))
 refine gw_cond rfl (fun hh => ?_) (fun hh => ?_)
 ·have hi : ((i : Nat) : Int) < ((vn : Nat) : Int) := by simpa using hh
  clear hh
  refine gw_skip (nx_then (gw_seq (gw_block (sr_ ?_))))
  obtain ⟨bv, ov, hA, _, _⟩ := hv.get (by omega)
  subst hA
  obtain ⟨x, hx⟩ : ∃ x, vl[i]? = some x := ⟨_, List.getElem?_eq_getElem (by omega)⟩
  obtain ⟨vk, vc2⟩ := x
  have hat := scanE_at (vhE cl) vl i _ hx
  obtain ⟨hvk, hvc2⟩ := hvok _ (List.mem_of_getElem? hx)
  have hvk : vk.size ≤ 1000000 := hvk
  refine mv_ rfl ?_
  refine wl_ov (ov_index (j := i) es30 rfl rfl (by omega)) rfl ?_
  refine wl_ov (ov_elem (vs := [.string vk, .string vc2]) rz46 rfl (fun _ hm => (hm.fact 2 rfl).1) hx rfl rfl) rfl ?_
  refine wl_alloc zc46 rfl fun g3 => ?_
  refine sg_ rfl ?_
  refine wl_stores (cs' := [.string vk, .string vc2]) 0 rz46 rfl rfl rfl rfl rfl rfl rfl rfl ?_
  refine nn_ (gw_block (sr_ (fd_ fo46_0 rfl rfl (lk_ sc9 0 rfl rfl rfl ?_))))
  refine wl_callw rfl cb54 rfl rfl (fun wx hm => (isKey_any _ wx (by omega))) ?_
  refine wl_ov (ov_un_not rfl) rfl (sg_ rfl (nn_ ?_))
  refine gw_cond rfl (fun hh => ?_) (fun hh => ?_)
  ·have h3 : (keyB vk) = false := by simpa using hh
   clear hh
   refine sr_ (sg_ rfl (nn_ ?_))
   refine gw_ret ?_
   refine nx_blk_ret (nx_blk_ret (nx_then_ret (nx_then_ret (nx_blk_ret (nx_then_ret ?_)))))
   have hE : vhE cl (prevOf vl i) ⟨vk, vc2⟩ = 5 := vhE_one (by simpa using h3)
   have hF : scanE (vhE cl) none vl = 5 := by rw [hsc, hat, if_neg (by rw [hE]; decide), hE]
   refine nx_ret1 rfl rfl fun wx hm => ?_
   exact ⟨ret_int (by rw [hfl, hF, fe_left (by decide)]), hm.g⟩
  have h3 : (keyB vk) = true := by simpa using hh
  clear hh
  refine gw_seq ?_
  by_cases h0 : i = 0
  ·have hle : leVh (prevOf vl i) ⟨vk, vc2⟩ = false := by rw [prevOf_zero h0]; rfl
   have h8 := vhE_three (cl := cl) (b := ⟨vk, vc2⟩) (by simpa using h3) hle
   refine gd (fun wz => Blk wz g3 46 [.string vk, .string vc2] ∧ Blk wz g1 33 [.slice sA sn sc, .slice cA cn cc, .slice (some ⟨bv, ov, none⟩) vn vc, .slice pA pn pc] ∧ (SlOld stEnc 15 41 w.heap.size none sA sn sl) wz ∧ (SlOld csEnc 2 27 w.heap.size none cA cn cl) wz ∧ (SlOld vhEnc 2 46 w.heap.size none (some ⟨bv, ov, none⟩) vn vl) wz ∧ (SlOld plEnc 3 139 w.heap.size none pA pn pl) wz ∧ True) mixed (fun _ hm => ⟨hm.bl 0, hm.bl 1, hm.fa 0, hm.fa 1, hm.fa 2, hm.fa 3, trivial⟩) fun z => ?_
   refine wt 0 15 1 rfl z (ov_move rfl) ?_
   refine wt 1 15 3 rfl z (ov_gtr rfl rfl) ?_
   refine wa_set 37 (v' := .bool false) rfl (congrArg Value.bool (decide_eq_false (by omega))) ?_
   refine wt 2 15 7 rfl z (ov_move rfl) ?_
   refine wtf 3 15 15 rfl rfl rfl z ?_
   refine wtf 4 15 31 rfl rfl rfl z ?_
   refine wtf 5 15 63 rfl rfl rfl z ?_
   refine wtf 6 15 127 rfl rfl rfl z ?_
   refine wtf 7 15 255 rfl rfl rfl z ?_
   refine wtf 8 15 511 rfl rfl rfl z ?_
   refine wtf 9 15 1023 rfl rfl rfl z ?_
   refine wtf 10 15 2047 rfl rfl rfl z ?_
   refine wtf 11 15 4095 rfl rfl rfl z ?_
   refine wtf 12 15 8191 rfl rfl rfl z ?_
   refine wt 13 15 16383 rfl z (ov_pick_f rfl rfl) ?_
   refine wt 14 15 32767 rfl z (ov_assign rfl) ?_
   refine wa_done (by kernel_rfl) ?_
   refine nx_then (cf_ rfl (sr_ (fd_ fo33_1 rfl rfl (lk_ sc28 1 rfl rfl rfl (fd_ fo46_1 rfl rfl (lk_ sc9 0 rfl rfl rfl ?_))))))
   refine wl_callv rfl cb23 rfl rfl (fun wx hm => (classAt_any cl cA cn cc vc2 wx (hm.fact 1 rfl).1 (by omega))) ?_
   refine wl_ov (ov_lss rfl rfl) rfl (sg_ rfl (nn_ ?_))
   refine gw_cond rfl (fun hh => ?_) (fun hh => ?_)
   ·have h5 : ixP (csP vc2) cl 0 < 0 := by simpa using hh
    clear hh
    refine sr_ (sg_ rfl (nn_ ?_))
    refine gw_ret ?_
    refine nx_blk_ret (nx_blk_ret (nx_then_ret (nx_then_ret (nx_blk_ret (nx_then_ret ?_)))))
    have hE : vhE cl (prevOf vl i) ⟨vk, vc2⟩ = 8 := by rw [h8, if_pos h5]
    have hF : scanE (vhE cl) none vl = 8 := by rw [hsc, hat, if_neg (by rw [hE]; decide), hE]
    refine nx_ret1 rfl rfl fun wx hm => ?_
    exact ⟨ret_int (by rw [hfl, hF, fe_left (by decide)]), hm.g⟩
   have h5 : ¬ (ixP (csP vc2) cl 0 < 0) := by simpa using hh
   clear hh
   refine gw_skip (nx_blk_nrm (nx_blk_nrm (nx_then (gw_region ?_))))
   have hE : vhE cl (prevOf vl i) ⟨vk, vc2⟩ = 0 := by rw [h8, if_neg h5]
   refine ad_ rfl rfl (mv_ rfl (wl_nil ?_))
   exact nx_round (i + 1) ⟨by omega, by rw [hsc, hat, if_pos hE]⟩ (by omega) ⟨rfl, rfl, rfl, (some_int (by omega)), trivial⟩ (fun _ hm => hm.pick [1] [] [0, 1, 2, 3] rfl rfl)
  obtain ⟨yy, hy⟩ : ∃ x, vl[i - 1]? = some x := ⟨_, List.getElem?_eq_getElem (by omega)⟩
  obtain ⟨uk, uc⟩ := yy
  refine gd (fun wz => Blk wz g3 46 [.string vk, .string vc2] ∧ Blk wz g1 33 [.slice sA sn sc, .slice cA cn cc, .slice (some ⟨bv, ov, none⟩) vn vc, .slice pA pn pc] ∧ (SlOld stEnc 15 41 w.heap.size none sA sn sl) wz ∧ (SlOld csEnc 2 27 w.heap.size none cA cn cl) wz ∧ (SlOld vhEnc 2 46 w.heap.size none (some ⟨bv, ov, none⟩) vn vl) wz ∧ (SlOld plEnc 3 139 w.heap.size none pA pn pl) wz ∧ True) mixed (fun _ hm => ⟨hm.bl 0, hm.bl 1, hm.fa 0, hm.fa 1, hm.fa 2, hm.fa 3, trivial⟩) fun z => ?_
  refine wt 0 15 1 rfl z (ov_move rfl) ?_
  refine wt 1 15 3 rfl z (ov_gtr rfl rfl) ?_
  refine wa_set 37 (v' := .bool true) rfl (congrArg Value.bool (decide_eq_true (by omega))) ?_
  refine wt 2 15 7 rfl z (ov_move rfl) ?_
  refine wto 3 15 15 rfl rfl rfl z (ov_field fo46_0 rfl rfl) ?_
  refine wto 4 15 31 rfl rfl rfl z (ov_load sc9 rfl (fun _ hm => hm.1) rfl) ?_
  refine wto 5 15 63 rfl rfl rfl z (ov_field fo33_2 rfl rfl) ?_
  refine wto 6 15 127 rfl rfl rfl z (ov_load sc30 rfl (fun _ hm => hm.2.1) rfl) ?_
  refine wto 7 15 255 rfl rfl rfl z (ov_move rfl) ?_
  refine wto 8 15 511 rfl rfl rfl z (ov_sub rfl rfl (by omega) (by omega)) ?_
  refine wa_set 44 (v' := .int .i64 (((i - 1) : Nat) : Int)) rfl (congrArg (Value.int .i64) (by omega)) ?_
  refine wto 9 15 1023 rfl rfl rfl z (ov_index (j := (i - 1)) es30 rfl rfl (by omega)) ?_
  refine wto 10 15 2047 rfl rfl rfl z (ov_field fo46_0 rfl rfl) ?_
  refine wto 11 15 4095 rfl rfl rfl z (ov_elem1 (k := 0) (v := .string uk) sc9 rfl (fun _ hm => (hm.2.2.2.2.1).1) hy rfl rfl) ?_
  refine wto 12 15 8191 rfl rfl rfl z (ov_sleq rfl rfl) ?_
  refine wt 13 15 16383 rfl z (ov_pick_t rfl rfl) ?_
  refine wt 14 15 32767 rfl z (ov_assign rfl) ?_
  refine wa_done (by kernel_rfl) ?_
  refine nx_then ?_
  refine gw_cond rfl (fun hh => ?_) (fun hh => ?_)
  ·have h4 : (Op.bytesLess vk.toList uk.toList || vk.toList == uk.toList) = true := by simpa using hh
   clear hh
   refine sr_ ?_
   have hle : leVh (prevOf vl i) ⟨vk, vc2⟩ = true := by rw [prevOf_pos h0 hy]; exact h4
   refine sg_ rfl (nn_ ?_)
   refine gw_ret ?_
   refine nx_blk_ret (nx_blk_ret (nx_then_ret (nx_then_ret (nx_blk_ret (nx_then_ret ?_)))))
   have hE : vhE cl (prevOf vl i) ⟨vk, vc2⟩ = 7 := vhE_two (by simpa using h3) hle
   have hF : scanE (vhE cl) none vl = 7 := by rw [hsc, hat, if_neg (by rw [hE]; decide), hE]
   refine nx_ret1 rfl rfl fun wx hm => ?_
   exact ⟨ret_int (by rw [hfl, hF, fe_left (by decide)]), hm.g⟩
  have h4 : (Op.bytesLess vk.toList uk.toList || vk.toList == uk.toList) = false := by simpa using hh
  clear hh
  refine sr_ ?_
  have hle : leVh (prevOf vl i) ⟨vk, vc2⟩ = false := by rw [prevOf_pos h0 hy]; exact h4
  have h8 := vhE_three (cl := cl) (b := ⟨vk, vc2⟩) (by simpa using h3) hle
  refine fd_ fo33_1 rfl rfl (lk_ sc28 1 rfl rfl rfl (fd_ fo46_1 rfl rfl (lk_ sc9 0 rfl rfl rfl ?_)))
  refine wl_callv rfl cb23 rfl rfl (fun wx hm => (classAt_any cl cA cn cc vc2 wx (hm.fact 1 rfl).1 (by omega))) ?_
  refine wl_ov (ov_lss rfl rfl) rfl (sg_ rfl (nn_ ?_))
  refine gw_cond rfl (fun hh => ?_) (fun hh => ?_)
  ·have h5 : ixP (csP vc2) cl 0 < 0 := by simpa using hh
   clear hh
   refine sr_ (sg_ rfl (nn_ ?_))
   refine gw_ret ?_
   refine nx_blk_ret (nx_blk_ret (nx_then_ret (nx_then_ret (nx_blk_ret (nx_then_ret ?_)))))
   have hE : vhE cl (prevOf vl i) ⟨vk, vc2⟩ = 8 := by rw [h8, if_pos h5]
   have hF : scanE (vhE cl) none vl = 8 := by rw [hsc, hat, if_neg (by rw [hE]; decide), hE]
   refine nx_ret1 rfl rfl fun wx hm => ?_
   exact ⟨ret_int (by rw [hfl, hF, fe_left (by decide)]), hm.g⟩
  have h5 : ¬ (ixP (csP vc2) cl 0 < 0) := by simpa using hh
  clear hh
  refine gw_skip (nx_blk_nrm (nx_blk_nrm (nx_then (gw_region ?_))))
  have hE : vhE cl (prevOf vl i) ⟨vk, vc2⟩ = 0 := by rw [h8, if_neg h5]
  refine ad_ rfl rfl (mv_ rfl (wl_nil ?_))
  exact nx_round (i + 1) ⟨by omega, by rw [hsc, hat, if_pos hE]⟩ (by omega) ⟨rfl, rfl, rfl, (some_int (by omega)), trivial⟩ (fun _ hm => hm.pick [1] [] [0, 1, 2, 3] rfl rfl)
 have hi : ¬ (((i : Nat) : Int) < ((vn : Nat) : Int)) := by simpa using hh
 clear hh
 refine gw_exit ?_
 refine nx_then_exit (nx_then_exit ?_)
 refine nx_blk_here ?_
 refine nx_then (sr_ ?_)
 have hz : scanE (vhE cl) none vl = 0 := by rw [hsc, List.drop_eq_nil_of_le (by omega)]; rfl
 have hrise : Rise vl := (rise_of hz).1
 obtain ⟨PE, hPE⟩ : ∃ z, z = platesE vl pl := ⟨_, rfl⟩
 refine wl_ov (ov_loads rz33 rfl (fun _ hm => hm.blkI 0 rfl) rfl rfl) rfl ?_
 refine wl_callv (v := .int .i64 PE) rfl cb59 rfl rfl (fun wx hm => (by rw [hPE]; exact checkPlates_any vl pl sA cA vA pA sn sc cn cc vn vc pn pc wx (hm.fact 2 rfl).1 (hm.fact 3 rfl).1 (by omega) (by omega) hrise hpok)) ?_
 refine sg_ rfl (nn_ ?_)
 refine gw_ret ?_
 refine nx_ret1 rfl rfl fun wx hm => ?_
 exact ⟨ret_int (by rw [hfl, hz, fe_right, hPE]), hm.g⟩
end Go.Proofs.Ytodcildcipfmcaa
namespace Go.Proofs.Ytodcildcipfmcaa
open Go.RowKit
theorem isBelow_lt {n v : Int} (h : IsBelow n v) (hn : 1 ≤ n) : 0 ≤ v ∧ v < n := by unfold IsBelow at h; omega
set_option maxHeartbeats 400000 in
theorem range_any (lo hi : Int) (w : World) (B sb m : Nat) (hS : Strm 25 w B sb m) (hm : m ≤ 1000000000000) (h1 : -4611686018427387904 ≤ lo) (h2 : hi ≤ 4611686018427387902) (h3 : lo ≤ 4611686018427387902) (h4 : -4611686018427387904 ≤ hi) :
    Calls Try.prog 32 #[.pointer (some ⟨sb, 0, none⟩), .int .i64 lo, .int .i64 hi] w (GotInt 25 w B sb (m + 1) (fun v => lo ≤ v ∧ (v ≤ hi ∨ v = lo))) := by
  by_cases hlt : hi < lo
  · go_enter Try.func32, Try.ntmps32
    go_wp2_with fail
    go_ret
    exact ⟨lo, ⟨by omega, .inr rfl⟩, rfl, hS.more (by omega), World.grownBy.refl _ _⟩
  · go_enter Try.func32, Try.ntmps32
    go_wp2_with fail
    refine (next_any _ _ B sb m hS hm (by omega) (by omega)).mono ?_
    rintro e w1 ⟨v, hv, rfl, hS1, hg1⟩
    have hv := isBelow_lt hv (by omega)
    go_wp2_with fail
    go_ret
    exact ⟨lo + v, ⟨by omega, .inl (by omega)⟩, rfl, hS1, hg1⟩
set_option maxHeartbeats 400000 in
theorem flip_any (n : Int) (w : World) (B sb m : Nat) (hS : Strm 25 w B sb m) (hm : m ≤ 1000000000000) (hn1 : -9223372036854775808 ≤ n) (hn2 : n ≤ 9223372036854775807) :
    Calls Try.prog 11 #[.pointer (some ⟨sb, 0, none⟩), .int .i64 n] w (GotBool 25 w B sb (m + 1)) := by
  go_enter Try.func11, Try.ntmps11
  go_wp2_with fail
  refine (next_any _ _ B sb m hS hm hn1 hn2).mono ?_
  rintro e w1 ⟨v, hv, rfl, hS1, hg1⟩
  go_wp2_with fail
  go_ret
  exact ⟨_, rfl, hS1, hg1⟩
set_option maxHeartbeats 400000 in
theorem pick_any (xs : List Int) (g c : Nat) (T : TypeId) (w : World) (B sb m : Nat) (hS : Strm 25 w B sb m) (hm : m ≤ 1000000000000) (hx : 0 < xs.length) (hx2 : xs.length ≤ 1000000) (hg : Blk w g T (xs.map (Value.int .i64))) (hne : g ≠ sb) :
    Calls Try.prog 4 #[.pointer (some ⟨sb, 0, none⟩), .slice (some ⟨g, 0, none⟩) xs.length c] w (GotInt 25 w B sb (m + 1) (fun v => v ∈ xs)) := by
  obtain ⟨n, hn⟩ : ∃ n, n = xs.length := ⟨_, rfl⟩
  rw [← hn] at hx hx2 ⊢
  have Hn := Lib.hid hn; clear hn
  go_enter Try.func4, Try.ntmps4
  go_wp2_with fail
  refine (next_any _ _ B sb m hS hm (by omega) (by omega)).mono ?_
  rintro e w1 ⟨v, hv, rfl, hS1, hg1⟩
  have hv := isBelow_lt hv (by omega)
  obtain ⟨i, rfl⟩ := Int.eq_ofNat_of_zero_le hv.1
  have hi : i < n := by omega
  have hgb := hg.grown hg1 (by simpa using hne)
  obtain ⟨x, hx⟩ : ∃ x, xs[i]? = some x := ⟨_, List.getElem?_eq_getElem (by have := Hn.out; omega)⟩
  have hc : w1.cell? ⟨g, i, none⟩ = some (.int .i64 x) := hgb.cell_of (by simp [hx])
  have hmem : x ∈ xs := List.mem_of_getElem? hx
  clear hx hgb
  go_wp2_with fail
  go_ret
  exact ⟨x, hmem, rfl, hS1, hg1⟩
set_option maxHeartbeats 400000 in
theorem some_any (xs : List ByteArray) (g c : Nat) (T : TypeId) (w : World) (B sb m : Nat) (hS : Strm 25 w B sb m) (hm : m ≤ 1000000000000) (hx : 0 < xs.length) (hx2 : xs.length ≤ 1000000) (hg : Blk w g T (xs.map Value.string)) (hne : g ≠ sb) :
    Calls Try.prog 12 #[.pointer (some ⟨sb, 0, none⟩), .slice (some ⟨g, 0, none⟩) xs.length c] w (GotStr 25 w B sb (m + 1) (fun v => v ∈ xs)) := by
  obtain ⟨n, hn⟩ : ∃ n, n = xs.length := ⟨_, rfl⟩
  rw [← hn] at hx hx2 ⊢
  have Hn := Lib.hid hn; clear hn
  go_enter Try.func12, Try.ntmps12
  go_wp2_with fail
  refine (next_any _ _ B sb m hS hm (by omega) (by omega)).mono ?_
  rintro e w1 ⟨v, hv, rfl, hS1, hg1⟩
  have hv := isBelow_lt hv (by omega)
  obtain ⟨i, rfl⟩ := Int.eq_ofNat_of_zero_le hv.1
  have hi : i < n := by omega
  have hgb := hg.grown hg1 (by simpa using hne)
  obtain ⟨x, hx⟩ : ∃ x, xs[i]? = some x := ⟨_, List.getElem?_eq_getElem (by have := Hn.out; omega)⟩
  have hc : w1.cell? ⟨g, i, none⟩ = some (.string x) := hgb.cell_of (by simp [hx])
  have hmem : x ∈ xs := List.mem_of_getElem? hx
  clear hx hgb
  go_wp2_with fail
  go_ret
  exact ⟨x, hmem, rfl, hS1, hg1⟩
set_option maxHeartbeats 400000 in
theorem odd_any (lo hi : Int) (w : World) (B sb m : Nat) (hS : Strm 25 w B sb m) (hm : m ≤ 900000000000) (h1 : -1000000000000000 ≤ lo) (h2 : hi ≤ 1000000000000000) (h3 : lo ≤ hi) :
    Calls Try.prog 13 #[.pointer (some ⟨sb, 0, none⟩), .int .i64 lo, .int .i64 hi] w (GotInt 25 w B sb (m + 2) (fun v => -2000000000000000 ≤ v ∧ v ≤ 2000000000000000)) := by
  go_enter Try.func13, Try.ntmps13
  go_wp2_with fail
  refine (flip_any _ _ B sb m hS (by omega) (by omega) (by omega)).mono ?_
  rintro e w1 ⟨b, rfl, hS1, hg1⟩
  rcases b with _ | _
  · go_wp2_with fail
    refine (range_any _ _ _ B sb (m + 1) hS1 (by omega) (by omega) (by omega) (by omega) (by omega)).mono ?_
    rintro e w2 ⟨v, hv, rfl, hS2, hg2⟩
    go_wp2_with fail
    go_ret
    exact ⟨v, by omega, rfl, hS2, grow_trans hg1 hg2⟩
  · go_wp2_with fail
    refine (pick_any [lo - 1, hi + 1, lo, hi, -1099511627776, 1099511627776] _ _ _ _ B sb (m + 1) (hS1.alloc _) (by omega) (by simp) (by simp) (Blk.new _ _ _) (by have := hS1.lt; omega)).mono ?_
    rintro e w2 ⟨v, hv, rfl, hS2, hg2⟩
    go_wp2_with fail
    go_ret
    refine ⟨v, by simp at hv; omega, rfl, hS2, grow_trans hg1 (grow_trans (grow_alloc (World.grownBy.refl _ _) _) hg2)⟩
end Go.Proofs.Ytodcildcipfmcaa
namespace Go.Proofs.Ytodcildcipfmcaa
open Go.RowKit
theorem list14 (hs : List Int) (h : hs.length = 14) : ∃ a0 a1 a2 a3 a4 a5 a6 a7 a8 a9 a10 a11 a12 a13, hs = [a0, a1, a2, a3, a4, a5, a6, a7, a8, a9, a10, a11, a12, a13] := by
  match hs, h with
  | [a0, a1, a2, a3, a4, a5, a6, a7, a8, a9, a10, a11, a12, a13], _ => exact ⟨a0, a1, a2, a3, a4, a5, a6, a7, a8, a9, a10, a11, a12, a13, rfl⟩
def hourFr (hs : List Int) (d : Int) : Int := d * 1440 + frAt hs (d % 7).toNat
def hourTo (hs : List Int) (d : Int) : Int := d * 1440 + toAt hs (d % 7).toNat
def GotWin (w : World) (a b : Int) (e : Ending) (w' : World) : Prop := e = .returned (.agg #[.int .i64 a, .int .i64 b]) ∧ w.grownBy w' none
set_option maxRecDepth 100000 in
set_option maxHeartbeats 1000000 in
theorem hours_any (key : ByteArray) (hs : List Int) (d : Int) (w : World) (hl : hs.length = 14) (hd0 : 0 ≤ d) (hd1 : d ≤ 1000000000) (hb : ∀ h ∈ hs, -1000000000000000000 ≤ h ∧ h ≤ 1000000000000000000) :
    Calls Try.prog 40 #[.agg (stCells key hs).toArray, .int .i64 d] w (GotWin w (hourFr hs d) (hourTo hs d)) := by
  obtain ⟨j, hj⟩ : ∃ j : Nat, (j : Int) = d % 7 := ⟨(d % 7).toNat, by omega⟩
  have hj7 : j < 7 := by omega
  have hF : hourFr hs d = d * 1440 + frAt hs j := by unfold hourFr; rw [← hj]; simp
  have hT : hourTo hs d = d * 1440 + toAt hs j := by unfold hourTo; rw [← hj]; simp
  have hf : -1000000000000000000 ≤ frAt hs j ∧ frAt hs j ≤ 1000000000000000000 := by
    unfold frAt; rw [List.getD_eq_getElem?_getD, List.getElem?_eq_getElem (by omega)]; exact hb _ (List.getElem_mem _)
  have ht : -1000000000000000000 ≤ toAt hs j ∧ toAt hs j ≤ 1000000000000000000 := by
    unfold toAt; rw [List.getD_eq_getElem?_getD, List.getElem?_eq_getElem (by omega)]; exact hb _ (List.getElem_mem _)
  rw [hF, hT]
  have hvs : ((hs.map (Value.int .i64)).drop (j * 2)).take 2 = [.int .i64 (frAt hs j), .int .i64 (toAt hs j)] := hrs_pair hs j (by omega)
  generalize frAt hs j = f at *
  generalize toAt hs j = t at *
  have hvv : ∀ i v, [Value.int .i64 f, Value.int .i64 t][i]? = some v → (stCells key hs)[1 + j * 2 + i]? = some v := fun i v hv => by
    rw [← hvs, List.getElem?_take] at hv
    split at hv
    · rw [List.getElem?_drop] at hv
      rw [show 1 + j * 2 + i = (j * 2 + i) + 1 by omega]
      exact hv
    · cases hv
  have Hvv := Lib.hid hvv
  have hj' : d % 7 = (j : Int) := hj.symm
  have hbox : Blk ((w.alloc (.cells (stCells key hs).toArray 41)).alloc (.cells #[.int .i64 0, .int .i64 0] 38)) w.heap.size 41 (stCells key hs) := (Blk.at_ w rfl _ _).alloc _
  clear hvv hvs hF hT hj
  go_enter Try.func40, Try.ntmps40
  go_wp2_with (with_reducible refine wpList_load_blk rfl 38 (.tmp 9) rfl w.heap.size (1 + j * 2) _ (stCells key hs) [.int .i64 f, .int .i64 t] _ hbox rfl Try.underlying38 rfl 2 info_win (by simp) Hvv.out ?_)
  refine bodyPost_ret (v := .agg #[.int .i64 (d * 1440 + f), .int .i64 (d * 1440 + t)]) (by simp [results, Try.results40, go_sem]) rfl ⟨rfl, ?_⟩
  exact grow_alloc (grow_alloc (grow_alloc (World.grownBy.refl _ _) _) _) _
theorem stEnc_len {s : St} (h : StOk s) : (stEnc s).length = 15 := st_len _ _ h.1
theorem sl_one {key : ByteArray} {hs : List Int} {w : World} {g : Nat} (h : Blk w g 41 (stCells key hs)) : SlT stEnc 15 41 w (some ⟨g, 0, none⟩) 1 [⟨key, hs⟩] :=
  ⟨rfl, fun _ => ⟨g, 0, _, _, rfl, h, fun i x hx j v hv => by
    match i, hx with
    | 0, hx =>
      simp at hx; subst hx
      simpa [stEnc] using hv⟩⟩
set_option maxRecDepth 100000 in
set_option maxHeartbeats 1000000 in
theorem checkStation_any (key : ByteArray) (hs : List Int) (f : Int) (w : World) (hok : StOk ⟨key, hs⟩) :
    Calls Try.prog 39 #[.agg (stCells key hs).toArray, .int .i64 f] w fun e w' => e = .returned (.int .i64 (firstE [stationsE [⟨key, hs⟩], f])) ∧ w.grownBy w' none := by
  have hsl := fun (wz : World) (hz : wz.heap.size = w.heap.size + 1) => sl_one (Blk.at_ wz hz 41 (stCells key hs))
  have Hsl := Lib.hid hsl
  have Hok := Lib.hid hok
  clear hsl
  obtain ⟨a0, a1, a2, a3, a4, a5, a6, a7, a8, a9, a10, a11, a12, a13, rfl⟩ := list14 hs hok.1
  clear hok
  show Calls Try.prog 39 #[.agg #[.string key, .int .i64 a0, .int .i64 a1, .int .i64 a2, .int .i64 a3, .int .i64 a4, .int .i64 a5, .int .i64 a6, .int .i64 a7, .int .i64 a8, .int .i64 a9, .int .i64 a10, .int .i64 a11, .int .i64 a12, .int .i64 a13], .int .i64 f] w _
  go_enter Try.func39, Try.ntmps39
  go_wp2_with fail
  refine (checkStations_any [⟨key, [a0, a1, a2, a3, a4, a5, a6, a7, a8, a9, a10, a11, a12, a13]⟩] _ _ _ _ (Hsl.out (w.alloc (.cells #[.string key, .int .i64 a0, .int .i64 a1, .int .i64 a2, .int .i64 a3, .int .i64 a4, .int .i64 a5, .int .i64 a6, .int .i64 a7, .int .i64 a8, .int .i64 a9, .int .i64 a10, .int .i64 a11, .int .i64 a12, .int .i64 a13] 41)) (by simp)) (by intro s hs; simp at hs; subst hs; exact Hok.out) (by omega)).mono ?_
  rintro e w1 ⟨rfl, hg1⟩
  have hg1' : w.grownBy w1 none := grow_trans (grow_alloc (grow_alloc (World.grownBy.refl _ _) _) _) hg1
  obtain ⟨E, hE⟩ : ∃ E, E = stationsE [⟨key, [a0, a1, a2, a3, a4, a5, a6, a7, a8, a9, a10, a11, a12, a13]⟩] := ⟨_, rfl⟩
  rw [← hE]
  have HE := Lib.hid hE; clear hE
  go_wp2_with fail
  refine (first_any [E, f] _ _ _ _ (Blk.at_ _ rfl _ _) (by simp)).mono ?_
  rintro e w2 ⟨rfl, rfl⟩
  go_wp2_with fail
  go_ret
  exact ⟨by rw [← HE.out]; rfl, grow_alloc hg1' _⟩
def isOpenE (s : St) (at_ : Int) : Int := firstE [stationsE [s], momentE at_]
def isOpenV (s : St) (at_ : Int) : Bool := isOpenE s at_ == 0 && decide (hourFr s.hs (at_ / 1440) ≤ at_) && decide (at_ < hourTo s.hs (at_ / 1440))
end Go.Proofs.Ytodcildcipfmcaa
namespace Go.Proofs.Ytodcildcipfmcaa
open Go.RowKit
set_option maxRecDepth 100000 in
set_option maxHeartbeats 2000000 in
theorem lotOpen_any (key : ByteArray) (hs : List Int) (at_ : Int) (w : World) (hok : StOk ⟨key, hs⟩) (hb : ∀ h ∈ hs, -1000000000000000000 ≤ h ∧ h ≤ 1000000000000000000) :
    Calls Try.prog 18 #[.agg (stCells key hs).toArray, .int .i64 at_] w (RetBE w (isOpenV ⟨key, hs⟩ at_) (isOpenE ⟨key, hs⟩ at_)) := by
  have Hok := Lib.hid hok
  have Hb := Lib.hid hb
  clear hb
  obtain ⟨a0, a1, a2, a3, a4, a5, a6, a7, a8, a9, a10, a11, a12, a13, rfl⟩ := list14 hs hok.1
  clear hok
  show Calls Try.prog 18 #[.agg #[.string key, .int .i64 a0, .int .i64 a1, .int .i64 a2, .int .i64 a3, .int .i64 a4, .int .i64 a5, .int .i64 a6, .int .i64 a7, .int .i64 a8, .int .i64 a9, .int .i64 a10, .int .i64 a11, .int .i64 a12, .int .i64 a13], .int .i64 at_] w _
  go_enter Try.func18, Try.ntmps18
  go_wp2_with fail
  refine wp_region_still_tail 3 (by kernel_rfl) (by kernel_rfl) ?_
  change wpStill _ _ (World.drew _) _ _ _
  simp only [List.take_succ_cons, List.take_zero, List.drop_succ_cons, List.drop_zero]
  still_step
  still_step
  still_call ((moment_any at_ _).mono fun _ _ h => ⟨h.1, h.2.symm⟩)
  refine wpStill_nil ?_
  change wpList _ _ _ _ _ (World.drew _)
  go_wp2_with fail
  refine (checkStation_any key [a0, a1, a2, a3, a4, a5, a6, a7, a8, a9, a10, a11, a12, a13] _ _ Hok.out).mono ?_
  rintro e w1 ⟨rfl, hg1⟩
  obtain ⟨E, hE⟩ : ∃ E, E = isOpenE ⟨key, [a0, a1, a2, a3, a4, a5, a6, a7, a8, a9, a10, a11, a12, a13]⟩ at_ := ⟨_, rfl⟩
  rw [show firstE [stationsE [⟨key, [a0, a1, a2, a3, a4, a5, a6, a7, a8, a9, a10, a11, a12, a13]⟩], momentE at_] = E from hE.symm]
  have HE := Lib.hid hE; clear hE
  have hbox : Blk w1 w.heap.size 41 (stCells key [a0, a1, a2, a3, a4, a5, a6, a7, a8, a9, a10, a11, a12, a13]) := ((Blk.at_ w rfl _ _).drewN 1).grown hg1 (by simp)
  have hgw : w.grownBy w1 none := grow_trans (grow_drew (grow_alloc (World.grownBy.refl _ _) _)) hg1
  clear hg1
  by_cases h0 : E = 0
  · have hm := momentE_ok (firstE_two (HE.out.symm.trans h0)).2
    have hdv : at_.tdiv 1440 = at_ / 1440 := Int.tdiv_eq_ediv_of_nonneg hm.1
    have hd0 : 0 ≤ at_ / 1440 := by omega
    have hd1 : at_ / 1440 ≤ 1000000000 := by omega
    obtain ⟨d, hd⟩ : ∃ d, d = at_ / 1440 := ⟨_, rfl⟩
    have hV : isOpenV ⟨key, [a0, a1, a2, a3, a4, a5, a6, a7, a8, a9, a10, a11, a12, a13]⟩ at_ = (decide (hourFr [a0, a1, a2, a3, a4, a5, a6, a7, a8, a9, a10, a11, a12, a13] d ≤ at_) && decide (at_ < hourTo [a0, a1, a2, a3, a4, a5, a6, a7, a8, a9, a10, a11, a12, a13] d)) := by
      unfold isOpenV
      rw [← HE.out, h0, ← hd]; rfl
    rw [← hd] at hdv hd0 hd1
    have hd' : at_ / 1440 = d := hd.symm
    have HV := Lib.hid hV
    subst h0
    clear hV hd
    go_wp2_with (with_reducible refine wpList_load_all rfl 41 (.tmp 2) rfl w.heap.size _ (stCells key [a0, a1, a2, a3, a4, a5, a6, a7, a8, a9, a10, a11, a12, a13]) _ hbox rfl Try.underlying41 rfl 15 info_st rfl ?_)
    refine (hours_any key [a0, a1, a2, a3, a4, a5, a6, a7, a8, a9, a10, a11, a12, a13] _ _ rfl hd0 hd1 Hb.out).mono ?_
    rintro e w2 ⟨rfl, hg2⟩
    have hgw2 := grow_trans hgw hg2
    obtain ⟨F, hF⟩ : ∃ F, F = hourFr [a0, a1, a2, a3, a4, a5, a6, a7, a8, a9, a10, a11, a12, a13] d := ⟨_, rfl⟩
    obtain ⟨T, hT⟩ : ∃ T, T = hourTo [a0, a1, a2, a3, a4, a5, a6, a7, a8, a9, a10, a11, a12, a13] d := ⟨_, rfl⟩
    rw [← hF, ← hT] at HV ⊢
    clear hF hT hbox hgw hg2
    go_wp2_with fail
    all_goals
      go_ret2
      exact ⟨ret_be (by rw [HV.out]; simp [*] <;> (intros; omega)) HE.out, grow_alloc hgw2 _⟩
  · have hne : (E != 0) = true := by simpa using h0
    have hV : isOpenV ⟨key, [a0, a1, a2, a3, a4, a5, a6, a7, a8, a9, a10, a11, a12, a13]⟩ at_ = false := by
      unfold isOpenV
      rw [← HE.out]; simp [h0]
    have HV := Lib.hid hV
    clear hV h0
    go_wp2_with fail
    go_ret2
    exact ⟨ret_be HV.out.symm HE.out, hgw⟩
end Go.Proofs.Ytodcildcipfmcaa
namespace Go.Proofs.Ytodcildcipfmcaa
open Go.RowKit
/-- The next opening from day d on; n days are left. -/
def nextFrom (hs : List Int) (at_ : Int) : Nat → Int → Option Int
  | 0, _ => none
  | n + 1, d => if max at_ (hourFr hs d) < hourTo hs d then some (max at_ (hourFr hs d)) else nextFrom hs at_ n (d + 1)
end Go.Proofs.Ytodcildcipfmcaa
namespace Go.Proofs.Ytodcildcipfmcaa
def frD (hs : List Int) (d : Int) : Int := frAt hs (d % 7).toNat
def toD (hs : List Int) (d : Int) : Int := toAt hs (d % 7).toNat
theorem hourFr_eq (hs : List Int) (d : Int) : hourFr hs d = d * 1440 + frD hs d := rfl
theorem hourTo_eq (hs : List Int) (d : Int) : hourTo hs d = d * 1440 + toD hs d := rfl
section
variable {hs : List Int} {at_ : Int}
theorem never (h : ∀ e, ¬ frD hs e < toD hs e) : ∀ (n : Nat) (d : Int), nextFrom hs at_ n d = none
  | 0, _ => rfl
  | n + 1, d => by
    have h1 := h d
    rw [nextFrom, if_neg (by rw [hourFr_eq, hourTo_eq]; omega)]
    exact never h n (d + 1)
end
end Go.Proofs.Ytodcildcipfmcaa
namespace Go.Proofs.Ytodcildcipfmcaa
open Go.RowKit
section
variable {P : Program} {c : Cx} {ops : Array Oper} {Q : Exit → Act → World → Prop} {rest : List Oper} {S : List (Nat × Value)} {K : World → Prop} {L : List (Nat × TypeId × List Value)} {O : List Own} {X : List (World → Prop)}
variable {d : Nat} {ty : TypeId} {pos : String} {aft : Array Edge}
theorem wl_callr {f : FuncId} {x : Operand} {ags : List Operand} {ats : Array TypeId} {vs fs cs : List Value} {v : Value} {r : Own} {xs' : List Value} (i : Nat) (hO : O[i]? = some r) (hT : c.Tt.contains r.e = false) (hx : rd S x = some (.func (.func f) fs.toArray cs.toArray)) (hf : callableB P f = true) (ha : evArgs S ags = some vs) (hd : Nat.ble (d + 1) c.n = true)
    (hC : ∀ w, Mem c K L O X w → Calls P f (fs ++ vs ++ cs).toArray w (fun e w' => e = .returned v ∧ w'.ownsRow c.w0.heap.size r.e r.sz r.v r.n xs' ∧ w.grownBy w' r.v.ownBlock)) (h : WL P c ops Q rest ((d, v) :: S) K L (setOwn ⟨r.v, r.e, r.sz, r.n, xs'⟩ O i) X) :
    WL P c ops Q (⟨some d, .call ⟨.value x, ags.toArray, ats⟩, ty, pos, aft, none⟩ :: rest) S K L O X :=
  wl_callG (γ := Unit) (val := fun _ => v) (φ := fun _ => True) (K' := fun _ => K) (L' := fun _ => L) (O' := fun _ => setOwn ⟨r.v, r.e, r.sz, r.n, xs'⟩ O i) (X' := fun _ => X) hx hf ha hd (fun w hm => (hC w hm).mono fun _ _ ⟨he, ho, hg⟩ => ⟨(), he, trivial, hm.append hO hT ho hg (.inl rfl)⟩) (fun _ _ => h)
end
end Go.Proofs.Ytodcildcipfmcaa
namespace Go.Proofs.Ytodcildcipfmcaa
open Go.RowKit
section
variable {c : Cx} {K : World → Prop} {L : List (Nat × TypeId × List Value)} {O : List Own} {X : List (World → Prop)} {w w' : World}
theorem Mem.blkFar (h : Mem c K L O X w) (i j : Nat) {g br : Nat} {T e : TypeId} {cs : List Value} {n cap sz n' : Nat} {xs : List Value} (hi : L[i]? = some (g, T, cs)) (hj : O[j]? = some ⟨.slice (some ⟨br, 0, none⟩) n cap, e, sz, n', xs⟩) : BlkOld w.heap.size (some br) g T cs w :=
  ⟨⟨(h.blkI i hi).lt, fun e => h.od _ (List.mem_of_getElem? hj) _ (List.mem_of_getElem? hi) e⟩, h.blkI i hi⟩
end
section
variable {P : Program} {nn : Nat} {S : List (Nat × Value)} {Z : World → Prop} {d : Nat} {ty : TypeId} {pos : String} {aft : Array Edge}
/-- Two strings, one behind the other. -/
theorem ov_sadd {t t' : TypeId} {x y : Operand} {m n : ByteArray} (hx : rd S x = some (.string m)) (hy : rd S y = some (.string n)) (h : m.size + n.size ≤ 9223372036854775807) : OV P nn S Z ⟨some d, .binOp .add t x y t', ty, pos, aft, none⟩ (.string (m ++ n)) :=
  ov_bin hx hy (fun w => by
    have e := run_string_add_sum (P := P) w m n h
    simp [binOp_string_add, e, go_sem])
end
end Go.Proofs.Ytodcildcipfmcaa
namespace Go.Proofs.Ytodcildcipfmcaa
open Go.RowKit
def evC (c1 c2 c3 c4 c5 c6 c7 : Bool) : Int := if c1 = true then 1 else if c2 = true then 8 else if c3 = true then 4 else if c4 = true then 3 else if c5 = true then 8 else if c6 = true then 14 else if c7 = true then 7 else 0
theorem evE_eq {ss : List St} {vs : List Vh} {p : Option Ev} {e0 : Int} {e1 e2 : ByteArray} {e3 : Int} {e4 : ByteArray} : evE ss vs p ⟨e0, e1, e2, e3, e4⟩ = evC (!inB e0 0 5761439) (decide (ixP (vhP e1) vs 0 < 0) || !ss.any (stP e2)) (!inB e3 1 8) (!decide (e3 = 6) && !(e4.toList == (⟨#[]⟩ : ByteArray).toList)) (decide (e3 = 6) && !ss.any (stP e4)) (e4.toList == e2.toList) (evO p ⟨e0, e1, e2, e3, e4⟩) := by
  unfold evE evC
  cases inB e0 0 5761439 <;> cases inB e3 1 8 <;> rfl
theorem stHas_pred (key : ByteArray) (h0 h1 h2 h3 h4 h5 h6 h7 h8 h9 h10 h11 h12 h13 : Int) (gk : Nat) (k : ByteArray) (w : World) (hk : Blk w gk 9 [.string k]) :
  Calls Try.prog 45 #[.agg #[.string key, .int .i64 h0, .int .i64 h1, .int .i64 h2, .int .i64 h3, .int .i64 h4, .int .i64 h5, .int .i64 h6, .int .i64 h7, .int .i64 h8, .int .i64 h9, .int .i64 h10, .int .i64 h11, .int .i64 h12, .int .i64 h13], .pointer (some ⟨gk, 0, none⟩)] w (fun e w' => e = .returned (.bool (stP k ⟨key, [h0, h1, h2, h3, h4, h5, h6, h7, h8, h9, h10, h11, h12, h13]⟩)) ∧ w.grownBy w' none) := by
 refine gw_enter ⟨8, w, none, []⟩ Try.func45 rfl Try.ntmps45 rfl (mem0 (X := [BlkOld w.heap.size none gk 9 [.string k]]) (allF_cons hk.old allF_nil) (allL_cons BlkOld.lasts allL_nil)) ?_
 refine sr_ ?_
 refine wl_box rfl rfl rfl fun g1 => ?_
 refine sg_ rfl (nn_ (sr_ (fd_ fo41_0 rfl rfl (lk_ sc9 0 rfl rfl rfl ?_))))
 refine wl_ov (ov_load (v := .string k) sc9 rfl (fun _ hm => (hm.fact 0 rfl).2) rfl) rfl ?_
 refine wl_ov (ov_seql rfl rfl) rfl (sg_ rfl (nn_ ?_))
 refine gw_ret ?_
 refine nx_ret1 rfl rfl fun wx hm => ?_
 exact ⟨rfl, hm.g⟩
theorem stHas_ix (l : List St) (A : Option Addr) (n c0 : Nat) (gk : Nat) (k : ByteArray) (w : World) (hl : SlT stEnc 15 41 w A n l) (hok : ∀ x ∈ l, StOk x) (hn : n ≤ 1000000) (hk : Blk w gk 9 [.string k]) :
  Calls Try.prog 62 #[.slice A n c0, .func (.func 45) #[] #[.pointer (some ⟨gk, 0, none⟩)]] w (GotE w (ixP (stP k) l 0)) := by
 refine gw_enter ⟨19, w, none, []⟩ Try.func62 rfl Try.ntmps62 rfl (mem0 (X := [SlOld stEnc 15 41 w.heap.size none A n l, BlkOld w.heap.size none gk 9 [.string k]]) (allF_cons hl.old (allF_cons hk.old allF_nil)) (allL_cons SlOld.lasts (allL_cons BlkOld.lasts allL_nil))) ?_
 refine sr_ ?_
 have hlen := hl.len
 refine sg_ rfl (nn_ (gw_seq (sr_ (mv_ rfl (wl_ov (ov_len es29 rfl) rfl (mv_ rfl (nn_ (gw_block ?_))))))))
 refine gw_loop (γ := Nat) (fun (i : Nat) => i ≤ n ∧ ixP (stP k) l 0 = ixP (stP k) (l.drop i) i) (fun (i : Nat) => [(0, .slice A n c0), (1, .func (.func 45) #[] #[.pointer (some ⟨gk, 0, none⟩)]), (7, .int .i64 ((n : Nat) : Int)), (8, .int .i64 ((i : Nat) : Int))]) (fun (i : Nat) => fun _ => True) (fun (i : Nat) => []) (fun (i : Nat) => []) (fun (i : Nat) => [SlOld stEnc 15 41 w.heap.size none A n l, BlkOld w.heap.size none gk 9 [.string k]]) (fun (i : Nat) => n - i) 0 ⟨Nat.zero_le _, rfl⟩ ⟨rfl, rfl, rfl, rfl, trivial⟩ (fun _ hm => hm.pick [] [] [0, 1] rfl rfl) ?_
 intro i hinv
 replace hinv : i ≤ n ∧ ixP (stP k) l 0 = ixP (stP k) (l.drop i) i := hinv
 refine sr_ (wl_ov (ov_lss rfl rfl) rfl (nn_ (gw_seq ?_)))
 refine gw_cond rfl (fun hh => ?_) (fun hh => ?_)
 ·have hi : ((i : Nat) : Int) < ((n : Nat) : Int) := by simpa using hh
  clear hh
  refine gw_skip (nx_then (gw_seq (gw_block (sr_ ?_))))
  obtain ⟨b, off, hA, _, _⟩ := hl.get (by omega)
  subst hA
  obtain ⟨x, hx⟩ : ∃ x, l[i]? = some x := ⟨_, List.getElem?_eq_getElem (by omega)⟩
  have hat := ixP_at (p := stP k) hx
  have hso := hok _ (List.mem_of_getElem? hx)
  obtain ⟨key, hs⟩ := x
  obtain ⟨h0, h1, h2, h3, h4, h5, h6, h7, h8, h9, h10, h11, h12, h13, rfl⟩ := list14 hs hso.1
  refine mv_ rfl (sg_ rfl (nn_ (sr_ (mv_ rfl (mv_ rfl (mv_ rfl ?_))))))
  refine wl_ov (ov_index (j := i) es29 rfl rfl (by omega)) rfl ?_
  refine wl_ov (ov_elem (vs := [.string key, .int .i64 h0, .int .i64 h1, .int .i64 h2, .int .i64 h3, .int .i64 h4, .int .i64 h5, .int .i64 h6, .int .i64 h7, .int .i64 h8, .int .i64 h9, .int .i64 h10, .int .i64 h11, .int .i64 h12, .int .i64 h13]) rz41 rfl (fun _ hm => (hm.fact 0 rfl).1) hx rfl rfl) rfl ?_
  refine wl_callv rfl cb45 rfl rfl (fun wx hm => (stHas_pred key h0 h1 h2 h3 h4 h5 h6 h7 h8 h9 h10 h11 h12 h13 gk k wx (hm.fact 1 rfl).2)) ?_
  refine nn_ ?_
  refine gw_cond rfl (fun hh => ?_) (fun hh => ?_)
  ·have hq : (stP k ⟨key, [h0, h1, h2, h3, h4, h5, h6, h7, h8, h9, h10, h11, h12, h13]⟩) = true := by simpa using hh
   clear hh
   refine sr_ (mv_ rfl (sg_ rfl (nn_ ?_)))
   refine gw_ret ?_
   refine nx_blk_ret (nx_then_ret (nx_then_ret (nx_blk_ret (nx_then_ret ?_))))
   refine nx_ret1 rfl rfl fun wx hm => ?_
   exact ⟨ret_int (by rw [hinv.2, hat, if_pos hq]), hm.g⟩
  have hq : (stP k ⟨key, [h0, h1, h2, h3, h4, h5, h6, h7, h8, h9, h10, h11, h12, h13]⟩) = false := by simpa using hh
  clear hh
  refine gw_skip (nx_blk_nrm (nx_then (gw_region (ad_ rfl rfl (mv_ rfl (wl_nil ?_))))))
  exact nx_round (i + 1) ⟨by omega, by rw [hinv.2, hat, if_neg (by rw [hq]; decide)]⟩ (by omega) ⟨rfl, rfl, rfl, (some_int (by omega)), trivial⟩ (fun _ hm => hm.pick [] [] [0, 1] rfl rfl)
 have hi : ¬ (((i : Nat) : Int) < ((n : Nat) : Int)) := by simpa using hh
 clear hh
 refine gw_exit ?_
 refine nx_then_exit (nx_then_exit ?_)
 refine nx_blk_here ?_
 refine nx_then (sr_ (sg_ rfl ?_))
 refine wl_set 4 (v' := .int .i64 (-1)) rfl rfl ?_
 refine nn_ ?_
 refine gw_ret ?_
 refine nx_ret1 rfl rfl fun wx hm => ?_
 exact ⟨ret_int (by rw [hinv.2, List.drop_eq_nil_of_le (by omega)]; rfl), hm.g⟩
theorem stHas_cf (l : List St) (A : Option Addr) (n c0 : Nat) (gk : Nat) (k : ByteArray) (w : World) (hl : SlT stEnc 15 41 w A n l) (hok : ∀ x ∈ l, StOk x) (hn : n ≤ 1000000) (hk : Blk w gk 9 [.string k]) :
  Calls Try.prog 44 #[.slice A n c0, .func (.func 45) #[] #[.pointer (some ⟨gk, 0, none⟩)]] w (fun e w' => e = .returned (.bool (l.any (stP k))) ∧ w.grownBy w' none) := by
 refine gw_enter ⟨9, w, none, []⟩ Try.func44 rfl Try.ntmps44 rfl (mem0 (X := [SlOld stEnc 15 41 w.heap.size none A n l, BlkOld w.heap.size none gk 9 [.string k]]) (allF_cons hl.old (allF_cons hk.old allF_nil)) (allL_cons SlOld.lasts (allL_cons BlkOld.lasts allL_nil))) ?_
 refine sr_ (sg_ rfl (nn_ (sr_ (mv_ rfl (mv_ rfl ?_)))))
 refine wl_callv rfl cb62 rfl rfl (fun wx hm => (stHas_ix l A n c0 gk k wx (hm.fact 0 rfl).1 hok hn (hm.fact 1 rfl).2)) ?_
 refine wl_ov (ov_geq rfl rfl) rfl ?_
 refine sg_ rfl (nn_ ?_)
 refine gw_ret ?_
 refine nx_ret1 rfl rfl fun wx hm => ?_
 exact ⟨by rw [← ix_any], hm.g⟩
theorem hasStation_any (sl : List St) (sA cA vA pA : Option Addr) (sn sc cn cc vn vc pn pc : Nat) (k : ByteArray) (w : World) (hs : SlT stEnc 15 41 w sA sn sl) (hsok : ∀ x ∈ sl, StOk x) (hsn : sn ≤ 1000000) :
  Calls Try.prog 22 #[.agg #[.slice sA sn sc, .slice cA cn cc, .slice vA vn vc, .slice pA pn pc], .string k] w (fun e w' => e = .returned (.bool (sl.any (stP k))) ∧ w.grownBy w' none) := by
 refine gw_enter ⟨9, w, none, []⟩ Try.func22 rfl Try.ntmps22 rfl (mem0 (X := [SlOld stEnc 15 41 w.heap.size none sA sn sl]) (allF_cons hs.old allF_nil) (allL_cons SlOld.lasts allL_nil)) ?_
 refine sr_ ?_
 refine wl_box rfl rfl rfl fun g1 => ?_
 refine wl_box rfl rfl rfl fun g2 => ?_
 refine sg_ rfl (nn_ (sr_ (fd_ fo33_0 rfl rfl (lk_ sc29 1 rfl rfl rfl (wl_ov (ov_makeFunc rfl rfl) rfl ?_)))))
 refine wl_callv rfl cb44 rfl rfl (fun wx hm => (stHas_cf sl sA sn sc _ k wx (hm.fact 0 rfl).1 hsok hsn (hm.blkI 0 rfl))) ?_
 refine sg_ rfl (nn_ ?_)
 refine gw_ret ?_
 refine nx_ret1 rfl rfl fun wx hm => ?_
 exact ⟨rfl, hm.g⟩
theorem byTime_any (p0 : Int) (p1 p2 : ByteArray) (p3 : Int) (p4 : ByteArray) (e0 : Int) (e1 e2 : ByteArray) (e3 : Int) (e4 : ByteArray) (w : World) : Calls Try.prog 61 #[.agg #[.int .i64 p0, .string p1, .string p2, .int .i64 p3, .string p4], .agg #[.int .i64 e0, .string e1, .string e2, .int .i64 e3, .string e4]] w (GotE w (evOrd (⟨p0, p1, p2, p3, p4⟩ : Ev) (⟨e0, e1, e2, e3, e4⟩ : Ev))) := by
 refine gw_enter ⟨17, w, none, []⟩ Try.func61 rfl Try.ntmps61 rfl (mem0 (X := []) allF_nil allL_nil) ?_
 refine sr_ ?_
 refine wl_box rfl rfl rfl fun g1 => ?_
 refine wl_box rfl rfl rfl fun g2 => ?_
 refine sg_ rfl (nn_ (gw_seq ?_))
 refine gd (fun wz => Blk wz g2 48 [.int .i64 e0, .string e1, .string e2, .int .i64 e3, .string e4] ∧ Blk wz g1 48 [.int .i64 p0, .string p1, .string p2, .int .i64 p3, .string p4] ∧ True) mixed (fun _ hm => ⟨hm.bl 0, hm.bl 1, trivial⟩) fun z => ?_
 refine wt 0 13 1 rfl z (ov_field fo48_0 rfl rfl) ?_
 refine wt 1 13 3 rfl z (ov_load sc3 rfl (fun _ hm => hm.2.1) rfl) ?_
 refine wt 2 13 7 rfl z (ov_field fo48_0 rfl rfl) ?_
 refine wt 3 13 15 rfl z (ov_load sc3 rfl (fun _ hm => hm.1) rfl) ?_
 refine wt 5 13 47 rfl z (ov_field fo48_1 rfl rfl) ?_
 refine wt 6 13 111 rfl z (ov_load sc9 rfl (fun _ hm => hm.2.1) rfl) ?_
 refine wt 7 13 239 rfl z (ov_field fo48_1 rfl rfl) ?_
 refine wt 8 13 495 rfl z (ov_load sc9 rfl (fun _ hm => hm.1) rfl) ?_
 refine wa1 4 rfl ?_
 refine wl_callv rfl cb29 rfl rfl (fun wx hm => (cmp_int _ _ wx)) ?_
 refine wl_nil ?_
 refine nw 13 511 (fun _ hm => ⟨hm.bl 0, hm.bl 1, trivial⟩) fun z => ?_
 refine wa1 9 rfl ?_
 refine wl_callv rfl cb66 rfl rfl (fun wx hm => (cmp_string _ _ wx)) ?_
 refine wl_nil ?_
 refine nw 13 1023 (fun _ hm => ⟨hm.bl 0, hm.bl 1, trivial⟩) fun z => ?_
 refine wa1 10 rfl ?_
 refine wl_buildSlice (e := 3) (cs := [.int .i64 (cmpI p0 e0), .int .i64 (cmpS p1 e1)]) rfl (by kernel_rfl) rfl fun g3 => ?_
 refine wl_nil ?_
 refine nw 13 2047 (fun _ hm => ⟨hm.bl 1, hm.bl 2, trivial⟩) fun z => ?_
 refine wa1 11 rfl ?_
 refine wl_callv rfl cb65 rfl rfl (fun wx hm => (or_two _ _ _ _ _ wx (hm.blkI 0 rfl))) ?_
 refine wl_nil ?_
 refine nw 13 4095 (fun _ hm => ⟨hm.bl 1, hm.bl 2, trivial⟩) fun z => ?_
 refine wt 12 13 8191 rfl z (ov_assign rfl) ?_
 refine wa_done (by kernel_rfl) ?_
 refine nx_then ?_
 refine gw_ret ?_
 refine nx_ret1 rfl rfl fun wx hm => ?_
 exact ⟨ret_int (by unfold evOrd; rfl), hm.g⟩
theorem check_any (sl : List St) (vl : List Vh) (sA cA vA pA : Option Addr) (sn sc cn cc vn vc pn pc : Nat) (el : List Ev) (eA : Option Addr) (en ec : Nat) (w : World) (hs : SlT stEnc 15 41 w sA sn sl) (hv : SlT vhEnc 2 46 w vA vn vl) (hsok : ∀ x ∈ sl, StOk x) (hsn : sn ≤ 1000000) (hvn : vn ≤ 1000000) (hl : SlT evEnc 5 48 w eA en el) (heok : ∀ x ∈ el, EvOk x) (hen : en ≤ 1000000) (hrise : Rise vl) :
  Calls Try.prog 42 #[.agg #[.slice sA sn sc, .slice cA cn cc, .slice vA vn vc, .slice pA pn pc], .slice eA en ec] w (GotE w (logE sl vl el)) := by
 refine gw_enter ⟨81, w, none, []⟩ Try.func42 rfl Try.ntmps42 rfl (mem0 (X := [SlOld stEnc 15 41 w.heap.size none sA sn sl, SlOld vhEnc 2 46 w.heap.size none vA vn vl, SlOld evEnc 5 48 w.heap.size none eA en el]) (allF_cons hs.old (allF_cons hv.old (allF_cons hl.old allF_nil))) (allL_cons SlOld.lasts (allL_cons SlOld.lasts (allL_cons SlOld.lasts allL_nil)))) ?_
 refine sr_ ?_
 have hlen := hl.len
 refine wl_box rfl rfl rfl fun g1 => ?_
 refine sg_ rfl (nn_ (gw_seq (sr_ (mv_ rfl (wl_ov (ov_len es34 rfl) rfl ?_)))))
 refine wl_ov (ov_gtr rfl rfl) rfl ?_
 refine nn_ ?_
 refine gw_cond rfl (fun hh => ?_) (fun hh => ?_)
 ·have h1 : 3000 < ((en : Nat) : Int) := by simpa using hh
  clear hh
  refine sr_ (sg_ rfl (nn_ ?_))
  refine gw_ret ?_
  refine nx_then_ret ?_
  refine nx_ret1 rfl rfl fun wx hm => ?_
  exact ⟨ret_int (by unfold logE; rw [if_pos (by omega)]), hm.g⟩
 have h1 : ¬ (3000 < ((en : Nat) : Int)) := by simpa using hh
 clear hh
 refine gw_skip (nx_then (gw_seq (sr_ (mv_ rfl (wl_ov (ov_len es34 rfl) rfl (mv_ rfl (nn_ (gw_block ?_))))))))
 refine gw_loop (γ := Nat) (fun (i : Nat) => i ≤ en ∧ logE sl vl el = scanE (evE sl vl) (prevOf el i) (el.drop i)) (fun (i : Nat) => [(1, .slice eA en ec), (2, .pointer (some ⟨g1, 0, none⟩)), (11, .slice eA en ec), (12, .int .i64 ((en : Nat) : Int)), (13, .int .i64 ((i : Nat) : Int))]) (fun (i : Nat) => fun _ => True) (fun (i : Nat) => [(g1, 33, [.slice sA sn sc, .slice cA cn cc, .slice vA vn vc, .slice pA pn pc])]) (fun (i : Nat) => []) (fun (i : Nat) => [SlOld stEnc 15 41 w.heap.size none sA sn sl, SlOld vhEnc 2 46 w.heap.size none vA vn vl, SlOld evEnc 5 48 w.heap.size none eA en el]) (fun (i : Nat) => en - i) 0 ⟨Nat.zero_le _, by unfold logE; rw [if_neg (by omega)]; rfl⟩ ⟨rfl, rfl, rfl, rfl, rfl, trivial⟩ (fun _ hm => hm.pick [0] [] [0, 1, 2] rfl rfl) ?_
 intro i hinv
 replace hinv : i ≤ en ∧ logE sl vl el = scanE (evE sl vl) (prevOf el i) (el.drop i) := hinv
 refine sr_ ?_
 obtain ⟨hi0, hsc⟩ := hinv
 refine wl_ov (ov_lss rfl rfl) rfl (nn_ (gw_seq ?_))
 refine gw_cond rfl (fun hh => ?_) (fun hh => ?_)
 ·have hi : ((i : Nat) : Int) < ((en : Nat) : Int) := by simpa using hh
  clear hh
  refine gw_skip (nx_then (gw_seq (gw_block (sr_ ?_))))
  obtain ⟨b, off, hA, _, _⟩ := hl.get (by omega)
  subst hA
  obtain ⟨x, hx⟩ : ∃ x, el[i]? = some x := ⟨_, List.getElem?_eq_getElem (by omega)⟩
  obtain ⟨e0, e1, e2, e3, e4⟩ := x
  have hat := scanE_at (evE sl vl) el i _ hx
  obtain ⟨he0, he3, hz1, hz2, hz4⟩ := heok _ (List.mem_of_getElem? hx)
  have he0 : -4000000000000000000 ≤ e0 ∧ e0 ≤ 4000000000000000000 := he0
  have hz1 : e1.size ≤ 1000000 := hz1
  refine mv_ rfl ?_
  refine wl_ov (ov_index (j := i) es34 rfl rfl (by omega)) rfl ?_
  refine wl_ov (ov_elem (vs := [.int .i64 e0, .string e1, .string e2, .int .i64 e3, .string e4]) rz48 rfl (fun _ hm => (hm.fact 2 rfl).1) hx rfl rfl) rfl ?_
  refine wl_alloc zc48 rfl fun g2 => ?_
  refine sg_ rfl ?_
  refine wl_stores (cs' := [.int .i64 e0, .string e1, .string e2, .int .i64 e3, .string e4]) 0 rz48 rfl rfl rfl rfl rfl rfl rfl rfl ?_
  refine nn_ (sr_ (fd_ fo48_3 rfl rfl (lk_ sc3 0 rfl rfl rfl (wl_ov (ov_eql rfl rfl) rfl (sg_ rfl (nn_ (gw_block (sr_ (fd_ fo48_0 rfl rfl ?_)))))))))
  refine lk_ sc3 0 rfl rfl rfl ?_
  refine wl_callv rfl cb48 rfl rfl (fun wx hm => ((isMoment_any _ wx).mono fun _ _ ⟨he, hw⟩ => ⟨he, hw ▸ World.grownBy.refl _ _⟩)) ?_
  refine wl_ov (ov_un_not rfl) rfl (sg_ rfl (nn_ ?_))
  rcases Bool.eq_false_or_eq_true (!(inB e0 0 5761439)) with h2 | h2
  ·refine gw_set 21 rfl (congrArg Value.bool h2) ?_
   have h2' : (inB e0 0 5761439) = false := by simpa only [Bool.not_eq_true', Bool.not_eq_false'] using h2
   refine ct_ rfl (sr_ (sg_ rfl (nn_ ?_)))
   refine gw_ret ?_
   refine nx_blk_ret (nx_blk_ret (nx_then_ret (nx_then_ret (nx_blk_ret (nx_then_ret ?_)))))
   have hE : evE sl vl (prevOf el i) (⟨e0, e1, e2, e3, e4⟩ : Ev) = 1 := by rw [evE_eq, h2']; rfl
   have hF : logE sl vl el = 1 := by rw [hsc, hat, if_neg (by rw [hE]; decide), hE]
   refine nx_ret1 rfl rfl fun wx hm => ?_
   exact ⟨ret_int (by rw [hF]), hm.g⟩
  refine gw_set 21 rfl (congrArg Value.bool h2) ?_
  have h2' : (inB e0 0 5761439) = true := by simpa only [Bool.not_eq_true', Bool.not_eq_false'] using h2
  refine cf_ rfl (sr_ ?_)
  refine wl_ov (ov_loads rz33 rfl (fun _ hm => hm.blkI 1 rfl) rfl rfl) rfl ?_
  refine fd_ fo48_1 rfl rfl (lk_ sc9 0 rfl rfl rfl ?_)
  refine wl_callv rfl cb60 rfl rfl (fun wx hm => (vehicleAt_any vl sA cA vA pA sn sc cn cc vn vc pn pc e1 wx (hm.fact 1 rfl).1 (by omega) hrise)) ?_
  refine wl_ov (ov_lss rfl rfl) rfl (mv_ rfl ?_)
  rcases Bool.eq_false_or_eq_true (decide (ixP (vhP e1) vl 0 < 0)) with h3 | h3
  ·refine wl_set 32 rfl (congrArg Value.bool h3) ?_
   refine goff rfl rfl rfl (goff rfl rfl rfl (goff rfl rfl rfl (goff rfl rfl rfl (goff rfl rfl rfl (pt_ rfl rfl (sg_ rfl (nn_ (ct_ rfl (sr_ (sg_ rfl (wl_nil ?_)))))))))))
   refine nx_then ?_
   refine gw_ret ?_
   refine nx_blk_ret (nx_blk_ret (nx_then_ret (nx_then_ret (nx_blk_ret (nx_then_ret ?_)))))
   have hE : evE sl vl (prevOf el i) (⟨e0, e1, e2, e3, e4⟩ : Ev) = 8 := by rw [evE_eq, h2', h3]; rfl
   have hF : logE sl vl el = 8 := by rw [hsc, hat, if_neg (by rw [hE]; decide), hE]
   refine nx_ret1 rfl rfl fun wx hm => ?_
   exact ⟨ret_int (by rw [hF]), hm.g⟩
  refine wl_set 32 rfl (congrArg Value.bool h3) ?_
  refine wl_guard_on rfl rfl rfl ?_
  refine wl_ov (ov_loads rz33 rfl (fun _ hm => hm.blkI 1 rfl) rfl rfl) rfl ?_
  refine wl_guard_on rfl rfl rfl (fd_ fo48_2 rfl rfl (wl_guard_on rfl rfl rfl (lk_ sc9 0 rfl rfl rfl (wl_guard_on rfl rfl rfl ?_))))
  refine wl_callv rfl cb22 rfl rfl (fun wx hm => (hasStation_any sl sA cA vA pA sn sc cn cc vn vc pn pc e2 wx (hm.fact 0 rfl).1 hsok (by omega))) ?_
  refine wl_guard_on rfl rfl rfl (wl_ov (ov_un_not rfl) rfl (pf_ rfl rfl (sg_ rfl (nn_ ?_))))
  rcases Bool.eq_false_or_eq_true (!(sl.any (stP e2))) with h4 | h4
  ·refine gw_set 26 rfl (congrArg Value.bool h4) ?_
   have h4' : (sl.any (stP e2)) = false := by simpa only [Bool.not_eq_true', Bool.not_eq_false'] using h4
   refine ct_ rfl (sr_ (sg_ rfl (nn_ ?_)))
   refine gw_ret ?_
   refine nx_blk_ret (nx_blk_ret (nx_then_ret (nx_then_ret (nx_blk_ret (nx_then_ret ?_)))))
   have hE : evE sl vl (prevOf el i) (⟨e0, e1, e2, e3, e4⟩ : Ev) = 8 := by rw [evE_eq, h2', h3, h4']; rfl
   have hF : logE sl vl el = 8 := by rw [hsc, hat, if_neg (by rw [hE]; decide), hE]
   refine nx_ret1 rfl rfl fun wx hm => ?_
   exact ⟨ret_int (by rw [hF]), hm.g⟩
  refine gw_set 26 rfl (congrArg Value.bool h4) ?_
  have h4' : (sl.any (stP e2)) = true := by simpa only [Bool.not_eq_true', Bool.not_eq_false'] using h4
  refine cf_ rfl (sr_ (fd_ fo48_3 rfl rfl (lk_ sc3 0 rfl rfl rfl ?_)))
  refine wl_callw rfl cb55 rfl rfl (fun wx hm => (in_any _ _ _ wx)) ?_
  refine wl_ov (ov_un_not rfl) rfl (sg_ rfl (nn_ ?_))
  rcases Bool.eq_false_or_eq_true (!(inB e3 1 8)) with h5 | h5
  ·refine gw_set 39 rfl (congrArg Value.bool h5) ?_
   have h5' : (inB e3 1 8) = false := by simpa only [Bool.not_eq_true', Bool.not_eq_false'] using h5
   refine ct_ rfl (sr_ (sg_ rfl (nn_ ?_)))
   refine gw_ret ?_
   refine nx_blk_ret (nx_blk_ret (nx_then_ret (nx_then_ret (nx_blk_ret (nx_then_ret ?_)))))
   have hE : evE sl vl (prevOf el i) (⟨e0, e1, e2, e3, e4⟩ : Ev) = 4 := by rw [evE_eq, h2', h3, h4', h5']; rfl
   have hF : logE sl vl el = 4 := by rw [hsc, hat, if_neg (by rw [hE]; decide), hE]
   refine nx_ret1 rfl rfl fun wx hm => ?_
   exact ⟨ret_int (by rw [hF]), hm.g⟩
  refine gw_set 39 rfl (congrArg Value.bool h5) ?_
  have h5' : (inB e3 1 8) = true := by simpa only [Bool.not_eq_true', Bool.not_eq_false'] using h5
  refine cf_ rfl (sr_ (fd_ fo48_4 rfl rfl (lk_ sc9 0 rfl rfl rfl (wl_ov (ov_sneq rfl rfl) rfl (mv_ rfl ?_)))))
  rcases Bool.eq_false_or_eq_true (!(e4.toList == (⟨#[]⟩ : ByteArray).toList)) with h6 | h6
  ·refine wl_set 48 rfl (congrArg Value.bool h6) ?_
   have h6' : (e4.toList == (⟨#[]⟩ : ByteArray).toList) = false := by simpa only [Bool.not_eq_true', Bool.not_eq_false'] using h6
   refine wl_guard_on rfl rfl rfl (mv_ rfl (wl_guard_on rfl rfl rfl (wl_ov (ov_un_not rfl) rfl (pt_ rfl rfl (sg_ rfl (nn_ ?_))))))
   rcases Bool.eq_false_or_eq_true (!(decide (e3 = 6))) with h7 | h7
   ·refine gw_set 44 rfl (congrArg Value.bool h7) ?_
    have h7' : (decide (e3 = 6)) = false := by simpa only [Bool.not_eq_true', Bool.not_eq_false'] using h7
    refine ct_ rfl (sr_ (sg_ rfl (nn_ ?_)))
    refine gw_ret ?_
    refine nx_blk_ret (nx_blk_ret (nx_then_ret (nx_then_ret (nx_blk_ret (nx_then_ret ?_)))))
    have hE : evE sl vl (prevOf el i) (⟨e0, e1, e2, e3, e4⟩ : Ev) = 3 := by rw [evE_eq, h2', h3, h4', h5', h6', h7']; rfl
    have hF : logE sl vl el = 3 := by rw [hsc, hat, if_neg (by rw [hE]; decide), hE]
    refine nx_ret1 rfl rfl fun wx hm => ?_
    exact ⟨ret_int (by rw [hF]), hm.g⟩
   refine gw_set 44 rfl (congrArg Value.bool h7) ?_
   have h7' : (decide (e3 = 6)) = true := by simpa only [Bool.not_eq_true', Bool.not_eq_false'] using h7
   refine cf_ rfl (sr_ (mv_ rfl (mv_ rfl ?_)))
   refine wl_set 54 rfl (congrArg Value.bool (show (decide (e3 = 6)) = true from h7')) ?_
   refine wl_guard_on rfl rfl rfl ?_
   refine wl_ov (ov_loads rz33 rfl (fun _ hm => hm.blkI 1 rfl) rfl rfl) rfl ?_
   refine wl_guard_on rfl rfl rfl (fd_ fo48_4 rfl rfl (wl_guard_on rfl rfl rfl (lk_ sc9 0 rfl rfl rfl (wl_guard_on rfl rfl rfl ?_))))
   refine wl_callv rfl cb22 rfl rfl (fun wx hm => (hasStation_any sl sA cA vA pA sn sc cn cc vn vc pn pc e4 wx (hm.fact 0 rfl).1 hsok (by omega))) ?_
   refine wl_guard_on rfl rfl rfl (wl_ov (ov_un_not rfl) rfl (pt_ rfl rfl (sg_ rfl (nn_ ?_))))
   rcases Bool.eq_false_or_eq_true (!(sl.any (stP e4))) with h8 | h8
   ·refine gw_set 52 rfl (congrArg Value.bool h8) ?_
    have h8' : (sl.any (stP e4)) = false := by simpa only [Bool.not_eq_true', Bool.not_eq_false'] using h8
    refine ct_ rfl (sr_ (sg_ rfl (nn_ ?_)))
    refine gw_ret ?_
    refine nx_blk_ret (nx_blk_ret (nx_then_ret (nx_then_ret (nx_blk_ret (nx_then_ret ?_)))))
    have hE : evE sl vl (prevOf el i) (⟨e0, e1, e2, e3, e4⟩ : Ev) = 8 := by rw [evE_eq, h2', h3, h4', h5', h6', h7', h8']; rfl
    have hF : logE sl vl el = 8 := by rw [hsc, hat, if_neg (by rw [hE]; decide), hE]
    refine nx_ret1 rfl rfl fun wx hm => ?_
    exact ⟨ret_int (by rw [hF]), hm.g⟩
   refine gw_set 52 rfl (congrArg Value.bool h8) ?_
   have h8' : (sl.any (stP e4)) = true := by simpa only [Bool.not_eq_true', Bool.not_eq_false'] using h8
   refine cf_ rfl (sr_ (fd_ fo48_4 rfl rfl (lk_ sc9 0 rfl rfl rfl (fd_ fo48_2 rfl rfl (lk_ sc9 0 rfl rfl rfl (wl_ov (ov_seql rfl rfl) rfl (sg_ rfl (nn_ ?_))))))))
   rcases Bool.eq_false_or_eq_true (e4.toList == e2.toList) with h9 | h9
   ·refine gw_set 61 rfl (congrArg Value.bool h9) ?_
    refine ct_ rfl (sr_ (sg_ rfl (nn_ ?_)))
    refine gw_ret ?_
    refine nx_blk_ret (nx_blk_ret (nx_then_ret (nx_then_ret (nx_blk_ret (nx_then_ret ?_)))))
    have hE : evE sl vl (prevOf el i) (⟨e0, e1, e2, e3, e4⟩ : Ev) = 14 := by rw [evE_eq, h2', h3, h4', h5', h6', h7', h8', h9]; rfl
    have hF : logE sl vl el = 14 := by rw [hsc, hat, if_neg (by rw [hE]; decide), hE]
    refine nx_ret1 rfl rfl fun wx hm => ?_
    exact ⟨ret_int (by rw [hF]), hm.g⟩
   refine gw_set 61 rfl (congrArg Value.bool h9) ?_
   refine cf_ rfl (gw_seq ?_)
   refine gd (fun wz => Blk wz g2 48 [.int .i64 e0, .string e1, .string e2, .int .i64 e3, .string e4] ∧ Blk wz g1 33 [.slice sA sn sc, .slice cA cn cc, .slice vA vn vc, .slice pA pn pc] ∧ (SlOld stEnc 15 41 w.heap.size none sA sn sl) wz ∧ (SlOld vhEnc 2 46 w.heap.size none vA vn vl) wz ∧ (SlOld evEnc 5 48 w.heap.size none (some ⟨b, off, none⟩) en el) wz ∧ True) mixed (fun _ hm => ⟨hm.bl 0, hm.bl 1, hm.fa 0, hm.fa 1, hm.fa 2, trivial⟩) fun z => ?_
   refine wt 0 13 1 rfl z (ov_move rfl) ?_
   refine wt 1 13 3 rfl z (ov_gtr rfl rfl) ?_
   refine wt 2 13 7 rfl z (ov_move rfl) ?_
   by_cases h0 : i = 0
   ·refine wa_set 70 rfl (congrArg Value.bool (decide_eq_false (by omega))) ?_
    refine wa_set 69 rfl (congrArg Value.bool (decide_eq_false (by omega))) ?_
    have hO : evO (prevOf el i) (⟨e0, e1, e2, e3, e4⟩ : Ev) = false := by rw [prevOf_zero h0]; rfl
    refine wtf 3 13 15 rfl rfl rfl z ?_
    refine wtf 4 13 31 rfl rfl rfl z ?_
    refine wtf 5 13 63 rfl rfl rfl z ?_
    refine wtf 6 13 127 rfl rfl rfl z ?_
    refine wtf 7 13 255 rfl rfl rfl z ?_
    refine wtf 8 13 511 rfl rfl rfl z ?_
    refine wtf 9 13 1023 rfl rfl rfl z ?_
    refine wtf 10 13 2047 rfl rfl rfl z ?_
    refine wt 11 13 4095 rfl z (ov_pick_f rfl rfl) ?_
    refine wt 12 13 8191 rfl z (ov_assign rfl) ?_
    refine wa_done (by kernel_rfl) ?_
    refine nx_then (cf_ rfl (gw_skip (nx_blk_nrm (nx_blk_nrm (nx_then (gw_region (ad_ rfl rfl (mv_ rfl (wl_nil ?_)))))))))
    have hE : evE sl vl (prevOf el i) (⟨e0, e1, e2, e3, e4⟩ : Ev) = 0 := by rw [evE_eq, h2', h3, h4', h5', h6', h7', h8', h9, hO]; rfl
    exact nx_round (i + 1) ⟨by omega, by rw [hsc, hat, if_pos hE]⟩ (by omega) ⟨rfl, rfl, rfl, rfl, (some_int (by omega)), trivial⟩ (fun _ hm => hm.pick [1] [] [0, 1, 2] rfl rfl)
   refine wa_set 70 rfl (congrArg Value.bool (decide_eq_true (by omega))) ?_
   refine wa_set 69 rfl (congrArg Value.bool (decide_eq_true (by omega))) ?_
   obtain ⟨yy, hy⟩ : ∃ x, el[i - 1]? = some x := ⟨_, List.getElem?_eq_getElem (by omega)⟩
   obtain ⟨p0, p1, p2, p3, p4⟩ := yy
   obtain ⟨hp0, _, _, _, _⟩ := heok _ (List.mem_of_getElem? hy)
   have hp0 : -4000000000000000000 ≤ p0 ∧ p0 ≤ 4000000000000000000 := hp0
   have hpo := prevOf_pos h0 hy
   refine wto 3 13 15 rfl rfl rfl z (ov_move rfl) ?_
   refine wto 4 13 31 rfl rfl rfl z (ov_move rfl) ?_
   refine wto 5 13 63 rfl rfl rfl z (ov_sub rfl rfl (by omega) (by omega)) ?_
   refine wa_set 73 (v' := .int .i64 (((i - 1) : Nat) : Int)) rfl (congrArg (Value.int .i64) (by omega)) ?_
   refine wto 6 13 127 rfl rfl rfl z (ov_index (j := (i - 1)) es34 rfl rfl (by omega)) ?_
   refine wto 7 13 255 rfl rfl rfl z (ov_elem (vs := [.int .i64 p0, .string p1, .string p2, .int .i64 p3, .string p4]) rz48 rfl (fun _ hm => (hm.2.2.2.2.1).1) hy rfl rfl) ?_
   refine wto 8 13 511 rfl rfl rfl z (ov_loads rz48 rfl (fun _ hm => hm.1) rfl rfl) ?_
   refine wa1 9 rfl ?_
   refine wl_guard_on rfl rfl rfl ?_
   refine wl_callv (v := .int .i64 (evOrd (⟨p0, p1, p2, p3, p4⟩ : Ev) (⟨e0, e1, e2, e3, e4⟩ : Ev))) rfl cb61 rfl rfl (fun wx hm => (byTime_any p0 p1 p2 p3 p4 e0 e1 e2 e3 e4 wx)) ?_
   refine wl_nil ?_
   refine nw 13 1023 (fun _ hm => ⟨hm.bl 0, hm.bl 1, hm.fa 0, hm.fa 1, hm.fa 2, trivial⟩) fun z => ?_
   refine wto 10 13 2047 rfl rfl rfl z (ov_geq rfl rfl) ?_
   refine wt 11 13 4095 rfl z (ov_pick_t rfl rfl) ?_
   refine wt 12 13 8191 rfl z (ov_assign rfl) ?_
   refine wa_done (by kernel_rfl) ?_
   refine nx_then ?_
   rcases Bool.eq_false_or_eq_true (decide (0 ≤ evOrd (⟨p0, p1, p2, p3, p4⟩ : Ev) (⟨e0, e1, e2, e3, e4⟩ : Ev))) with h10 | h10
   ·refine gw_set 67 rfl (congrArg Value.bool h10) ?_
    have hO : evO (prevOf el i) (⟨e0, e1, e2, e3, e4⟩ : Ev) = true := by rw [hpo]; exact h10
    refine ct_ rfl (sr_ (sg_ rfl (nn_ ?_)))
    refine gw_ret ?_
    refine nx_blk_ret (nx_blk_ret (nx_then_ret (nx_then_ret (nx_blk_ret (nx_then_ret ?_)))))
    have hE : evE sl vl (prevOf el i) (⟨e0, e1, e2, e3, e4⟩ : Ev) = 7 := by rw [evE_eq, h2', h3, h4', h5', h6', h7', h8', h9, hO]; rfl
    have hF : logE sl vl el = 7 := by rw [hsc, hat, if_neg (by rw [hE]; decide), hE]
    refine nx_ret1 rfl rfl fun wx hm => ?_
    exact ⟨ret_int (by rw [hF]), hm.g⟩
   refine gw_set 67 rfl (congrArg Value.bool h10) ?_
   have hO : evO (prevOf el i) (⟨e0, e1, e2, e3, e4⟩ : Ev) = false := by rw [hpo]; exact h10
   refine cf_ rfl (gw_skip (nx_blk_nrm (nx_blk_nrm (nx_then (gw_region (ad_ rfl rfl (mv_ rfl (wl_nil ?_))))))))
   have hE : evE sl vl (prevOf el i) (⟨e0, e1, e2, e3, e4⟩ : Ev) = 0 := by rw [evE_eq, h2', h3, h4', h5', h6', h7', h8', h9, hO]; rfl
   exact nx_round (i + 1) ⟨by omega, by rw [hsc, hat, if_pos hE]⟩ (by omega) ⟨rfl, rfl, rfl, rfl, (some_int (by omega)), trivial⟩ (fun _ hm => hm.pick [1] [] [0, 1, 2] rfl rfl)
  refine wl_set 48 rfl (congrArg Value.bool h6) ?_
  have h6' : (e4.toList == (⟨#[]⟩ : ByteArray).toList) = true := by simpa only [Bool.not_eq_true', Bool.not_eq_false'] using h6
  refine goff rfl rfl rfl (goff rfl rfl rfl (pf_ rfl rfl (sg_ rfl (nn_ (cf_ rfl (sr_ (mv_ rfl (mv_ rfl ?_))))))))
  rcases Bool.eq_false_or_eq_true (decide (e3 = 6)) with h7 | h7
  ·refine wl_set 54 rfl (congrArg Value.bool h7) ?_
   refine wl_guard_on rfl rfl rfl ?_
   refine wl_ov (ov_loads rz33 rfl (fun _ hm => hm.blkI 1 rfl) rfl rfl) rfl ?_
   refine wl_guard_on rfl rfl rfl (fd_ fo48_4 rfl rfl (wl_guard_on rfl rfl rfl (lk_ sc9 0 rfl rfl rfl (wl_guard_on rfl rfl rfl ?_))))
   refine wl_callv rfl cb22 rfl rfl (fun wx hm => (hasStation_any sl sA cA vA pA sn sc cn cc vn vc pn pc e4 wx (hm.fact 0 rfl).1 hsok (by omega))) ?_
   refine wl_guard_on rfl rfl rfl (wl_ov (ov_un_not rfl) rfl (pt_ rfl rfl (sg_ rfl (nn_ ?_))))
   rcases Bool.eq_false_or_eq_true (!(sl.any (stP e4))) with h8 | h8
   ·refine gw_set 52 rfl (congrArg Value.bool h8) ?_
    have h8' : (sl.any (stP e4)) = false := by simpa only [Bool.not_eq_true', Bool.not_eq_false'] using h8
    refine ct_ rfl (sr_ (sg_ rfl (nn_ ?_)))
    refine gw_ret ?_
    refine nx_blk_ret (nx_blk_ret (nx_then_ret (nx_then_ret (nx_blk_ret (nx_then_ret ?_)))))
    have hE : evE sl vl (prevOf el i) (⟨e0, e1, e2, e3, e4⟩ : Ev) = 8 := by rw [evE_eq, h2', h3, h4', h5', h6', h7, h8']; rfl
    have hF : logE sl vl el = 8 := by rw [hsc, hat, if_neg (by rw [hE]; decide), hE]
    refine nx_ret1 rfl rfl fun wx hm => ?_
    exact ⟨ret_int (by rw [hF]), hm.g⟩
   refine gw_set 52 rfl (congrArg Value.bool h8) ?_
   have h8' : (sl.any (stP e4)) = true := by simpa only [Bool.not_eq_true', Bool.not_eq_false'] using h8
   refine cf_ rfl (sr_ (fd_ fo48_4 rfl rfl (lk_ sc9 0 rfl rfl rfl (fd_ fo48_2 rfl rfl (lk_ sc9 0 rfl rfl rfl (wl_ov (ov_seql rfl rfl) rfl (sg_ rfl (nn_ ?_))))))))
   rcases Bool.eq_false_or_eq_true (e4.toList == e2.toList) with h9 | h9
   ·refine gw_set 61 rfl (congrArg Value.bool h9) ?_
    refine ct_ rfl (sr_ (sg_ rfl (nn_ ?_)))
    refine gw_ret ?_
    refine nx_blk_ret (nx_blk_ret (nx_then_ret (nx_then_ret (nx_blk_ret (nx_then_ret ?_)))))
    have hE : evE sl vl (prevOf el i) (⟨e0, e1, e2, e3, e4⟩ : Ev) = 14 := by rw [evE_eq, h2', h3, h4', h5', h6', h7, h8', h9]; rfl
    have hF : logE sl vl el = 14 := by rw [hsc, hat, if_neg (by rw [hE]; decide), hE]
    refine nx_ret1 rfl rfl fun wx hm => ?_
    exact ⟨ret_int (by rw [hF]), hm.g⟩
   refine gw_set 61 rfl (congrArg Value.bool h9) ?_
   refine cf_ rfl (gw_seq ?_)
   refine gd (fun wz => Blk wz g2 48 [.int .i64 e0, .string e1, .string e2, .int .i64 e3, .string e4] ∧ Blk wz g1 33 [.slice sA sn sc, .slice cA cn cc, .slice vA vn vc, .slice pA pn pc] ∧ (SlOld stEnc 15 41 w.heap.size none sA sn sl) wz ∧ (SlOld vhEnc 2 46 w.heap.size none vA vn vl) wz ∧ (SlOld evEnc 5 48 w.heap.size none (some ⟨b, off, none⟩) en el) wz ∧ True) mixed (fun _ hm => ⟨hm.bl 0, hm.bl 1, hm.fa 0, hm.fa 1, hm.fa 2, trivial⟩) fun z => ?_
   refine wt 0 13 1 rfl z (ov_move rfl) ?_
   refine wt 1 13 3 rfl z (ov_gtr rfl rfl) ?_
   refine wt 2 13 7 rfl z (ov_move rfl) ?_
   by_cases h0 : i = 0
   ·refine wa_set 70 rfl (congrArg Value.bool (decide_eq_false (by omega))) ?_
    refine wa_set 69 rfl (congrArg Value.bool (decide_eq_false (by omega))) ?_
    have hO : evO (prevOf el i) (⟨e0, e1, e2, e3, e4⟩ : Ev) = false := by rw [prevOf_zero h0]; rfl
    refine wtf 3 13 15 rfl rfl rfl z ?_
    refine wtf 4 13 31 rfl rfl rfl z ?_
    refine wtf 5 13 63 rfl rfl rfl z ?_
    refine wtf 6 13 127 rfl rfl rfl z ?_
    refine wtf 7 13 255 rfl rfl rfl z ?_
    refine wtf 8 13 511 rfl rfl rfl z ?_
    refine wtf 9 13 1023 rfl rfl rfl z ?_
    refine wtf 10 13 2047 rfl rfl rfl z ?_
    refine wt 11 13 4095 rfl z (ov_pick_f rfl rfl) ?_
    refine wt 12 13 8191 rfl z (ov_assign rfl) ?_
    refine wa_done (by kernel_rfl) ?_
    refine nx_then (cf_ rfl (gw_skip (nx_blk_nrm (nx_blk_nrm (nx_then (gw_region (ad_ rfl rfl (mv_ rfl (wl_nil ?_)))))))))
    have hE : evE sl vl (prevOf el i) (⟨e0, e1, e2, e3, e4⟩ : Ev) = 0 := by rw [evE_eq, h2', h3, h4', h5', h6', h7, h8', h9, hO]; rfl
    exact nx_round (i + 1) ⟨by omega, by rw [hsc, hat, if_pos hE]⟩ (by omega) ⟨rfl, rfl, rfl, rfl, (some_int (by omega)), trivial⟩ (fun _ hm => hm.pick [1] [] [0, 1, 2] rfl rfl)
   refine wa_set 70 rfl (congrArg Value.bool (decide_eq_true (by omega))) ?_
   refine wa_set 69 rfl (congrArg Value.bool (decide_eq_true (by omega))) ?_
   obtain ⟨yy, hy⟩ : ∃ x, el[i - 1]? = some x := ⟨_, List.getElem?_eq_getElem (by omega)⟩
   obtain ⟨p0, p1, p2, p3, p4⟩ := yy
   obtain ⟨hp0, _, _, _, _⟩ := heok _ (List.mem_of_getElem? hy)
   have hp0 : -4000000000000000000 ≤ p0 ∧ p0 ≤ 4000000000000000000 := hp0
   have hpo := prevOf_pos h0 hy
   refine wto 3 13 15 rfl rfl rfl z (ov_move rfl) ?_
   refine wto 4 13 31 rfl rfl rfl z (ov_move rfl) ?_
   refine wto 5 13 63 rfl rfl rfl z (ov_sub rfl rfl (by omega) (by omega)) ?_
   refine wa_set 73 (v' := .int .i64 (((i - 1) : Nat) : Int)) rfl (congrArg (Value.int .i64) (by omega)) ?_
   refine wto 6 13 127 rfl rfl rfl z (ov_index (j := (i - 1)) es34 rfl rfl (by omega)) ?_
   refine wto 7 13 255 rfl rfl rfl z (ov_elem (vs := [.int .i64 p0, .string p1, .string p2, .int .i64 p3, .string p4]) rz48 rfl (fun _ hm => (hm.2.2.2.2.1).1) hy rfl rfl) ?_
   refine wto 8 13 511 rfl rfl rfl z (ov_loads rz48 rfl (fun _ hm => hm.1) rfl rfl) ?_
   refine wa1 9 rfl ?_
   refine wl_guard_on rfl rfl rfl ?_
   refine wl_callv (v := .int .i64 (evOrd (⟨p0, p1, p2, p3, p4⟩ : Ev) (⟨e0, e1, e2, e3, e4⟩ : Ev))) rfl cb61 rfl rfl (fun wx hm => (byTime_any p0 p1 p2 p3 p4 e0 e1 e2 e3 e4 wx)) ?_
   refine wl_nil ?_
   refine nw 13 1023 (fun _ hm => ⟨hm.bl 0, hm.bl 1, hm.fa 0, hm.fa 1, hm.fa 2, trivial⟩) fun z => ?_
   refine wto 10 13 2047 rfl rfl rfl z (ov_geq rfl rfl) ?_
   refine wt 11 13 4095 rfl z (ov_pick_t rfl rfl) ?_
   refine wt 12 13 8191 rfl z (ov_assign rfl) ?_
   refine wa_done (by kernel_rfl) ?_
   refine nx_then ?_
   rcases Bool.eq_false_or_eq_true (decide (0 ≤ evOrd (⟨p0, p1, p2, p3, p4⟩ : Ev) (⟨e0, e1, e2, e3, e4⟩ : Ev))) with h10 | h10
   ·refine gw_set 67 rfl (congrArg Value.bool h10) ?_
    have hO : evO (prevOf el i) (⟨e0, e1, e2, e3, e4⟩ : Ev) = true := by rw [hpo]; exact h10
    refine ct_ rfl (sr_ (sg_ rfl (nn_ ?_)))
    refine gw_ret ?_
    refine nx_blk_ret (nx_blk_ret (nx_then_ret (nx_then_ret (nx_blk_ret (nx_then_ret ?_)))))
    have hE : evE sl vl (prevOf el i) (⟨e0, e1, e2, e3, e4⟩ : Ev) = 7 := by rw [evE_eq, h2', h3, h4', h5', h6', h7, h8', h9, hO]; rfl
    have hF : logE sl vl el = 7 := by rw [hsc, hat, if_neg (by rw [hE]; decide), hE]
    refine nx_ret1 rfl rfl fun wx hm => ?_
    exact ⟨ret_int (by rw [hF]), hm.g⟩
   refine gw_set 67 rfl (congrArg Value.bool h10) ?_
   have hO : evO (prevOf el i) (⟨e0, e1, e2, e3, e4⟩ : Ev) = false := by rw [hpo]; exact h10
   refine cf_ rfl (gw_skip (nx_blk_nrm (nx_blk_nrm (nx_then (gw_region (ad_ rfl rfl (mv_ rfl (wl_nil ?_))))))))
   have hE : evE sl vl (prevOf el i) (⟨e0, e1, e2, e3, e4⟩ : Ev) = 0 := by rw [evE_eq, h2', h3, h4', h5', h6', h7, h8', h9, hO]; rfl
   exact nx_round (i + 1) ⟨by omega, by rw [hsc, hat, if_pos hE]⟩ (by omega) ⟨rfl, rfl, rfl, rfl, (some_int (by omega)), trivial⟩ (fun _ hm => hm.pick [1] [] [0, 1, 2] rfl rfl)
  refine wl_set 54 rfl (congrArg Value.bool h7) ?_
  refine goff rfl rfl rfl (goff rfl rfl rfl (goff rfl rfl rfl (goff rfl rfl rfl (goff rfl rfl rfl (pf_ rfl rfl (sg_ rfl (nn_ (cf_ rfl (sr_ (fd_ fo48_4 rfl rfl (lk_ sc9 0 rfl rfl rfl ?_)))))))))))
  refine fd_ fo48_2 rfl rfl (lk_ sc9 0 rfl rfl rfl (wl_ov (ov_seql rfl rfl) rfl (sg_ rfl (nn_ ?_))))
  rcases Bool.eq_false_or_eq_true (e4.toList == e2.toList) with h8 | h8
  ·refine gw_set 61 rfl (congrArg Value.bool h8) ?_
   refine ct_ rfl (sr_ (sg_ rfl (nn_ ?_)))
   refine gw_ret ?_
   refine nx_blk_ret (nx_blk_ret (nx_then_ret (nx_then_ret (nx_blk_ret (nx_then_ret ?_)))))
   have hE : evE sl vl (prevOf el i) (⟨e0, e1, e2, e3, e4⟩ : Ev) = 14 := by rw [evE_eq, h2', h3, h4', h5', h6', h7, h8]; rfl
   have hF : logE sl vl el = 14 := by rw [hsc, hat, if_neg (by rw [hE]; decide), hE]
   refine nx_ret1 rfl rfl fun wx hm => ?_
   exact ⟨ret_int (by rw [hF]), hm.g⟩
  refine gw_set 61 rfl (congrArg Value.bool h8) ?_
  refine cf_ rfl (gw_seq ?_)
  refine gd (fun wz => Blk wz g2 48 [.int .i64 e0, .string e1, .string e2, .int .i64 e3, .string e4] ∧ Blk wz g1 33 [.slice sA sn sc, .slice cA cn cc, .slice vA vn vc, .slice pA pn pc] ∧ (SlOld stEnc 15 41 w.heap.size none sA sn sl) wz ∧ (SlOld vhEnc 2 46 w.heap.size none vA vn vl) wz ∧ (SlOld evEnc 5 48 w.heap.size none (some ⟨b, off, none⟩) en el) wz ∧ True) mixed (fun _ hm => ⟨hm.bl 0, hm.bl 1, hm.fa 0, hm.fa 1, hm.fa 2, trivial⟩) fun z => ?_
  refine wt 0 13 1 rfl z (ov_move rfl) ?_
  refine wt 1 13 3 rfl z (ov_gtr rfl rfl) ?_
  refine wt 2 13 7 rfl z (ov_move rfl) ?_
  by_cases h0 : i = 0
  ·refine wa_set 70 rfl (congrArg Value.bool (decide_eq_false (by omega))) ?_
   refine wa_set 69 rfl (congrArg Value.bool (decide_eq_false (by omega))) ?_
   have hO : evO (prevOf el i) (⟨e0, e1, e2, e3, e4⟩ : Ev) = false := by rw [prevOf_zero h0]; rfl
   refine wtf 3 13 15 rfl rfl rfl z ?_
   refine wtf 4 13 31 rfl rfl rfl z ?_
   refine wtf 5 13 63 rfl rfl rfl z ?_
   refine wtf 6 13 127 rfl rfl rfl z ?_
   refine wtf 7 13 255 rfl rfl rfl z ?_
   refine wtf 8 13 511 rfl rfl rfl z ?_
   refine wtf 9 13 1023 rfl rfl rfl z ?_
   refine wtf 10 13 2047 rfl rfl rfl z ?_
   refine wt 11 13 4095 rfl z (ov_pick_f rfl rfl) ?_
   refine wt 12 13 8191 rfl z (ov_assign rfl) ?_
   refine wa_done (by kernel_rfl) ?_
   refine nx_then (cf_ rfl (gw_skip (nx_blk_nrm (nx_blk_nrm (nx_then (gw_region (ad_ rfl rfl (mv_ rfl (wl_nil ?_)))))))))
   have hE : evE sl vl (prevOf el i) (⟨e0, e1, e2, e3, e4⟩ : Ev) = 0 := by rw [evE_eq, h2', h3, h4', h5', h6', h7, h8, hO]; rfl
   exact nx_round (i + 1) ⟨by omega, by rw [hsc, hat, if_pos hE]⟩ (by omega) ⟨rfl, rfl, rfl, rfl, (some_int (by omega)), trivial⟩ (fun _ hm => hm.pick [1] [] [0, 1, 2] rfl rfl)
  refine wa_set 70 rfl (congrArg Value.bool (decide_eq_true (by omega))) ?_
  refine wa_set 69 rfl (congrArg Value.bool (decide_eq_true (by omega))) ?_
  obtain ⟨yy, hy⟩ : ∃ x, el[i - 1]? = some x := ⟨_, List.getElem?_eq_getElem (by omega)⟩
  obtain ⟨p0, p1, p2, p3, p4⟩ := yy
  obtain ⟨hp0, _, _, _, _⟩ := heok _ (List.mem_of_getElem? hy)
  have hp0 : -4000000000000000000 ≤ p0 ∧ p0 ≤ 4000000000000000000 := hp0
  have hpo := prevOf_pos h0 hy
  refine wto 3 13 15 rfl rfl rfl z (ov_move rfl) ?_
  refine wto 4 13 31 rfl rfl rfl z (ov_move rfl) ?_
  refine wto 5 13 63 rfl rfl rfl z (ov_sub rfl rfl (by omega) (by omega)) ?_
  refine wa_set 73 (v' := .int .i64 (((i - 1) : Nat) : Int)) rfl (congrArg (Value.int .i64) (by omega)) ?_
  refine wto 6 13 127 rfl rfl rfl z (ov_index (j := (i - 1)) es34 rfl rfl (by omega)) ?_
  refine wto 7 13 255 rfl rfl rfl z (ov_elem (vs := [.int .i64 p0, .string p1, .string p2, .int .i64 p3, .string p4]) rz48 rfl (fun _ hm => (hm.2.2.2.2.1).1) hy rfl rfl) ?_
  refine wto 8 13 511 rfl rfl rfl z (ov_loads rz48 rfl (fun _ hm => hm.1) rfl rfl) ?_
  refine wa1 9 rfl ?_
  refine wl_guard_on rfl rfl rfl ?_
  refine wl_callv (v := .int .i64 (evOrd (⟨p0, p1, p2, p3, p4⟩ : Ev) (⟨e0, e1, e2, e3, e4⟩ : Ev))) rfl cb61 rfl rfl (fun wx hm => (byTime_any p0 p1 p2 p3 p4 e0 e1 e2 e3 e4 wx)) ?_
  refine wl_nil ?_
  refine nw 13 1023 (fun _ hm => ⟨hm.bl 0, hm.bl 1, hm.fa 0, hm.fa 1, hm.fa 2, trivial⟩) fun z => ?_
  refine wto 10 13 2047 rfl rfl rfl z (ov_geq rfl rfl) ?_
  refine wt 11 13 4095 rfl z (ov_pick_t rfl rfl) ?_
  refine wt 12 13 8191 rfl z (ov_assign rfl) ?_
  refine wa_done (by kernel_rfl) ?_
  refine nx_then ?_
  rcases Bool.eq_false_or_eq_true (decide (0 ≤ evOrd (⟨p0, p1, p2, p3, p4⟩ : Ev) (⟨e0, e1, e2, e3, e4⟩ : Ev))) with h9 | h9
  ·refine gw_set 67 rfl (congrArg Value.bool h9) ?_
   have hO : evO (prevOf el i) (⟨e0, e1, e2, e3, e4⟩ : Ev) = true := by rw [hpo]; exact h9
   refine ct_ rfl (sr_ (sg_ rfl (nn_ ?_)))
   refine gw_ret ?_
   refine nx_blk_ret (nx_blk_ret (nx_then_ret (nx_then_ret (nx_blk_ret (nx_then_ret ?_)))))
   have hE : evE sl vl (prevOf el i) (⟨e0, e1, e2, e3, e4⟩ : Ev) = 7 := by rw [evE_eq, h2', h3, h4', h5', h6', h7, h8, hO]; rfl
   have hF : logE sl vl el = 7 := by rw [hsc, hat, if_neg (by rw [hE]; decide), hE]
   refine nx_ret1 rfl rfl fun wx hm => ?_
   exact ⟨ret_int (by rw [hF]), hm.g⟩
  refine gw_set 67 rfl (congrArg Value.bool h9) ?_
  have hO : evO (prevOf el i) (⟨e0, e1, e2, e3, e4⟩ : Ev) = false := by rw [hpo]; exact h9
  refine cf_ rfl (gw_skip (nx_blk_nrm (nx_blk_nrm (nx_then (gw_region (ad_ rfl rfl (mv_ rfl (wl_nil ?_))))))))
  have hE : evE sl vl (prevOf el i) (⟨e0, e1, e2, e3, e4⟩ : Ev) = 0 := by rw [evE_eq, h2', h3, h4', h5', h6', h7, h8, hO]; rfl
  exact nx_round (i + 1) ⟨by omega, by rw [hsc, hat, if_pos hE]⟩ (by omega) ⟨rfl, rfl, rfl, rfl, (some_int (by omega)), trivial⟩ (fun _ hm => hm.pick [1] [] [0, 1, 2] rfl rfl)
 have hi : ¬ (((i : Nat) : Int) < ((en : Nat) : Int)) := by simpa using hh
 clear hh
 refine gw_exit ?_
 refine nx_then_exit (nx_then_exit ?_)
 refine nx_blk_here ?_
 refine nx_then (sr_ (sg_ rfl (nn_ ?_)))
 refine gw_ret ?_
 refine nx_ret1 rfl rfl fun wx hm => ?_
 exact ⟨ret_int (by rw [hsc, scanE_end _ _ _ _ (by omega)]), hm.g⟩
end Go.Proofs.Ytodcildcipfmcaa
namespace Go.Proofs.Ytodcildcipfmcaa
open Go.RowKit
theorem follow_any (s0 : Int) (s1 : ByteArray) (s2 e0 : Int) (e1 e2 : ByteArray) (e3 : Int) (e4 : ByteArray) (w : World) : Calls Try.prog 49 #[.agg #[.int .i64 s0, .string s1, .int .i64 s2], .agg #[.int .i64 e0, .string e1, .string e2, .int .i64 e3, .string e4]] w (fun e w' => e = .returned (.tuple #[.agg (saEnc (stepS (⟨s0, s1, s2⟩ : Sa) (⟨e0, e1, e2, e3, e4⟩ : Ev))).toArray, .bool (goodB (⟨s0, s1, s2⟩ : Sa) (⟨e0, e1, e2, e3, e4⟩ : Ev))]) ∧ w.grownBy w' none) := by
 refine gw_enter ⟨74, w, none, []⟩ Try.func49 rfl Try.ntmps49 rfl (mem0 (X := []) allF_nil allL_nil) ?_
 refine sr_ ?_
 refine wl_box rfl rfl rfl fun g1 => ?_
 refine wl_box rfl rfl rfl fun g2 => ?_
 refine wl_alloc zc93 rfl fun g3 => ?_
 refine sg_ rfl (nn_ (sr_ (fd_ fo93_1 rfl rfl (lk_ sc9 2 rfl rfl rfl (fd_ fo48_2 rfl rfl (lk_ sc9 1 rfl rfl rfl (wl_ov (ov_seql rfl rfl) rfl (sg_ rfl (nn_ (gw_seq ?_))))))))))
 refine gw_region (fd_ fo93_0 rfl rfl (lk_ sc3 2 rfl rfl rfl (wl_ov (ov_eql rfl rfl) rfl (mv_ rfl ?_))))
 rcases Bool.eq_false_or_eq_true (decide (s0 = 1)) with h0 | h0
 ·refine wl_set 19 rfl (congrArg Value.bool h0) ?_
  refine wl_guard_on rfl rfl rfl (mv_ rfl (pt_ rfl rfl (sg_ rfl (nn_ (gw_seq ?_)))))
  refine gd (fun wz => Blk wz g3 93 [.int .i64 0, .string ⟨#[]⟩, .int .i64 0] ∧ Blk wz g2 48 [.int .i64 e0, .string e1, .string e2, .int .i64 e3, .string e4] ∧ Blk wz g1 93 [.int .i64 s0, .string s1, .int .i64 s2] ∧ True) mixed (fun _ hm => ⟨hm.bl 0, hm.bl 1, hm.bl 2, trivial⟩) fun z => ?_
  refine wt 0 5 1 rfl z (ov_field fo48_2 rfl rfl) ?_
  refine wt 1 5 3 rfl z (ov_load sc9 rfl (fun _ hm => hm.2.1) rfl) ?_
  refine wt 2 5 7 rfl z (ov_assign rfl) ?_
  refine wt 3 5 15 rfl z (ov_assign rfl) ?_
  refine wt 4 5 31 rfl z (ov_assign rfl) ?_
  refine wa_done (by kernel_rfl) ?_
  refine nx_then (gw_seq (sr_ (fd_ fo48_3 rfl rfl (lk_ sc3 1 rfl rfl rfl (nn_ (gw_block (sr_ (wl_ov (ov_eql rfl rfl) rfl (sg_ rfl (wl_nil ?_))))))))))
  refine nx_then ?_
  refine gw_cond rfl (fun hh => ?_) (fun hh => ?_)
  ·have h1 : e3 = 1 := by simpa using hh
   clear hh
   refine gd (fun wz => Blk wz g3 93 [.int .i64 0, .string ⟨#[]⟩, .int .i64 0] ∧ Blk wz g2 48 [.int .i64 e0, .string e1, .string e2, .int .i64 e3, .string e4] ∧ Blk wz g1 93 [.int .i64 s0, .string s1, .int .i64 s2] ∧ True) mixed (fun _ hm => ⟨hm.bl 0, hm.bl 1, hm.bl 2, trivial⟩) fun z => ?_
   refine wt 0 5 1 rfl z (ov_field fo93_0 rfl rfl) ?_
   refine wt 1 5 3 rfl z (ov_load sc3 rfl (fun _ hm => hm.2.2.1) rfl) ?_
   refine wt 2 5 7 rfl z (ov_eql rfl rfl) ?_
   refine wt 3 5 15 rfl z (ov_assign rfl) ?_
   refine wt 4 5 31 rfl z (ov_assign rfl) ?_
   refine wa_done (by kernel_rfl) ?_
   refine nx_blk_nrm (nx_then (gw_seq (sr_ (mv_ rfl (wl_ov (ov_un_not rfl) rfl (nn_ ?_))))))
   refine gw_cond rfl (fun hh => ?_) (fun hh => ?_)
   ·have h2 : (decide (s0 = 0)) = false := by simpa using hh
    clear hh
    refine sr_ ?_
    refine wl_ov (ov_loads rz93 rfl (fun _ hm => hm.blkI 2 rfl) rfl rfl) rfl ?_
    refine wl_stores (cs' := [.int .i64 s0, .string s1, .int .i64 s2]) 0 rz93 rfl rfl rfl rfl rfl rfl rfl rfl ?_
    refine sg_ rfl (nn_ ?_)
    refine gw_ret ?_
    refine nx_then_ret ?_
    refine nx_retct 0 rfl rz93 rfl rfl rfl rfl fun wx hm => ?_
    have hg := hm.g
    clear hm
    exact ⟨by simp [goodB, stepS, saEnc, *], hg⟩
   have h2 : (decide (s0 = 0)) = true := by simpa using hh
   clear hh
   refine gw_skip (nx_then (sr_ (mv_ rfl (mv_ rfl (fd_ fo48_0 rfl rfl (lk_ sc3 1 rfl rfl rfl ?_))))))
   refine wl_ov (ov_build (cs := [.int .i64 1, .string e2, .int .i64 e0]) rfl (by kernel_rfl)) rfl ?_
   refine wl_stores (cs' := [.int .i64 1, .string e2, .int .i64 e0]) 0 rz93 rfl rfl rfl rfl rfl rfl rfl rfl ?_
   refine sg_ rfl (nn_ ?_)
   refine gw_ret ?_
   refine nx_retct 0 rfl rz93 rfl rfl rfl rfl fun wx hm => ?_
   have hg := hm.g
   clear hm
   exact ⟨by simp [goodB, stepS, nextS, saEnc, *], hg⟩
  have h1 : ¬ (e3 = 1) := by simpa using hh
  clear hh
  refine sr_ (wl_ov (ov_eql rfl rfl) rfl (sg_ rfl (nn_ ?_)))
  refine gw_cond rfl (fun hh => ?_) (fun hh => ?_)
  ·have h2 : e3 = 2 := by simpa using hh
   clear hh
   refine gw_region (mv_ rfl (sg_ rfl (sg_ rfl (sg_ rfl (wl_nil (nx_blk_nrm (nx_then (gw_seq (sr_ (mv_ rfl (wl_ov (ov_un_not rfl) rfl (wl_nil ?_))))))))))))
   refine nx_then ?_
   refine gw_cond rfl (fun hh => ?_) (fun hh => ?_)
   ·have h3 : (s1.toList == e2.toList) = false := by simpa using hh
    clear hh
    refine sr_ ?_
    refine wl_ov (ov_loads rz93 rfl (fun _ hm => hm.blkI 2 rfl) rfl rfl) rfl ?_
    refine wl_stores (cs' := [.int .i64 s0, .string s1, .int .i64 s2]) 0 rz93 rfl rfl rfl rfl rfl rfl rfl rfl ?_
    refine sg_ rfl (nn_ ?_)
    refine gw_ret ?_
    refine nx_then_ret ?_
    refine nx_retct 0 rfl rz93 rfl rfl rfl rfl fun wx hm => ?_
    have hg := hm.g
    clear hm
    exact ⟨by simp [goodB, stepS, saEnc, *], hg⟩
   have h3 : (s1.toList == e2.toList) = true := by simpa using hh
   clear hh
   refine gw_skip (nx_then (sr_ (mv_ rfl (mv_ rfl (fd_ fo48_0 rfl rfl (lk_ sc3 1 rfl rfl rfl ?_))))))
   refine wl_ov (ov_build (cs := [.int .i64 2, .string ⟨#[]⟩, .int .i64 e0]) rfl (by kernel_rfl)) rfl ?_
   refine wl_stores (cs' := [.int .i64 2, .string ⟨#[]⟩, .int .i64 e0]) 0 rz93 rfl rfl rfl rfl rfl rfl rfl rfl ?_
   refine sg_ rfl (nn_ ?_)
   refine gw_ret ?_
   refine nx_retct 0 rfl rz93 rfl rfl rfl rfl fun wx hm => ?_
   have hg := hm.g
   clear hm
   exact ⟨by simp [goodB, stepS, nextS, saEnc, *], hg⟩
  have h2 : ¬ (e3 = 2) := by simpa using hh
  clear hh
  refine sr_ (wl_ov (ov_eql rfl rfl) rfl (sg_ rfl (nn_ ?_)))
  refine gw_cond rfl (fun hh => ?_) (fun hh => ?_)
  ·have h3 : e3 = 3 := by simpa using hh
   clear hh
   refine gd (fun wz => Blk wz g3 93 [.int .i64 0, .string ⟨#[]⟩, .int .i64 0] ∧ Blk wz g2 48 [.int .i64 e0, .string e1, .string e2, .int .i64 e3, .string e4] ∧ Blk wz g1 93 [.int .i64 s0, .string s1, .int .i64 s2] ∧ True) mixed (fun _ hm => ⟨hm.bl 0, hm.bl 1, hm.bl 2, trivial⟩) fun z => ?_
   refine wt 0 5 1 rfl z (ov_field fo93_0 rfl rfl) ?_
   refine wt 1 5 3 rfl z (ov_load sc3 rfl (fun _ hm => hm.2.2.1) rfl) ?_
   refine wt 2 5 7 rfl z (ov_eql rfl rfl) ?_
   refine wt 3 5 15 rfl z (ov_assign rfl) ?_
   refine wt 4 5 31 rfl z (ov_assign rfl) ?_
   refine wa_done (by kernel_rfl) ?_
   refine nx_blk_nrm (nx_then (gw_seq (sr_ (mv_ rfl (wl_ov (ov_un_not rfl) rfl (nn_ ?_))))))
   refine gw_cond rfl (fun hh => ?_) (fun hh => ?_)
   ·have h4 : (decide (s0 = 2)) = false := by simpa using hh
    clear hh
    refine sr_ ?_
    refine wl_ov (ov_loads rz93 rfl (fun _ hm => hm.blkI 2 rfl) rfl rfl) rfl ?_
    refine wl_stores (cs' := [.int .i64 s0, .string s1, .int .i64 s2]) 0 rz93 rfl rfl rfl rfl rfl rfl rfl rfl ?_
    refine sg_ rfl (nn_ ?_)
    refine gw_ret ?_
    refine nx_then_ret ?_
    refine nx_retct 0 rfl rz93 rfl rfl rfl rfl fun wx hm => ?_
    have hg := hm.g
    clear hm
    exact ⟨by simp [goodB, stepS, saEnc, *], hg⟩
   have h4 : (decide (s0 = 2)) = true := by simpa using hh
   clear hh
   refine gw_skip (nx_then (sr_ (mv_ rfl (mv_ rfl (fd_ fo48_0 rfl rfl (lk_ sc3 1 rfl rfl rfl ?_))))))
   refine wl_ov (ov_build (cs := [.int .i64 1, .string e2, .int .i64 e0]) rfl (by kernel_rfl)) rfl ?_
   refine wl_stores (cs' := [.int .i64 1, .string e2, .int .i64 e0]) 0 rz93 rfl rfl rfl rfl rfl rfl rfl rfl ?_
   refine sg_ rfl (nn_ ?_)
   refine gw_ret ?_
   refine nx_retct 0 rfl rz93 rfl rfl rfl rfl fun wx hm => ?_
   have hg := hm.g
   clear hm
   exact ⟨by simp [goodB, stepS, nextS, saEnc, *], hg⟩
  have h3 : ¬ (e3 = 3) := by simpa using hh
  clear hh
  refine sr_ (wl_ov (ov_eql rfl rfl) rfl (sg_ rfl (nn_ ?_)))
  refine gw_cond rfl (fun hh => ?_) (fun hh => ?_)
  ·have h4 : e3 = 4 := by simpa using hh
   clear hh
   refine gw_region (mv_ rfl (sg_ rfl (sg_ rfl (wl_nil (nx_blk_nrm (nx_then (gw_seq (sr_ (mv_ rfl (wl_ov (ov_un_not rfl) rfl (nn_ ?_)))))))))))
   refine gw_cond rfl (fun hh => ?_) (fun hh => ?_)
   ·have h5 : (s1.toList == e2.toList) = false := by simpa using hh
    clear hh
    refine sr_ ?_
    refine wl_ov (ov_loads rz93 rfl (fun _ hm => hm.blkI 2 rfl) rfl rfl) rfl ?_
    refine wl_stores (cs' := [.int .i64 s0, .string s1, .int .i64 s2]) 0 rz93 rfl rfl rfl rfl rfl rfl rfl rfl ?_
    refine sg_ rfl (nn_ ?_)
    refine gw_ret ?_
    refine nx_then_ret ?_
    refine nx_retct 0 rfl rz93 rfl rfl rfl rfl fun wx hm => ?_
    have hg := hm.g
    clear hm
    exact ⟨by simp [goodB, stepS, saEnc, *], hg⟩
   have h5 : (s1.toList == e2.toList) = true := by simpa using hh
   clear hh
   refine gw_skip (nx_then (sr_ (mv_ rfl (mv_ rfl (fd_ fo48_0 rfl rfl (lk_ sc3 1 rfl rfl rfl ?_))))))
   refine wl_ov (ov_build (cs := [.int .i64 3, .string e2, .int .i64 e0]) rfl (by kernel_rfl)) rfl ?_
   refine wl_stores (cs' := [.int .i64 3, .string e2, .int .i64 e0]) 0 rz93 rfl rfl rfl rfl rfl rfl rfl rfl ?_
   refine sg_ rfl (nn_ ?_)
   refine gw_ret ?_
   refine nx_retct 0 rfl rz93 rfl rfl rfl rfl fun wx hm => ?_
   have hg := hm.g
   clear hm
   exact ⟨by simp [goodB, stepS, nextS, saEnc, *], hg⟩
  have h4 : ¬ (e3 = 4) := by simpa using hh
  clear hh
  refine sr_ (wl_ov (ov_eql rfl rfl) rfl (sg_ rfl (nn_ ?_)))
  refine gw_cond rfl (fun hh => ?_) (fun hh => ?_)
  ·have h5 : e3 = 5 := by simpa using hh
   clear hh
   refine gw_region (fd_ fo93_0 rfl rfl (lk_ sc3 2 rfl rfl rfl (wl_ov (ov_eql rfl rfl) rfl (mv_ rfl ?_))))
   rcases Bool.eq_false_or_eq_true (decide (s0 = 3)) with h6 | h6
   ·refine wl_set 47 rfl (congrArg Value.bool h6) ?_
    refine wl_guard_on rfl rfl rfl (mv_ rfl (pt_ rfl rfl (sg_ rfl (sg_ rfl (wl_nil (nx_blk_nrm (nx_then (gw_seq (sr_ (mv_ rfl (wl_ov (ov_un_not rfl) rfl (wl_nil ?_))))))))))))
    refine nx_then ?_
    refine gw_cond rfl (fun hh => ?_) (fun hh => ?_)
    ·have h7 : (s1.toList == e2.toList) = false := by simpa using hh
     clear hh
     refine sr_ ?_
     refine wl_ov (ov_loads rz93 rfl (fun _ hm => hm.blkI 2 rfl) rfl rfl) rfl ?_
     refine wl_stores (cs' := [.int .i64 s0, .string s1, .int .i64 s2]) 0 rz93 rfl rfl rfl rfl rfl rfl rfl rfl ?_
     refine sg_ rfl (nn_ ?_)
     refine gw_ret ?_
     refine nx_then_ret ?_
     refine nx_retct 0 rfl rz93 rfl rfl rfl rfl fun wx hm => ?_
     have hg := hm.g
     clear hm
     exact ⟨by simp [goodB, stepS, saEnc, *], hg⟩
    have h7 : (s1.toList == e2.toList) = true := by simpa using hh
    clear hh
    refine gw_skip (nx_then (sr_ (mv_ rfl (mv_ rfl (fd_ fo48_0 rfl rfl (lk_ sc3 1 rfl rfl rfl ?_))))))
    refine wl_ov (ov_build (cs := [.int .i64 1, .string e2, .int .i64 e0]) rfl (by kernel_rfl)) rfl ?_
    refine wl_stores (cs' := [.int .i64 1, .string e2, .int .i64 e0]) 0 rz93 rfl rfl rfl rfl rfl rfl rfl rfl ?_
    refine sg_ rfl (nn_ ?_)
    refine gw_ret ?_
    refine nx_retct 0 rfl rz93 rfl rfl rfl rfl fun wx hm => ?_
    have hg := hm.g
    clear hm
    exact ⟨by simp [goodB, stepS, nextS, saEnc, *], hg⟩
   refine wl_set 47 rfl (congrArg Value.bool h6) ?_
   refine goff rfl rfl rfl (pf_ rfl rfl (sg_ rfl (sg_ rfl (wl_nil (nx_blk_nrm (nx_then (gw_seq (sr_ (mv_ rfl (wl_ov (ov_un_not rfl) rfl ?_))))))))))
   refine wl_set 67 (v' := .bool true) rfl (congrArg Value.bool (by decide)) ?_
   refine nn_ (ct_ rfl (sr_ ?_))
   refine wl_ov (ov_loads rz93 rfl (fun _ hm => hm.blkI 2 rfl) rfl rfl) rfl ?_
   refine wl_stores (cs' := [.int .i64 s0, .string s1, .int .i64 s2]) 0 rz93 rfl rfl rfl rfl rfl rfl rfl rfl ?_
   refine sg_ rfl (nn_ ?_)
   refine gw_ret ?_
   refine nx_then_ret ?_
   refine nx_retct 0 rfl rz93 rfl rfl rfl rfl fun wx hm => ?_
   have hg := hm.g
   clear hm
   exact ⟨by simp [goodB, stepS, saEnc, *], hg⟩
  have h5 : ¬ (e3 = 5) := by simpa using hh
  clear hh
  refine sr_ (wl_ov (ov_eql rfl rfl) rfl (sg_ rfl (nn_ ?_)))
  refine gw_cond rfl (fun hh => ?_) (fun hh => ?_)
  ·have h6 : e3 = 6 := by simpa using hh
   clear hh
   refine gd (fun wz => Blk wz g3 93 [.int .i64 0, .string ⟨#[]⟩, .int .i64 0] ∧ Blk wz g2 48 [.int .i64 e0, .string e1, .string e2, .int .i64 e3, .string e4] ∧ Blk wz g1 93 [.int .i64 s0, .string s1, .int .i64 s2] ∧ True) mixed (fun _ hm => ⟨hm.bl 0, hm.bl 1, hm.bl 2, trivial⟩) fun z => ?_
   refine wt 0 6 1 rfl z (ov_field fo48_4 rfl rfl) ?_
   refine wt 1 6 3 rfl z (ov_load sc9 rfl (fun _ hm => hm.2.1) rfl) ?_
   refine wt 2 6 7 rfl z (ov_move rfl) ?_
   refine wt 3 6 15 rfl z (ov_assign rfl) ?_
   refine wt 4 6 31 rfl z (ov_assign rfl) ?_
   refine wt 5 6 63 rfl z (ov_assign rfl) ?_
   refine wa_done (by kernel_rfl) ?_
   refine nx_blk_nrm (nx_then (gw_seq (sr_ (mv_ rfl (wl_ov (ov_un_not rfl) rfl (nn_ ?_))))))
   refine gw_cond rfl (fun hh => ?_) (fun hh => ?_)
   ·have h7 : (s1.toList == e2.toList) = false := by simpa using hh
    clear hh
    refine sr_ ?_
    refine wl_ov (ov_loads rz93 rfl (fun _ hm => hm.blkI 2 rfl) rfl rfl) rfl ?_
    refine wl_stores (cs' := [.int .i64 s0, .string s1, .int .i64 s2]) 0 rz93 rfl rfl rfl rfl rfl rfl rfl rfl ?_
    refine sg_ rfl (nn_ ?_)
    refine gw_ret ?_
    refine nx_then_ret ?_
    refine nx_retct 0 rfl rz93 rfl rfl rfl rfl fun wx hm => ?_
    have hg := hm.g
    clear hm
    exact ⟨by simp [goodB, stepS, saEnc, *], hg⟩
   have h7 : (s1.toList == e2.toList) = true := by simpa using hh
   clear hh
   refine gw_skip (nx_then (sr_ (mv_ rfl (mv_ rfl (fd_ fo48_0 rfl rfl (lk_ sc3 1 rfl rfl rfl ?_))))))
   refine wl_ov (ov_build (cs := [.int .i64 4, .string e4, .int .i64 e0]) rfl (by kernel_rfl)) rfl ?_
   refine wl_stores (cs' := [.int .i64 4, .string e4, .int .i64 e0]) 0 rz93 rfl rfl rfl rfl rfl rfl rfl rfl ?_
   refine sg_ rfl (nn_ ?_)
   refine gw_ret ?_
   refine nx_retct 0 rfl rz93 rfl rfl rfl rfl fun wx hm => ?_
   have hg := hm.g
   clear hm
   exact ⟨by simp [goodB, stepS, nextS, saEnc, *], hg⟩
  have h6 : ¬ (e3 = 6) := by simpa using hh
  clear hh
  refine sr_ (wl_ov (ov_eql rfl rfl) rfl (sg_ rfl (nn_ ?_)))
  refine gw_cond rfl (fun hh => ?_) (fun hh => ?_)
  ·have h7 : e3 = 7 := by simpa using hh
   clear hh
   refine gw_region (fd_ fo93_0 rfl rfl (lk_ sc3 2 rfl rfl rfl (wl_ov (ov_eql rfl rfl) rfl (mv_ rfl ?_))))
   rcases Bool.eq_false_or_eq_true (decide (s0 = 4)) with h8 | h8
   ·refine wl_set 60 rfl (congrArg Value.bool h8) ?_
    refine wl_guard_on rfl rfl rfl (mv_ rfl (pt_ rfl rfl (sg_ rfl (sg_ rfl (wl_nil (nx_blk_nrm (nx_then (gw_seq (sr_ (mv_ rfl (wl_ov (ov_un_not rfl) rfl (wl_nil ?_))))))))))))
    refine nx_then ?_
    refine gw_cond rfl (fun hh => ?_) (fun hh => ?_)
    ·have h9 : (s1.toList == e2.toList) = false := by simpa using hh
     clear hh
     refine sr_ ?_
     refine wl_ov (ov_loads rz93 rfl (fun _ hm => hm.blkI 2 rfl) rfl rfl) rfl ?_
     refine wl_stores (cs' := [.int .i64 s0, .string s1, .int .i64 s2]) 0 rz93 rfl rfl rfl rfl rfl rfl rfl rfl ?_
     refine sg_ rfl (nn_ ?_)
     refine gw_ret ?_
     refine nx_then_ret ?_
     refine nx_retct 0 rfl rz93 rfl rfl rfl rfl fun wx hm => ?_
     have hg := hm.g
     clear hm
     exact ⟨by simp [goodB, stepS, saEnc, *], hg⟩
    have h9 : (s1.toList == e2.toList) = true := by simpa using hh
    clear hh
    refine gw_skip (nx_then (sr_ (mv_ rfl (mv_ rfl (fd_ fo48_0 rfl rfl (lk_ sc3 1 rfl rfl rfl ?_))))))
    refine wl_ov (ov_build (cs := [.int .i64 1, .string e2, .int .i64 e0]) rfl (by kernel_rfl)) rfl ?_
    refine wl_stores (cs' := [.int .i64 1, .string e2, .int .i64 e0]) 0 rz93 rfl rfl rfl rfl rfl rfl rfl rfl ?_
    refine sg_ rfl (nn_ ?_)
    refine gw_ret ?_
    refine nx_retct 0 rfl rz93 rfl rfl rfl rfl fun wx hm => ?_
    have hg := hm.g
    clear hm
    exact ⟨by simp [goodB, stepS, nextS, saEnc, *], hg⟩
   refine wl_set 60 rfl (congrArg Value.bool h8) ?_
   refine goff rfl rfl rfl (pf_ rfl rfl (sg_ rfl (sg_ rfl (wl_nil (nx_blk_nrm (nx_then (gw_seq (sr_ (mv_ rfl (wl_ov (ov_un_not rfl) rfl ?_))))))))))
   refine wl_set 67 (v' := .bool true) rfl (congrArg Value.bool (by decide)) ?_
   refine nn_ (ct_ rfl (sr_ ?_))
   refine wl_ov (ov_loads rz93 rfl (fun _ hm => hm.blkI 2 rfl) rfl rfl) rfl ?_
   refine wl_stores (cs' := [.int .i64 s0, .string s1, .int .i64 s2]) 0 rz93 rfl rfl rfl rfl rfl rfl rfl rfl ?_
   refine sg_ rfl (nn_ ?_)
   refine gw_ret ?_
   refine nx_then_ret ?_
   refine nx_retct 0 rfl rz93 rfl rfl rfl rfl fun wx hm => ?_
   have hg := hm.g
   clear hm
   exact ⟨by simp [goodB, stepS, saEnc, *], hg⟩
  have h7 : ¬ (e3 = 7) := by simpa using hh
  clear hh
  refine sr_ (wl_ov (ov_eql rfl rfl) rfl (sg_ rfl (nn_ ?_)))
  refine gw_cond rfl (fun hh => ?_) (fun hh => ?_)
  ·have h8 : e3 = 8 := by simpa using hh
   clear hh
   refine gw_region (mv_ rfl (sg_ rfl (sg_ rfl (sg_ rfl (wl_nil (nx_blk_nrm (nx_then (gw_seq (sr_ (mv_ rfl (wl_ov (ov_un_not rfl) rfl (wl_nil ?_))))))))))))
   refine nx_then ?_
   refine gw_cond rfl (fun hh => ?_) (fun hh => ?_)
   ·have h9 : (s1.toList == e2.toList) = false := by simpa using hh
    clear hh
    refine sr_ ?_
    refine wl_ov (ov_loads rz93 rfl (fun _ hm => hm.blkI 2 rfl) rfl rfl) rfl ?_
    refine wl_stores (cs' := [.int .i64 s0, .string s1, .int .i64 s2]) 0 rz93 rfl rfl rfl rfl rfl rfl rfl rfl ?_
    refine sg_ rfl (nn_ ?_)
    refine gw_ret ?_
    refine nx_then_ret ?_
    refine nx_retct 0 rfl rz93 rfl rfl rfl rfl fun wx hm => ?_
    have hg := hm.g
    clear hm
    exact ⟨by simp [goodB, stepS, saEnc, *], hg⟩
   have h9 : (s1.toList == e2.toList) = true := by simpa using hh
   clear hh
   refine gw_skip (nx_then (sr_ (mv_ rfl (mv_ rfl (fd_ fo48_0 rfl rfl (lk_ sc3 1 rfl rfl rfl ?_))))))
   refine wl_ov (ov_build (cs := [.int .i64 5, .string ⟨#[]⟩, .int .i64 e0]) rfl (by kernel_rfl)) rfl ?_
   refine wl_stores (cs' := [.int .i64 5, .string ⟨#[]⟩, .int .i64 e0]) 0 rz93 rfl rfl rfl rfl rfl rfl rfl rfl ?_
   refine sg_ rfl (nn_ ?_)
   refine gw_ret ?_
   refine nx_retct 0 rfl rz93 rfl rfl rfl rfl fun wx hm => ?_
   have hg := hm.g
   clear hm
   exact ⟨by simp [goodB, stepS, nextS, saEnc, *], hg⟩
  have h8 : ¬ (e3 = 8) := by simpa using hh
  clear hh
  refine gw_skip (nx_blk_nrm (nx_then (gw_seq (sr_ (mv_ rfl (wl_ov (ov_un_not rfl) rfl ?_))))))
  refine wl_set 67 (v' := .bool true) rfl (congrArg Value.bool (by decide)) ?_
  refine nn_ (ct_ rfl (sr_ ?_))
  refine wl_ov (ov_loads rz93 rfl (fun _ hm => hm.blkI 2 rfl) rfl rfl) rfl ?_
  refine wl_stores (cs' := [.int .i64 s0, .string s1, .int .i64 s2]) 0 rz93 rfl rfl rfl rfl rfl rfl rfl rfl ?_
  refine sg_ rfl (nn_ ?_)
  refine gw_ret ?_
  refine nx_then_ret ?_
  refine nx_retct 0 rfl rz93 rfl rfl rfl rfl fun wx hm => ?_
  have hg := hm.g
  clear hm
  exact ⟨by simp [goodB, stepS, saEnc, *], hg⟩
 refine wl_set 19 rfl (congrArg Value.bool h0) ?_
 refine goff rfl rfl rfl (pf_ rfl rfl (sg_ rfl (nn_ (gw_seq ?_))))
 refine gd (fun wz => Blk wz g3 93 [.int .i64 0, .string ⟨#[]⟩, .int .i64 0] ∧ Blk wz g2 48 [.int .i64 e0, .string e1, .string e2, .int .i64 e3, .string e4] ∧ Blk wz g1 93 [.int .i64 s0, .string s1, .int .i64 s2] ∧ True) mixed (fun _ hm => ⟨hm.bl 0, hm.bl 1, hm.bl 2, trivial⟩) fun z => ?_
 refine wt 0 5 1 rfl z (ov_field fo48_2 rfl rfl) ?_
 refine wt 1 5 3 rfl z (ov_load sc9 rfl (fun _ hm => hm.2.1) rfl) ?_
 refine wt 2 5 7 rfl z (ov_assign rfl) ?_
 refine wt 3 5 15 rfl z (ov_assign rfl) ?_
 refine wt 4 5 31 rfl z (ov_assign rfl) ?_
 refine wa_done (by kernel_rfl) ?_
 refine nx_then (gw_seq (sr_ (fd_ fo48_3 rfl rfl (lk_ sc3 1 rfl rfl rfl (nn_ (gw_block (sr_ (wl_ov (ov_eql rfl rfl) rfl (sg_ rfl (wl_nil ?_))))))))))
 refine nx_then ?_
 refine gw_cond rfl (fun hh => ?_) (fun hh => ?_)
 ·have h1 : e3 = 1 := by simpa using hh
  clear hh
  refine gd (fun wz => Blk wz g3 93 [.int .i64 0, .string ⟨#[]⟩, .int .i64 0] ∧ Blk wz g2 48 [.int .i64 e0, .string e1, .string e2, .int .i64 e3, .string e4] ∧ Blk wz g1 93 [.int .i64 s0, .string s1, .int .i64 s2] ∧ True) mixed (fun _ hm => ⟨hm.bl 0, hm.bl 1, hm.bl 2, trivial⟩) fun z => ?_
  refine wt 0 5 1 rfl z (ov_field fo93_0 rfl rfl) ?_
  refine wt 1 5 3 rfl z (ov_load sc3 rfl (fun _ hm => hm.2.2.1) rfl) ?_
  refine wt 2 5 7 rfl z (ov_eql rfl rfl) ?_
  refine wt 3 5 15 rfl z (ov_assign rfl) ?_
  refine wt 4 5 31 rfl z (ov_assign rfl) ?_
  refine wa_done (by kernel_rfl) ?_
  refine nx_blk_nrm (nx_then (gw_seq (sr_ (mv_ rfl (wl_ov (ov_un_not rfl) rfl (nn_ ?_))))))
  refine gw_cond rfl (fun hh => ?_) (fun hh => ?_)
  ·have h2 : (decide (s0 = 0)) = false := by simpa using hh
   clear hh
   refine sr_ ?_
   refine wl_ov (ov_loads rz93 rfl (fun _ hm => hm.blkI 2 rfl) rfl rfl) rfl ?_
   refine wl_stores (cs' := [.int .i64 s0, .string s1, .int .i64 s2]) 0 rz93 rfl rfl rfl rfl rfl rfl rfl rfl ?_
   refine sg_ rfl (nn_ ?_)
   refine gw_ret ?_
   refine nx_then_ret ?_
   refine nx_retct 0 rfl rz93 rfl rfl rfl rfl fun wx hm => ?_
   have hg := hm.g
   clear hm
   exact ⟨by simp [goodB, stepS, saEnc, *], hg⟩
  have h2 : (decide (s0 = 0)) = true := by simpa using hh
  clear hh
  refine gw_skip (nx_then (sr_ (mv_ rfl (mv_ rfl (fd_ fo48_0 rfl rfl (lk_ sc3 1 rfl rfl rfl ?_))))))
  refine wl_ov (ov_build (cs := [.int .i64 1, .string e2, .int .i64 e0]) rfl (by kernel_rfl)) rfl ?_
  refine wl_stores (cs' := [.int .i64 1, .string e2, .int .i64 e0]) 0 rz93 rfl rfl rfl rfl rfl rfl rfl rfl ?_
  refine sg_ rfl (nn_ ?_)
  refine gw_ret ?_
  refine nx_retct 0 rfl rz93 rfl rfl rfl rfl fun wx hm => ?_
  have hg := hm.g
  clear hm
  exact ⟨by simp [goodB, stepS, nextS, saEnc, *], hg⟩
 have h1 : ¬ (e3 = 1) := by simpa using hh
 clear hh
 refine sr_ (wl_ov (ov_eql rfl rfl) rfl (sg_ rfl (nn_ ?_)))
 refine gw_cond rfl (fun hh => ?_) (fun hh => ?_)
 ·have h2 : e3 = 2 := by simpa using hh
  clear hh
  refine gw_region (mv_ rfl (sg_ rfl (sg_ rfl (sg_ rfl (wl_nil (nx_blk_nrm (nx_then (gw_seq (sr_ (mv_ rfl (wl_ov (ov_un_not rfl) rfl ?_)))))))))))
  refine wl_set 67 (v' := .bool true) rfl (congrArg Value.bool (by decide)) ?_
  refine nn_ (ct_ rfl (sr_ ?_))
  refine wl_ov (ov_loads rz93 rfl (fun _ hm => hm.blkI 2 rfl) rfl rfl) rfl ?_
  refine wl_stores (cs' := [.int .i64 s0, .string s1, .int .i64 s2]) 0 rz93 rfl rfl rfl rfl rfl rfl rfl rfl ?_
  refine sg_ rfl (nn_ ?_)
  refine gw_ret ?_
  refine nx_then_ret ?_
  refine nx_retct 0 rfl rz93 rfl rfl rfl rfl fun wx hm => ?_
  have hg := hm.g
  clear hm
  exact ⟨by simp [goodB, stepS, saEnc, *], hg⟩
 have h2 : ¬ (e3 = 2) := by simpa using hh
 clear hh
 refine sr_ (wl_ov (ov_eql rfl rfl) rfl (sg_ rfl (nn_ ?_)))
 refine gw_cond rfl (fun hh => ?_) (fun hh => ?_)
 ·have h3 : e3 = 3 := by simpa using hh
  clear hh
  refine gd (fun wz => Blk wz g3 93 [.int .i64 0, .string ⟨#[]⟩, .int .i64 0] ∧ Blk wz g2 48 [.int .i64 e0, .string e1, .string e2, .int .i64 e3, .string e4] ∧ Blk wz g1 93 [.int .i64 s0, .string s1, .int .i64 s2] ∧ True) mixed (fun _ hm => ⟨hm.bl 0, hm.bl 1, hm.bl 2, trivial⟩) fun z => ?_
  refine wt 0 5 1 rfl z (ov_field fo93_0 rfl rfl) ?_
  refine wt 1 5 3 rfl z (ov_load sc3 rfl (fun _ hm => hm.2.2.1) rfl) ?_
  refine wt 2 5 7 rfl z (ov_eql rfl rfl) ?_
  refine wt 3 5 15 rfl z (ov_assign rfl) ?_
  refine wt 4 5 31 rfl z (ov_assign rfl) ?_
  refine wa_done (by kernel_rfl) ?_
  refine nx_blk_nrm (nx_then (gw_seq (sr_ (mv_ rfl (wl_ov (ov_un_not rfl) rfl (nn_ ?_))))))
  refine gw_cond rfl (fun hh => ?_) (fun hh => ?_)
  ·have h4 : (decide (s0 = 2)) = false := by simpa using hh
   clear hh
   refine sr_ ?_
   refine wl_ov (ov_loads rz93 rfl (fun _ hm => hm.blkI 2 rfl) rfl rfl) rfl ?_
   refine wl_stores (cs' := [.int .i64 s0, .string s1, .int .i64 s2]) 0 rz93 rfl rfl rfl rfl rfl rfl rfl rfl ?_
   refine sg_ rfl (nn_ ?_)
   refine gw_ret ?_
   refine nx_then_ret ?_
   refine nx_retct 0 rfl rz93 rfl rfl rfl rfl fun wx hm => ?_
   have hg := hm.g
   clear hm
   exact ⟨by simp [goodB, stepS, saEnc, *], hg⟩
  have h4 : (decide (s0 = 2)) = true := by simpa using hh
  clear hh
  refine gw_skip (nx_then (sr_ (mv_ rfl (mv_ rfl (fd_ fo48_0 rfl rfl (lk_ sc3 1 rfl rfl rfl ?_))))))
  refine wl_ov (ov_build (cs := [.int .i64 1, .string e2, .int .i64 e0]) rfl (by kernel_rfl)) rfl ?_
  refine wl_stores (cs' := [.int .i64 1, .string e2, .int .i64 e0]) 0 rz93 rfl rfl rfl rfl rfl rfl rfl rfl ?_
  refine sg_ rfl (nn_ ?_)
  refine gw_ret ?_
  refine nx_retct 0 rfl rz93 rfl rfl rfl rfl fun wx hm => ?_
  have hg := hm.g
  clear hm
  exact ⟨by simp [goodB, stepS, nextS, saEnc, *], hg⟩
 have h3 : ¬ (e3 = 3) := by simpa using hh
 clear hh
 refine sr_ (wl_ov (ov_eql rfl rfl) rfl (sg_ rfl (nn_ ?_)))
 refine gw_cond rfl (fun hh => ?_) (fun hh => ?_)
 ·have h4 : e3 = 4 := by simpa using hh
  clear hh
  refine gw_region (mv_ rfl (sg_ rfl (sg_ rfl (wl_nil (nx_blk_nrm (nx_then (gw_seq (sr_ (mv_ rfl (wl_ov (ov_un_not rfl) rfl ?_))))))))))
  refine wl_set 67 (v' := .bool true) rfl (congrArg Value.bool (by decide)) ?_
  refine nn_ (ct_ rfl (sr_ ?_))
  refine wl_ov (ov_loads rz93 rfl (fun _ hm => hm.blkI 2 rfl) rfl rfl) rfl ?_
  refine wl_stores (cs' := [.int .i64 s0, .string s1, .int .i64 s2]) 0 rz93 rfl rfl rfl rfl rfl rfl rfl rfl ?_
  refine sg_ rfl (nn_ ?_)
  refine gw_ret ?_
  refine nx_then_ret ?_
  refine nx_retct 0 rfl rz93 rfl rfl rfl rfl fun wx hm => ?_
  have hg := hm.g
  clear hm
  exact ⟨by simp [goodB, stepS, saEnc, *], hg⟩
 have h4 : ¬ (e3 = 4) := by simpa using hh
 clear hh
 refine sr_ (wl_ov (ov_eql rfl rfl) rfl (sg_ rfl (nn_ ?_)))
 refine gw_cond rfl (fun hh => ?_) (fun hh => ?_)
 ·have h5 : e3 = 5 := by simpa using hh
  clear hh
  refine gw_region (fd_ fo93_0 rfl rfl (lk_ sc3 2 rfl rfl rfl (wl_ov (ov_eql rfl rfl) rfl (mv_ rfl ?_))))
  rcases Bool.eq_false_or_eq_true (decide (s0 = 3)) with h6 | h6
  ·refine wl_set 47 rfl (congrArg Value.bool h6) ?_
   refine wl_guard_on rfl rfl rfl (mv_ rfl (pt_ rfl rfl (sg_ rfl (sg_ rfl (wl_nil (nx_blk_nrm (nx_then (gw_seq (sr_ (mv_ rfl (wl_ov (ov_un_not rfl) rfl (wl_nil ?_))))))))))))
   refine nx_then ?_
   refine gw_cond rfl (fun hh => ?_) (fun hh => ?_)
   ·have h7 : (s1.toList == e2.toList) = false := by simpa using hh
    clear hh
    refine sr_ ?_
    refine wl_ov (ov_loads rz93 rfl (fun _ hm => hm.blkI 2 rfl) rfl rfl) rfl ?_
    refine wl_stores (cs' := [.int .i64 s0, .string s1, .int .i64 s2]) 0 rz93 rfl rfl rfl rfl rfl rfl rfl rfl ?_
    refine sg_ rfl (nn_ ?_)
    refine gw_ret ?_
    refine nx_then_ret ?_
    refine nx_retct 0 rfl rz93 rfl rfl rfl rfl fun wx hm => ?_
    have hg := hm.g
    clear hm
    exact ⟨by simp [goodB, stepS, saEnc, *], hg⟩
   have h7 : (s1.toList == e2.toList) = true := by simpa using hh
   clear hh
   refine gw_skip (nx_then (sr_ (mv_ rfl (mv_ rfl (fd_ fo48_0 rfl rfl (lk_ sc3 1 rfl rfl rfl ?_))))))
   refine wl_ov (ov_build (cs := [.int .i64 1, .string e2, .int .i64 e0]) rfl (by kernel_rfl)) rfl ?_
   refine wl_stores (cs' := [.int .i64 1, .string e2, .int .i64 e0]) 0 rz93 rfl rfl rfl rfl rfl rfl rfl rfl ?_
   refine sg_ rfl (nn_ ?_)
   refine gw_ret ?_
   refine nx_retct 0 rfl rz93 rfl rfl rfl rfl fun wx hm => ?_
   have hg := hm.g
   clear hm
   exact ⟨by simp [goodB, stepS, nextS, saEnc, *], hg⟩
  refine wl_set 47 rfl (congrArg Value.bool h6) ?_
  refine goff rfl rfl rfl (pf_ rfl rfl (sg_ rfl (sg_ rfl (wl_nil (nx_blk_nrm (nx_then (gw_seq (sr_ (mv_ rfl (wl_ov (ov_un_not rfl) rfl ?_))))))))))
  refine wl_set 67 (v' := .bool true) rfl (congrArg Value.bool (by decide)) ?_
  refine nn_ (ct_ rfl (sr_ ?_))
  refine wl_ov (ov_loads rz93 rfl (fun _ hm => hm.blkI 2 rfl) rfl rfl) rfl ?_
  refine wl_stores (cs' := [.int .i64 s0, .string s1, .int .i64 s2]) 0 rz93 rfl rfl rfl rfl rfl rfl rfl rfl ?_
  refine sg_ rfl (nn_ ?_)
  refine gw_ret ?_
  refine nx_then_ret ?_
  refine nx_retct 0 rfl rz93 rfl rfl rfl rfl fun wx hm => ?_
  have hg := hm.g
  clear hm
  exact ⟨by simp [goodB, stepS, saEnc, *], hg⟩
 have h5 : ¬ (e3 = 5) := by simpa using hh
 clear hh
 refine sr_ (wl_ov (ov_eql rfl rfl) rfl (sg_ rfl (nn_ ?_)))
 refine gw_cond rfl (fun hh => ?_) (fun hh => ?_)
 ·have h6 : e3 = 6 := by simpa using hh
  clear hh
  refine gd (fun wz => Blk wz g3 93 [.int .i64 0, .string ⟨#[]⟩, .int .i64 0] ∧ Blk wz g2 48 [.int .i64 e0, .string e1, .string e2, .int .i64 e3, .string e4] ∧ Blk wz g1 93 [.int .i64 s0, .string s1, .int .i64 s2] ∧ True) mixed (fun _ hm => ⟨hm.bl 0, hm.bl 1, hm.bl 2, trivial⟩) fun z => ?_
  refine wt 0 6 1 rfl z (ov_field fo48_4 rfl rfl) ?_
  refine wt 1 6 3 rfl z (ov_load sc9 rfl (fun _ hm => hm.2.1) rfl) ?_
  refine wt 2 6 7 rfl z (ov_move rfl) ?_
  refine wt 3 6 15 rfl z (ov_assign rfl) ?_
  refine wt 4 6 31 rfl z (ov_assign rfl) ?_
  refine wt 5 6 63 rfl z (ov_assign rfl) ?_
  refine wa_done (by kernel_rfl) ?_
  refine nx_blk_nrm (nx_then (gw_seq (sr_ (mv_ rfl (wl_ov (ov_un_not rfl) rfl ?_)))))
  refine wl_set 67 (v' := .bool true) rfl (congrArg Value.bool (by decide)) ?_
  refine nn_ (ct_ rfl (sr_ ?_))
  refine wl_ov (ov_loads rz93 rfl (fun _ hm => hm.blkI 2 rfl) rfl rfl) rfl ?_
  refine wl_stores (cs' := [.int .i64 s0, .string s1, .int .i64 s2]) 0 rz93 rfl rfl rfl rfl rfl rfl rfl rfl ?_
  refine sg_ rfl (nn_ ?_)
  refine gw_ret ?_
  refine nx_then_ret ?_
  refine nx_retct 0 rfl rz93 rfl rfl rfl rfl fun wx hm => ?_
  have hg := hm.g
  clear hm
  exact ⟨by simp [goodB, stepS, saEnc, *], hg⟩
 have h6 : ¬ (e3 = 6) := by simpa using hh
 clear hh
 refine sr_ (wl_ov (ov_eql rfl rfl) rfl (sg_ rfl (nn_ ?_)))
 refine gw_cond rfl (fun hh => ?_) (fun hh => ?_)
 ·have h7 : e3 = 7 := by simpa using hh
  clear hh
  refine gw_region (fd_ fo93_0 rfl rfl (lk_ sc3 2 rfl rfl rfl (wl_ov (ov_eql rfl rfl) rfl (mv_ rfl ?_))))
  rcases Bool.eq_false_or_eq_true (decide (s0 = 4)) with h8 | h8
  ·refine wl_set 60 rfl (congrArg Value.bool h8) ?_
   refine wl_guard_on rfl rfl rfl (mv_ rfl (pt_ rfl rfl (sg_ rfl (sg_ rfl (wl_nil (nx_blk_nrm (nx_then (gw_seq (sr_ (mv_ rfl (wl_ov (ov_un_not rfl) rfl (wl_nil ?_))))))))))))
   refine nx_then ?_
   refine gw_cond rfl (fun hh => ?_) (fun hh => ?_)
   ·have h9 : (s1.toList == e2.toList) = false := by simpa using hh
    clear hh
    refine sr_ ?_
    refine wl_ov (ov_loads rz93 rfl (fun _ hm => hm.blkI 2 rfl) rfl rfl) rfl ?_
    refine wl_stores (cs' := [.int .i64 s0, .string s1, .int .i64 s2]) 0 rz93 rfl rfl rfl rfl rfl rfl rfl rfl ?_
    refine sg_ rfl (nn_ ?_)
    refine gw_ret ?_
    refine nx_then_ret ?_
    refine nx_retct 0 rfl rz93 rfl rfl rfl rfl fun wx hm => ?_
    have hg := hm.g
    clear hm
    exact ⟨by simp [goodB, stepS, saEnc, *], hg⟩
   have h9 : (s1.toList == e2.toList) = true := by simpa using hh
   clear hh
   refine gw_skip (nx_then (sr_ (mv_ rfl (mv_ rfl (fd_ fo48_0 rfl rfl (lk_ sc3 1 rfl rfl rfl ?_))))))
   refine wl_ov (ov_build (cs := [.int .i64 1, .string e2, .int .i64 e0]) rfl (by kernel_rfl)) rfl ?_
   refine wl_stores (cs' := [.int .i64 1, .string e2, .int .i64 e0]) 0 rz93 rfl rfl rfl rfl rfl rfl rfl rfl ?_
   refine sg_ rfl (nn_ ?_)
   refine gw_ret ?_
   refine nx_retct 0 rfl rz93 rfl rfl rfl rfl fun wx hm => ?_
   have hg := hm.g
   clear hm
   exact ⟨by simp [goodB, stepS, nextS, saEnc, *], hg⟩
  refine wl_set 60 rfl (congrArg Value.bool h8) ?_
  refine goff rfl rfl rfl (pf_ rfl rfl (sg_ rfl (sg_ rfl (wl_nil (nx_blk_nrm (nx_then (gw_seq (sr_ (mv_ rfl (wl_ov (ov_un_not rfl) rfl ?_))))))))))
  refine wl_set 67 (v' := .bool true) rfl (congrArg Value.bool (by decide)) ?_
  refine nn_ (ct_ rfl (sr_ ?_))
  refine wl_ov (ov_loads rz93 rfl (fun _ hm => hm.blkI 2 rfl) rfl rfl) rfl ?_
  refine wl_stores (cs' := [.int .i64 s0, .string s1, .int .i64 s2]) 0 rz93 rfl rfl rfl rfl rfl rfl rfl rfl ?_
  refine sg_ rfl (nn_ ?_)
  refine gw_ret ?_
  refine nx_then_ret ?_
  refine nx_retct 0 rfl rz93 rfl rfl rfl rfl fun wx hm => ?_
  have hg := hm.g
  clear hm
  exact ⟨by simp [goodB, stepS, saEnc, *], hg⟩
 have h7 : ¬ (e3 = 7) := by simpa using hh
 clear hh
 refine sr_ (wl_ov (ov_eql rfl rfl) rfl (sg_ rfl (nn_ ?_)))
 refine gw_cond rfl (fun hh => ?_) (fun hh => ?_)
 ·have h8 : e3 = 8 := by simpa using hh
  clear hh
  refine gw_region (mv_ rfl (sg_ rfl (sg_ rfl (sg_ rfl (wl_nil (nx_blk_nrm (nx_then (gw_seq (sr_ (mv_ rfl (wl_ov (ov_un_not rfl) rfl ?_)))))))))))
  refine wl_set 67 (v' := .bool true) rfl (congrArg Value.bool (by decide)) ?_
  refine nn_ (ct_ rfl (sr_ ?_))
  refine wl_ov (ov_loads rz93 rfl (fun _ hm => hm.blkI 2 rfl) rfl rfl) rfl ?_
  refine wl_stores (cs' := [.int .i64 s0, .string s1, .int .i64 s2]) 0 rz93 rfl rfl rfl rfl rfl rfl rfl rfl ?_
  refine sg_ rfl (nn_ ?_)
  refine gw_ret ?_
  refine nx_then_ret ?_
  refine nx_retct 0 rfl rz93 rfl rfl rfl rfl fun wx hm => ?_
  have hg := hm.g
  clear hm
  exact ⟨by simp [goodB, stepS, saEnc, *], hg⟩
 have h8 : ¬ (e3 = 8) := by simpa using hh
 clear hh
 refine gw_skip (nx_blk_nrm (nx_then (gw_seq (sr_ (mv_ rfl (wl_ov (ov_un_not rfl) rfl ?_))))))
 refine wl_set 67 (v' := .bool true) rfl (congrArg Value.bool (by decide)) ?_
 refine nn_ (ct_ rfl (sr_ ?_))
 refine wl_ov (ov_loads rz93 rfl (fun _ hm => hm.blkI 2 rfl) rfl rfl) rfl ?_
 refine wl_stores (cs' := [.int .i64 s0, .string s1, .int .i64 s2]) 0 rz93 rfl rfl rfl rfl rfl rfl rfl rfl ?_
 refine sg_ rfl (nn_ ?_)
 refine gw_ret ?_
 refine nx_then_ret ?_
 refine nx_retct 0 rfl rz93 rfl rfl rfl rfl fun wx hm => ?_
 have hg := hm.g
 clear hm
 exact ⟨by simp [goodB, stepS, saEnc, *], hg⟩
def natI (k : Nat) : Int := (k : Int)
def itEnc1 (x : Int) : List Value := [.int .i64 x]
theorem it_len1 (x : Int) : (itEnc1 x).length = 1 := rfl
end Go.Proofs.Ytodcildcipfmcaa
namespace Go.Proofs.Ytodcildcipfmcaa
open Go.RowKit
def taken (e : List Pl) (p : Pl) : Bool := e.any fun o => decide (p.fr < o.fr) && (o.veh.toList == p.veh.toList || o.plate.toList == p.plate.toList)
end Go.Proofs.Ytodcildcipfmcaa
namespace Go.Proofs.Ytodcildcipfmcaa
open Go.RowKit
section
variable {α : Type}
def sink (lt : α → α → Bool) : Nat → List α → List α
  | 0, l => l
  | j + 1, l => match l[j + 1]?, l[j]? with
    | some x, some y => if lt x y then sink lt j ((l.set (j + 1) y).set j x) else l
    | _, _ => l
def isortF (lt : α → α → Bool) : Nat → Nat → List α → List α
  | 0, _, l => l
  | f + 1, i, l => isortF lt f (i + 1) (sink lt i l)
def isort (lt : α → α → Bool) (l : List α) : List α := isortF lt (l.length - 1) 1 l
theorem sink_yes {lt : α → α → Bool} {j : Nat} {l : List α} {x y : α} (hx : l[j + 1]? = some x) (hy : l[j]? = some y) (h : lt x y = true) : sink lt (j + 1) l = sink lt j ((l.set (j + 1) y).set j x) := by
  simp only [sink, hx, hy, h, if_true]
theorem sink_no {lt : α → α → Bool} {j : Nat} {l : List α} {x y : α} (hx : l[j + 1]? = some x) (hy : l[j]? = some y) (h : lt x y = false) : sink lt (j + 1) l = l := by
  simp only [sink, hx, hy, h, Bool.false_eq_true, if_false]
theorem sink_len (lt : α → α → Bool) : ∀ (j : Nat) (l : List α), (sink lt j l).length = l.length
  | 0, _ => rfl
  | j + 1, l => by
    unfold sink
    split
    · split
      · rw [sink_len lt j]; simp
      · rfl
    · rfl
theorem isortF_len (lt : α → α → Bool) : ∀ (f i : Nat) (l : List α), (isortF lt f i l).length = l.length
  | 0, _, _ => rfl
  | f + 1, i, l => by
    unfold isortF
    rw [isortF_len lt f, sink_len]
theorem isort_len (lt : α → α → Bool) (l : List α) : (isort lt l).length = l.length := isortF_len lt _ _ _
theorem swap_perm {l : List α} {j : Nat} {x y : α} (hx : l[j + 1]? = some x) (hy : l[j]? = some y) : ((l.set (j + 1) y).set j x).Perm l := by
  obtain ⟨h1, rfl⟩ := List.getElem?_eq_some_iff.1 hx
  obtain ⟨h2, rfl⟩ := List.getElem?_eq_some_iff.1 hy
  have e : l = l.take j ++ l[j] :: l[j + 1] :: l.drop (j + 2) := by
    conv => lhs; rw [← List.take_append_drop j l, List.drop_eq_getElem_cons h2, List.drop_eq_getElem_cons h1]
  have hl : (l.take j).length = j := by simp; omega
  have e2 : (l.set (j + 1) l[j]).set j l[j + 1] = l.take j ++ l[j + 1] :: l[j] :: l.drop (j + 2) := by
    refine List.ext_getElem? fun k => ?_
    rw [List.getElem?_set, List.length_set, List.getElem?_set]
    rcases Nat.lt_trichotomy k j with hk | rfl | hk
    · rw [if_neg (by omega), if_neg (by omega), List.getElem?_append_left (by rw [hl]; exact hk), List.getElem?_take, if_pos hk]
    · rw [if_pos rfl, if_pos h2, List.getElem?_append_right (by omega), hl, Nat.sub_self]; rfl
    · rw [if_neg (by omega), List.getElem?_append_right (by omega), hl]
      rcases Nat.lt_trichotomy k (j + 1) with h3 | rfl | h3
      · omega
      · rw [if_pos rfl, if_pos h1, show j + 1 - j = 1 by omega]; rfl
      · rw [if_neg (by omega), show k - j = (k - (j + 2)) + 2 by omega]
        simp only [List.getElem?_cons_succ, List.getElem?_drop]
        congr 1; omega
  rw [e2]
  conv => rhs; rw [e]
  exact List.Perm.append_left _ (List.Perm.swap _ _ _)
theorem sink_perm (lt : α → α → Bool) : ∀ (j : Nat) (l : List α), (sink lt j l).Perm l
  | 0, _ => List.Perm.refl _
  | j + 1, l => by
    unfold sink
    split
    · rename_i x y hx hy
      split
      · exact (sink_perm lt j _).trans (swap_perm hx hy)
      · exact List.Perm.refl _
    · exact List.Perm.refl _
theorem isortF_perm (lt : α → α → Bool) : ∀ (f i : Nat) (l : List α), (isortF lt f i l).Perm l
  | 0, _, _ => List.Perm.refl _
  | f + 1, i, l => (isortF_perm lt f (i + 1) _).trans (sink_perm lt i l)
theorem isort_perm (lt : α → α → Bool) (l : List α) : (isort lt l).Perm l := isortF_perm lt _ _ _
theorem mem_in {lt : α → α → Bool} {l0 R S m : List α} {f i j : Nat} (hR : R = isort lt l0) (hF : isortF lt f i S = R) (hS : sink lt j m = S) {z : α} (hz : z ∈ m) : z ∈ l0 := by
  have h1 : z ∈ S := by rw [← hS]; exact (sink_perm lt j m).mem_iff.2 hz
  have h2 : z ∈ R := by rw [← hF]; exact (isortF_perm lt f i S).mem_iff.2 h1
  rw [hR] at h2
  exact (isort_perm lt l0).mem_iff.1 h2
theorem isort_mem {lt : α → α → Bool} {l : List α} {x : α} : x ∈ isort lt l ↔ x ∈ l := (isort_perm lt l).mem_iff
end
section
variable {P : Program} {c : Cx} {ops : Array Oper} {Q : Exit → Act → World → Prop} {rest : List Oper} {S : List (Nat × Value)} {K : World → Prop} {L : List (Nat × TypeId × List Value)} {O : List Own} {X : List (World → Prop)} {d : Nat} {ty : TypeId} {pos : String} {aft : Array Edge}
theorem memR {n0 : Nat} {Tt : List TypeId} {w : World} {base : Nat} {e : TypeId} {sz n cap g : Nat} {xs : List Value} (hS : w.ownsRow base e sz (.slice (some ⟨g, 0, none⟩) n cap) n xs) (hX : ∀ A ∈ X, A w) (hl : ∀ A ∈ X, Lasts2 w.heap.size (some g) Tt A) : Mem ⟨n0, w, some g, Tt⟩ (RowK base e sz n cap g xs) [] [] X w :=
  have hS2 : RowK base e sz n cap g xs w := hS
  ⟨World.grownBy.refl _ _, hS2, (fun _ hx => by cases hx), List.Pairwise.nil, (fun _ hx => by cases hx), (fun _ hx => by cases hx), List.Pairwise.nil, hX, RowK.keeps hS2.lt.2, hl, (fun _ hr => by cases hr; exact hS2.lt.2)⟩
/-- The row has turned. -/
theorem Mem.turned {base g n cap sz : Nat} {e : TypeId} {xs xs' : List Value} {w w' : World} (h : Mem c (RowK base e sz n cap g xs) L O X w) (hrow : c.row = some g) (hT : c.Tt.contains e = false) (hown : w'.ownsRow base e sz (.slice (some ⟨g, 0, none⟩) n cap) n xs') (hg : w.grownBy w' (some g)) : Mem c (RowK base e sz n cap g xs') L O X w' := by
  have hlt0 := h.rs g hrow
  have hk : w.ownsRow base e sz (.slice (some ⟨g, 0, none⟩) n cap) n xs := h.k
  obtain ⟨cells, hcells⟩ : ∃ cells, w.heap[g]? = some (.cells cells e (0, 0)) := by
    rcases hk.2 with ⟨h1, _⟩ | ⟨g', cap', cur, h1, _, h2, _⟩
    · cases h1
    · injection h1 with h1 _ _
      injection h1 with h1
      injection h1 with h1 _ _
      subst h1
      exact ⟨_, h2⟩
  refine ⟨grow_trans h.g (hrow ▸ hg), hown, fun x hx => ⟨(h.b x hx).1, (h.b x hx).2.grown hg (fun e => ?_)⟩, h.nd, fun r hr => (h.o r hr).kept hg ?_, h.od, h.oo, fun A hA => ?_, RowK.keeps hlt0, h.l, h.rs⟩
  · have := (h.b x hx).1; injection e with e; omega
  · cases hv : r.v.ownBlock with
    | none => exact .inl rfl
    | some g' => exact .inr (fun e => by have := ((h.o r hr).lt g' hv).1; injection e with e; omega)
  · exact (h.l A hA).st w _ g e cells hcells (fun e => by simp [e] at hT) (.inr hrow) hg (h.x A hA)
/-- A call that turns the row. -/
theorem wl_callK {f : FuncId} {x : Operand} {ags : List Operand} {ats : Array TypeId} {vs fs cs : List Value} {v : Value} {base g n cap sz : Nat} {e : TypeId} {xs xs' : List Value} (hrow : c.row = some g) (hT : c.Tt.contains e = false) (hx : rd S x = some (.func (.func f) fs.toArray cs.toArray)) (hf : callableB P f = true) (ha : evArgs S ags = some vs) (hd : Nat.ble (d + 1) c.n = true)
    (hC : ∀ w, Mem c (RowK base e sz n cap g xs) L O X w → Calls P f (fs ++ vs ++ cs).toArray w (fun e1 w' => e1 = .returned v ∧ w'.ownsRow base e sz (.slice (some ⟨g, 0, none⟩) n cap) n xs' ∧ w.grownBy w' (some g))) (h : WL P c ops Q rest ((d, v) :: S) (RowK base e sz n cap g xs') L O X) :
    WL P c ops Q (⟨some d, .call ⟨.value x, ags.toArray, ats⟩, ty, pos, aft, none⟩ :: rest) S (RowK base e sz n cap g xs) L O X :=
  wl_callG (γ := Unit) (val := fun _ => v) (φ := fun _ => True) (K' := fun _ => RowK base e sz n cap g xs') (L' := fun _ => L) (O' := fun _ => O) (X' := fun _ => X) hx hf ha hd (fun w hm => (hC w hm).mono fun _ _ ⟨he, ho, hg⟩ => ⟨(), he, trivial, hm.turned hrow hT ho hg⟩) (fun _ _ => h)
end
/-- A call on a row of the call's own ends by the row's contract. -/
theorem fin_row {base : Nat} {e : TypeId} {sz n cap g : Nat} {xs : List Value} {w0 w : World} (hk : RowK base e sz n cap g xs w) (hg : w0.grownBy w (some g)) : w.ownsRow base e sz (.slice (some ⟨g, 0, none⟩) n cap) n xs ∧ w0.grownBy w (some g) := ⟨hk, hg⟩
end Go.Proofs.Ytodcildcipfmcaa
namespace Go.Proofs.Ytodcildcipfmcaa
open Go.RowKit
theorem stepsV_bound (l : List Cs) (a b : ByteArray) : -1 ≤ stepsV l a b ∧ stepsV l a b ≤ (l.length : Int) := by
  have h1 := ixP_bound (p := fun y => b.toList == y.toList) (pathN l l.length a)
  have h2 := pathN_len l l.length a
  unfold stepsV
  split
  · omega
  · split <;> omega
end Go.Proofs.Ytodcildcipfmcaa
namespace Go.Proofs.Ytodcildcipfmcaa
open Go.RowKit
theorem stEnc_lenL {s : St} (h : StOk s) : (stEnc s).length = 15 := stEnc_len h
theorem flat_getL {enc : St → List Value} {k : Nat} : ∀ (l : List St), (∀ x ∈ l, (enc x).length = k) → ∀ (i : Nat) (x : St), l[i]? = some x → ∀ (j : Nat) (v : Value), (enc x)[j]? = some v → (l.flatMap enc)[i * k + j]? = some v
  | [], _, i, x, h, _, _, _ => by simp at h
  | y :: r, hk, 0, x, h, j, v, hv => by
    simp only [List.getElem?_cons_zero, Option.some.injEq] at h
    subst h
    rw [List.flatMap_cons, List.getElem?_append_left (by have := (List.getElem?_eq_some_iff.1 hv).1; omega), Nat.zero_mul, Nat.zero_add]; exact hv
  | y :: r, hk, i + 1, x, h, j, v, hv => by
    have h1 := hk y (List.mem_cons_self ..)
    rw [List.flatMap_cons, List.getElem?_append_right (by rw [h1, Nat.add_mul]; omega), h1, show (i + 1) * k + j - k = i * k + j by rw [Nat.add_mul]; omega]
    exact flat_getL r (fun z hz => hk z (List.mem_cons_of_mem _ hz)) i x (by simpa using h) j v hv
theorem SlT.ofOwnL {enc : St → List Value} {base k n c : Nat} {T : TypeId} {w : World} {A : Option Addr} {l : List St} (hk : ∀ {x : St}, StOk x → (enc x).length = k) (hl : ∀ x ∈ l, StOk x) (h : w.ownsRow base T k (.slice A n c) n (l.flatMap enc)) (hn : l.length = n) : SlT enc k T w A n l := by
  refine ⟨hn, fun hn0 => ?_⟩
  obtain ⟨h1, h2⟩ := h
  rcases h2 with ⟨h2, h3⟩ | ⟨g, cap, cur, hv, _, hh, hle, _, hcs, htk⟩
  · omega
  · injection hv with hA _ _
    refine ⟨g, 0, cur, _, hA, hh, fun i x hx j v hv => ?_⟩
    have := flat_getL l (fun x hx => hk (hl x hx)) i x hx j v hv
    rw [← htk] at this
    rw [List.getElem?_take] at this
    split at this
    · simpa using this
    · cases this
end Go.Proofs.Ytodcildcipfmcaa
namespace Go.Proofs.Ytodcildcipfmcaa
open Go.RowKit
theorem fleet_rise {sl : List St} {cl : List Cs} {vl : List Vh} {pl : List Pl} (h : fleetE sl cl vl pl = 0) : Rise vl := by
  unfold fleetE at h
  exact (vehs_rise (fe_all h (vehsE cl vl) (by simp))).2
theorem fe_hd {a : Int} {r : List Int} (h : a ≠ 0) : firstE (a :: r) = a := by simp [firstE, h]
theorem fe_tl {r : List Int} : firstE (0 :: r) = firstE r := by simp [firstE]
end Go.Proofs.Ytodcildcipfmcaa
namespace Go.Proofs.Ytodcildcipfmcaa
open Go.RowKit
def evsE (sl : List St) (cl : List Cs) (vl : List Vh) (pl : List Pl) (el : List Ev) : Int := firstE [fleetE sl cl vl pl, logE sl vl el]
theorem evs_one {sl : List St} {cl : List Cs} {vl : List Vh} {pl : List Pl} {el : List Ev} (h : fleetE sl cl vl pl ≠ 0) : evsE sl cl vl pl el = fleetE sl cl vl pl := fe_hd h
theorem evs_two {sl : List St} {cl : List Cs} {vl : List Vh} {pl : List Pl} {el : List Ev} (h : fleetE sl cl vl pl = 0) : evsE sl cl vl pl el = logE sl vl el := by
  unfold evsE; rw [h, fe_tl]
  by_cases h2 : logE sl vl el = 0
  · rw [h2]; rfl
  · exact fe_hd h2
theorem evs_ok {sl : List St} {cl : List Cs} {vl : List Vh} {pl : List Pl} {el : List Ev} (h : evsE sl cl vl pl el = 0) : fleetE sl cl vl pl = 0 ∧ logE sl vl el = 0 := ⟨fe_all h _ (by simp), fe_all h _ (by simp)⟩
theorem log_ok {sl : List St} {vl : List Vh} {el : List Ev} (h : logE sl vl el = 0) : ESort el ∧ (∀ x ∈ el, EvFine sl vl x) ∧ el.length ≤ 3000 := by
  unfold logE at h
  split at h
  · cases h
  · obtain ⟨h1, _, h3⟩ := log_fine h
    exact ⟨h1, h3, by omega⟩
theorem check2_any (sl : List St) (cl : List Cs) (vl : List Vh) (pl : List Pl) (sA cA vA pA : Option Addr) (sn sc cn cc vn vc pn pc : Nat) (el : List Ev) (eA : Option Addr) (en ec : Nat) (w : World) (hs : SlT stEnc 15 41 w sA sn sl) (hc : SlT csEnc 2 27 w cA cn cl) (hv : SlT vhEnc 2 46 w vA vn vl) (hp : SlT plEnc 3 139 w pA pn pl) (hsok : ∀ x ∈ sl, StOk x) (hcok : ∀ x ∈ cl, CsOk x) (hvok : ∀ x ∈ vl, VhOk x) (hpok : ∀ x ∈ pl, PlOk x) (hsn : sn ≤ 1000000) (hcn : cn ≤ 1000000) (hvn : vn ≤ 1000000) (hpn : pn ≤ 1000000) (hl : SlT evEnc 5 48 w eA en el) (heok : ∀ x ∈ el, EvOk x) (hen : en ≤ 1000000) :
  Calls Try.prog 19 #[.agg #[.slice sA sn sc, .slice cA cn cc, .slice vA vn vc, .slice pA pn pc], .slice eA en ec] w (GotE w (evsE sl cl vl pl el)) := by
 refine gw_enter ⟨14, w, none, []⟩ Try.func19 rfl Try.ntmps19 rfl (mem0 (X := [SlOld stEnc 15 41 w.heap.size none sA sn sl, SlOld csEnc 2 27 w.heap.size none cA cn cl, SlOld vhEnc 2 46 w.heap.size none vA vn vl, SlOld plEnc 3 139 w.heap.size none pA pn pl, SlOld evEnc 5 48 w.heap.size none eA en el]) (allF_cons hs.old (allF_cons hc.old (allF_cons hv.old (allF_cons hp.old (allF_cons hl.old allF_nil))))) (allL_cons SlOld.lasts (allL_cons SlOld.lasts (allL_cons SlOld.lasts (allL_cons SlOld.lasts (allL_cons SlOld.lasts allL_nil)))))) ?_
 refine sr_ ?_
 obtain ⟨FE, hFE⟩ : ∃ z, z = fleetE sl cl vl pl := ⟨_, rfl⟩
 obtain ⟨LE, hLE⟩ : ∃ z, z = logE sl vl el := ⟨_, rfl⟩
 refine wl_box rfl rfl rfl fun g1 => ?_
 refine sg_ rfl (nn_ (gw_seq (sr_ ?_)))
 refine wl_ov (ov_loads rz33 rfl (fun _ hm => hm.blkI 0 rfl) rfl rfl) rfl ?_
 refine wl_callv (v := .int .i64 FE) rfl cb41 rfl rfl (fun wx hm => (by rw [hFE]; exact checkFleet_any sl cl vl pl sA cA vA pA sn sc cn cc vn vc pn pc wx (hm.fact 0 rfl).1 (hm.fact 1 rfl).1 (hm.fact 2 rfl).1 (hm.fact 3 rfl).1 hsok hcok hvok hpok hsn hcn hvn hpn)) ?_
 refine sg_ rfl (nn_ (sr_ (mv_ rfl (wl_ov (ov_neq rfl rfl) rfl (nn_ ?_)))))
 refine gw_cond rfl (fun hh => ?_) (fun hh => ?_)
 ·have h1 : ¬ (FE = 0) := by simpa using hh
  clear hh
  refine sr_ (mv_ rfl (sg_ rfl (nn_ ?_)))
  refine gw_ret ?_
  refine nx_then_ret ?_
  refine nx_ret1 rfl rfl fun wx hm => ?_
  exact ⟨ret_int (by rw [evs_one (by rw [← hFE]; simpa using h1)]; exact hFE), hm.g⟩
 have h1 : FE = 0 := by simpa using hh
 clear hh
 refine gw_skip (nx_then (sr_ ?_))
 have h0 : fleetE sl cl vl pl = 0 := by rw [← hFE]; simpa using h1
 have hrise := fleet_rise h0
 refine wl_ov (ov_loads rz33 rfl (fun _ hm => hm.blkI 0 rfl) rfl rfl) rfl ?_
 refine mv_ rfl ?_
 refine wl_callv (v := .int .i64 LE) rfl cb42 rfl rfl (fun wx hm => (by rw [hLE]; exact check_any sl vl sA cA vA pA sn sc cn cc vn vc pn pc el eA en ec wx (hm.fact 0 rfl).1 (hm.fact 2 rfl).1 hsok hsn hvn (hm.fact 4 rfl).1 heok hen hrise)) ?_
 refine sg_ rfl (nn_ ?_)
 refine gw_ret ?_
 refine nx_ret1 rfl rfl fun wx hm => ?_
 exact ⟨ret_int (by rw [evs_two h0]; exact hLE), hm.g⟩
end Go.Proofs.Ytodcildcipfmcaa
namespace Go.Proofs.Ytodcildcipfmcaa
open Go.RowKit
abbrev AMap := ByteArray → Option Sa
def encS (x : Sa) : Value := .agg #[.int .i64 x.st, .string x.sta, .int .i64 x.since]
def stepM (F : AMap) (x : Ev) : AMap := fPut F x.veh (stepS ((F x.veh).getD sa0) x)
def statesM (l : List Ev) (mt : Int) : AMap := (l.takeWhile fun x => decide (x.at_ ≤ mt)).foldl stepM fNil
theorem stepM_get (F : AMap) (x : Ev) (v : ByteArray) : ((stepM F x) v).getD sa0 = if (x.veh.toList == v.toList) = true then stepS ((F v).getD sa0) x else (F v).getD sa0 := by
  unfold stepM
  by_cases h : x.veh = v
  · subst h
    rw [fPut_same, if_pos (beq_self_eq_true _)]; rfl
  · rw [fPut_other _ _ (fun e => h e.symm), if_neg (fun e => h (bytes_eqb.1 e))]
theorem foldM_get (v : ByteArray) : ∀ (l : List Ev) (F : AMap), ((l.foldl stepM F) v).getD sa0 = lastS v l ((F v).getD sa0)
  | [], F => rfl
  | x :: r, F => by
    rw [List.foldl_cons, foldM_get v r, stepM_get]; rfl
theorem statesM_eq {l : List Ev} {v : ByteArray} {mt : Int} (hl : ESort l) (h0 : 0 ≤ mt) : ((statesM l mt) v).getD sa0 = stateR l v mt := by
  rw [stateR_eq hl h0]; exact foldM_get v _ fNil
theorem stM_from {l : List Ev} {mt : Int} {F : AMap} {i : Nat} {x : Ev} (h : l[i]? = some x) (hp : x.at_ ≤ mt) : ((l.drop i).takeWhile fun x => decide (x.at_ ≤ mt)).foldl stepM F = ((l.drop (i + 1)).takeWhile fun x => decide (x.at_ ≤ mt)).foldl stepM (stepM F x) := by
  obtain ⟨hi, rfl⟩ := List.getElem?_eq_some_iff.1 h
  rw [List.drop_eq_getElem_cons hi, List.takeWhile_cons, if_pos (decide_eq_true hp)]; rfl
theorem stM_stop {l : List Ev} {mt : Int} {F : AMap} {i : Nat} {x : Ev} (h : l[i]? = some x) (hp : ¬ x.at_ ≤ mt) : ((l.drop i).takeWhile fun x => decide (x.at_ ≤ mt)).foldl stepM F = F := by
  obtain ⟨hi, rfl⟩ := List.getElem?_eq_some_iff.1 h
  rw [List.drop_eq_getElem_cons hi, List.takeWhile_cons, if_neg (by simpa using hp)]; rfl
theorem stM_end {l : List Ev} {mt : Int} {F : AMap} {i : Nat} (h : l.length ≤ i) : ((l.drop i).takeWhile fun x => decide (x.at_ ≤ mt)).foldl stepM F = F := by
  rw [List.drop_eq_nil_of_le h]; rfl
/-- The numbers of the broken events, as the program finds them. -/
def brkP : List Ev → Nat → AMap → List Nat
  | [], _, _ => []
  | x :: r, i, F => if goodB ((F x.veh).getD sa0) x = true then brkP r (i + 1) (stepM F x) else i :: brkP r (i + 1) (stepM F x)
theorem brkP_at {l : List Ev} {i : Nat} {x : Ev} {F : AMap} (h : l[i]? = some x) : brkP (l.drop i) i F = if goodB ((F x.veh).getD sa0) x = true then brkP (l.drop (i + 1)) (i + 1) (stepM F x) else i :: brkP (l.drop (i + 1)) (i + 1) (stepM F x) := by
  obtain ⟨hi, rfl⟩ := List.getElem?_eq_some_iff.1 h
  rw [List.drop_eq_getElem_cons hi]; rfl
def brokenP (l : List Ev) : List Int := (brkP l 0 fNil).map natI
theorem states_any (el : List Ev) (eA : Option Addr) (en ec : Nat) (mt : Int) (w : World) (hl : SlT evEnc 5 48 w eA en el) (hen : en ≤ 1000000) :
  Calls Try.prog 25 #[.slice eA en ec, .int .i64 mt] w (fun e w' => ∃ g : Nat, e = .returned (.map (some g)) ∧ MapF encS 0 g (statesM el mt) w' ∧ w.grownBy w' none) := by
 refine gw_enter ⟨33, w, none, []⟩ Try.func25 rfl Try.ntmps25 rfl (mem0 (X := [SlOld evEnc 5 48 w.heap.size none eA en el]) (allF_cons hl.old allF_nil) (allL_cons SlOld.lasts allL_nil)) ?_
 refine sr_ ?_
 have hlen := hl.len
 obtain ⟨W, hW⟩ : ∃ z, z = statesM el mt := ⟨_, rfl⟩
 rw [← hW]
 refine sg_ rfl (nn_ (sr_ ?_))
 refine wl_makeMapF (enc := encS) rfl fun g1 => ?_
 refine sg_ rfl (nn_ (gw_seq (sr_ (mv_ rfl (wl_ov (ov_len es34 rfl) rfl (mv_ rfl (nn_ (gw_block ?_))))))))
 refine gw_loop (γ := Nat × AMap) (fun gg => gg.1 ≤ en ∧ ((el.drop gg.1).takeWhile fun x => decide (x.at_ ≤ mt)).foldl stepM gg.2 = W) (fun gg => [(1, .int .i64 mt), (4, .map none), (5, .map (some g1)), (9, .slice eA en ec), (10, .int .i64 ((en : Nat) : Int)), (11, .int .i64 ((gg.1 : Nat) : Int))]) (fun gg => fun _ => True) (fun gg => []) (fun gg => []) (fun gg => [MapF encS w.heap.size g1 (gg.2), SlOld evEnc 5 48 w.heap.size none eA en el]) (fun gg => en - gg.1) (0, fNil) ⟨Nat.zero_le _, hW.symm⟩ ⟨rfl, rfl, rfl, rfl, rfl, rfl, trivial⟩ (fun _ hm => hm.pick [] [] [0, 1] rfl rfl) ?_
 rintro ⟨i, F⟩ hinv
 replace hinv : i ≤ en ∧ ((el.drop i).takeWhile fun x => decide (x.at_ ≤ mt)).foldl stepM F = W := hinv
 dsimp only
 refine sr_ ?_
 obtain ⟨hi0, hF⟩ := hinv
 refine wl_ov (ov_lss rfl rfl) rfl (nn_ (gw_seq ?_))
 refine gw_cond rfl (fun hh => ?_) (fun hh => ?_)
 ·have hi : ((i : Nat) : Int) < ((en : Nat) : Int) := by simpa using hh
  clear hh
  refine gw_skip (nx_then (gw_seq (gw_block (sr_ ?_))))
  obtain ⟨b, off, hA, _, _⟩ := hl.get (by omega)
  subst hA
  obtain ⟨x, hx⟩ : ∃ x, el[i]? = some x := ⟨_, List.getElem?_eq_getElem (by omega)⟩
  obtain ⟨e0, e1, e2, e3, e4⟩ := x
  refine wl_ov (ov_index (j := i) es34 rfl rfl (by omega)) rfl ?_
  refine wl_ov (ov_elem (vs := [.int .i64 e0, .string e1, .string e2, .int .i64 e3, .string e4]) rz48 rfl (fun _ hm => (hm.fact 1 rfl).1) hx rfl rfl) rfl ?_
  refine wl_alloc zc48 rfl fun g2 => ?_
  refine wl_stores (cs' := [.int .i64 e0, .string e1, .string e2, .int .i64 e3, .string e4]) 0 rz48 rfl rfl rfl rfl rfl rfl rfl rfl ?_
  refine nn_ (gw_seq (sr_ (fd_ fo48_0 rfl rfl (lk_ sc3 0 rfl rfl rfl (mv_ rfl ?_)))))
  refine wl_ov (ov_gtr rfl rfl) rfl ?_
  refine nn_ ?_
  refine gw_cond rfl (fun hh => ?_) (fun hh => ?_)
  ·have h1 : mt < e0 := by simpa using hh
   clear hh
   refine gw_exit ?_
   refine nx_then_exit ?_
   refine nx_blk_on rfl ?_
   refine nx_then_exit (nx_then_exit ?_)
   refine nx_blk_here ?_
   refine nx_then (sr_ (mv_ rfl (sg_ rfl (nn_ ?_))))
   refine gw_ret ?_
   have hFW : F = W := (stM_stop hx (show ¬ (⟨e0, e1, e2, e3, e4⟩ : Ev).at_ ≤ mt by dsimp only; omega)).symm.trans hF
   refine nx_ret1 rfl rfl fun wx hm => ?_
   exact ⟨g1, rfl, (by have h := (hm.fact 0 rfl); rw [← hFW]; exact h.lower (Nat.zero_le _)), hm.g⟩
  have h1 : ¬ (mt < e0) := by simpa using hh
  clear hh
  refine gw_skip (nx_then ?_)
  have hst := (stM_from (F := F) hx (show (⟨e0, e1, e2, e3, e4⟩ : Ev).at_ ≤ mt by dsimp only; omega)).symm.trans hF
  obtain ⟨S0, hS0⟩ : ∃ z, z = ((F) e1).getD sa0 := ⟨_, rfl⟩
  obtain ⟨s0, s1, s2⟩ := S0
  obtain ⟨T0, hT0⟩ : ∃ z, z = stepS ⟨s0, s1, s2⟩ (⟨e0, e1, e2, e3, e4⟩ : Ev) := ⟨_, rfl⟩
  obtain ⟨t0, t1, t2⟩ := T0
  refine gd (fun wz => Blk wz g2 48 [.int .i64 e0, .string e1, .string e2, .int .i64 e3, .string e4] ∧ (SlOld evEnc 5 48 w.heap.size none (some ⟨b, off, none⟩) en el) wz ∧ True) mixed (fun _ hm => ⟨hm.bl 0, hm.fa 1, trivial⟩) fun z => ?_
  refine wt 0 13 1 rfl z (ov_move rfl) ?_
  refine wt 1 13 3 rfl z (ov_field fo48_1 rfl rfl) ?_
  refine wt 2 13 7 rfl z (ov_load sc9 rfl (fun _ hm => hm.1) rfl) ?_
  refine wt 3 13 15 rfl z (ov_move rfl) ?_
  refine wt 4 13 31 rfl z (ov_field fo48_1 rfl rfl) ?_
  refine wt 5 13 63 rfl z (ov_load sc9 rfl (fun _ hm => hm.1) rfl) ?_
  refine wt 7 13 191 rfl z (ov_loads rz48 rfl (fun _ hm => hm.1) rfl rfl) ?_
  refine wa1 6 rfl ?_
  refine wl_ov (ov_lookF (enc := encS) (k := 9) (e := 93) sa0 (by kernel_rfl) (by kernel_rfl) (by kernel_rfl) rfl rfl (fun _ hm => (hm.fact 0 rfl))) rfl ?_
  refine wl_set 26 (v' := .agg #[.int .i64 s0, .string s1, .int .i64 s2]) rfl (congrArg encS hS0.symm) ?_
  refine wl_nil ?_
  refine nw 13 255 (fun _ hm => ⟨hm.bl 0, hm.fa 1, trivial⟩) fun z => ?_
  refine wa1 8 rfl ?_
  refine wl_callv (v := .tuple #[.agg #[.int .i64 t0, .string t1, .int .i64 t2], .bool (goodB ⟨s0, s1, s2⟩ (⟨e0, e1, e2, e3, e4⟩ : Ev))]) rfl cb49 rfl rfl (fun wx hm => (by have h := follow_any s0 s1 s2 e0 e1 e2 e3 e4 wx; rw [← hT0] at h; exact h)) ?_
  refine wl_nil ?_
  refine nw 13 511 (fun _ hm => ⟨hm.bl 0, hm.fa 1, trivial⟩) fun z => ?_
  refine wt 9 13 1023 rfl z (ov_move rfl) ?_
  refine wt 10 13 2047 rfl z (ov_extract rfl rfl) ?_
  refine wt 11 13 4095 rfl z (ov_extract rfl rfl) ?_
  refine wa1 12 rfl ?_
  refine wl_mapPut (enc := encS) (v := (⟨t0, t1, t2⟩ : Sa)) (k := 9) (e := 93) (X' := [SlOld evEnc 5 48 w.heap.size none (some ⟨b, off, none⟩) en el]) 0 (by kernel_rfl) (by kernel_rfl) rfl rfl rfl rfl (far_cons (i := 1) SlOld.far rfl far_nil) ?_
  refine wl_nil ?_
  refine nw 13 8191 (fun _ hm => ⟨hm.bl 0, hm.fa 1, trivial⟩) fun z => ?_
  refine wa_done (by kernel_rfl) ?_
  refine nx_blk_nrm (nx_then (gw_region (ad_ rfl rfl (mv_ rfl (wl_nil ?_)))))
  have hwr : stepM F (⟨e0, e1, e2, e3, e4⟩ : Ev) = fPut (F) e1 (⟨t0, t1, t2⟩ : Sa) := by unfold stepM; dsimp only; rw [← hS0, ← hT0]
  exact nx_round (i + 1, fPut (F) e1 (⟨t0, t1, t2⟩ : Sa)) ⟨by dsimp only; omega, by rw [← hwr]; exact hst⟩ (by dsimp only; omega) ⟨rfl, rfl, rfl, rfl, rfl, (some_int (by omega)), trivial⟩ (fun _ hm => hm.pick [] [] [0, 1] rfl rfl)
 have hi : ¬ (((i : Nat) : Int) < ((en : Nat) : Int)) := by simpa using hh
 clear hh
 refine gw_exit ?_
 refine nx_then_exit (nx_then_exit ?_)
 refine nx_blk_here ?_
 refine nx_then (sr_ (mv_ rfl (sg_ rfl (nn_ ?_))))
 refine gw_ret ?_
 have hFW : F = W := (stM_end (by omega)).symm.trans hF
 refine nx_ret1 rfl rfl fun wx hm => ?_
 exact ⟨g1, rfl, (by have h := (hm.fact 0 rfl); rw [← hFW]; exact h.lower (Nat.zero_le _)), hm.g⟩
theorem broken_any (el : List Ev) (eA : Option Addr) (en ec : Nat) (w : World) (hl : SlT evEnc 5 48 w eA en el) (hen : en ≤ 1000000) :
  Calls Try.prog 30 #[.slice eA en ec] w (fun e w' => ∃ (A : Option Addr) (k c : Nat), e = .returned (.slice A k c) ∧ w'.ownsRow w.heap.size 3 1 (.slice A k c) k ((brokenP el).flatMap itEnc1) ∧ (brokenP el).length = k ∧ k ≤ en ∧ w.grownBy w' none) := by
 refine gw_enter ⟨38, w, none, []⟩ Try.func30 rfl Try.ntmps30 rfl (mem0 (X := [SlOld evEnc 5 48 w.heap.size none eA en el]) (allF_cons hl.old allF_nil) (allL_cons SlOld.lasts allL_nil)) ?_
 refine sr_ ?_
 have hlen := hl.len
 refine wl_nilOwn 3 1 ?_
 refine sg_ rfl (nn_ (sr_ ?_))
 refine wl_makeMapF (enc := encS) rfl fun g1 => ?_
 refine sg_ rfl (nn_ (sr_ (sg_ rfl (nn_ (gw_seq (sr_ (mv_ rfl (wl_ov (ov_len es34 rfl) rfl (mv_ rfl ?_)))))))))
 refine nn_ (gw_block ?_)
 refine gw_loop (γ := Nat × AMap × Nat × Option Addr × Nat × List Int) (fun gg => gg.1 ≤ en ∧ gg.2.2.1 ≤ gg.1 ∧ gg.2.2.2.2.2.length = gg.2.2.1 ∧ gg.2.2.2.2.2 ++ (brkP (el.drop gg.1) gg.1 gg.2.1).map natI = brokenP el) (fun gg => [(2, .slice none 0 0), (3, .map (some g1)), (4, .slice gg.2.2.2.1 gg.2.2.1 gg.2.2.2.2.1), (10, .slice eA en ec), (11, .int .i64 ((en : Nat) : Int)), (12, .int .i64 ((gg.1 : Nat) : Int))]) (fun gg => fun _ => True) (fun gg => []) (fun gg => [⟨.slice gg.2.2.2.1 gg.2.2.1 gg.2.2.2.2.1, 3, 1, gg.2.2.1, gg.2.2.2.2.2.flatMap itEnc1⟩]) (fun gg => [MapF encS w.heap.size g1 (gg.2.1), SlOld evEnc 5 48 w.heap.size none eA en el]) (fun gg => en - gg.1) (0, fNil, 0, none, 0, []) ⟨Nat.zero_le _, Nat.le_refl _, rfl, rfl⟩ ⟨rfl, rfl, rfl, rfl, rfl, rfl, trivial⟩ (fun _ hm => hm.pick [] [0] [0, 1] rfl rfl) ?_
 rintro ⟨i, F, k, oA, oc, ol⟩ hinv
 replace hinv : i ≤ en ∧ k ≤ i ∧ ol.length = k ∧ ol ++ (brkP (el.drop i) i F).map natI = brokenP el := hinv
 dsimp only
 refine sr_ ?_
 obtain ⟨hi0, hki, hol, hbr⟩ := hinv
 refine wl_ov (ov_lss rfl rfl) rfl (nn_ (gw_seq ?_))
 refine gw_cond rfl (fun hh => ?_) (fun hh => ?_)
 ·have hi : ((i : Nat) : Int) < ((en : Nat) : Int) := by simpa using hh
  clear hh
  refine gw_skip (nx_then (gw_seq (gw_block (sr_ ?_))))
  obtain ⟨b, off, hA, _, _⟩ := hl.get (by omega)
  subst hA
  obtain ⟨x, hx⟩ : ∃ x, el[i]? = some x := ⟨_, List.getElem?_eq_getElem (by omega)⟩
  obtain ⟨e0, e1, e2, e3, e4⟩ := x
  obtain ⟨S0, hS0⟩ : ∃ z, z = ((F) e1).getD sa0 := ⟨_, rfl⟩
  obtain ⟨s0, s1, s2⟩ := S0
  obtain ⟨T0, hT0⟩ : ∃ z, z = stepS ⟨s0, s1, s2⟩ (⟨e0, e1, e2, e3, e4⟩ : Ev) := ⟨_, rfl⟩
  obtain ⟨t0, t1, t2⟩ := T0
  have hat := brkP_at (F := F) hx
  have hwr : stepM F (⟨e0, e1, e2, e3, e4⟩ : Ev) = fPut (F) e1 (⟨t0, t1, t2⟩ : Sa) := by unfold stepM; dsimp only; rw [← hS0, ← hT0]
  rw [hwr, show (F (⟨e0, e1, e2, e3, e4⟩ : Ev).veh).getD sa0 = ⟨s0, s1, s2⟩ from hS0.symm] at hat
  refine mv_ rfl ?_
  refine wl_ov (ov_index (j := i) es34 rfl rfl (by omega)) rfl ?_
  refine wl_ov (ov_elem (vs := [.int .i64 e0, .string e1, .string e2, .int .i64 e3, .string e4]) rz48 rfl (fun _ hm => (hm.fact 1 rfl).1) hx rfl rfl) rfl ?_
  refine wl_alloc zc48 rfl fun g2 => ?_
  refine sg_ rfl ?_
  refine wl_stores (cs' := [.int .i64 e0, .string e1, .string e2, .int .i64 e3, .string e4]) 0 rz48 rfl rfl rfl rfl rfl rfl rfl rfl ?_
  refine nn_ (sr_ (mv_ rfl (fd_ fo48_1 rfl rfl (lk_ sc9 0 rfl rfl rfl ?_))))
  refine wl_ov (ov_lookF (enc := encS) (k := 9) (e := 93) sa0 (by kernel_rfl) (by kernel_rfl) (by kernel_rfl) rfl rfl (fun _ hm => (hm.fact 0 rfl))) rfl ?_
  refine wl_set 21 (v' := .agg #[.int .i64 s0, .string s1, .int .i64 s2]) rfl (congrArg encS hS0.symm) ?_
  refine wl_ov (ov_loads rz48 rfl (fun _ hm => hm.blkI 0 rfl) rfl rfl) rfl ?_
  refine wl_callv (v := .tuple #[.agg #[.int .i64 t0, .string t1, .int .i64 t2], .bool (goodB ⟨s0, s1, s2⟩ (⟨e0, e1, e2, e3, e4⟩ : Ev))]) rfl cb49 rfl rfl (fun wx hm => (by have h := follow_any s0 s1 s2 e0 e1 e2 e3 e4 wx; rw [← hT0] at h; exact h)) ?_
  refine mv_ rfl (wl_ov (ov_extract rfl rfl) rfl (wl_ov (ov_extract rfl rfl) rfl ?_))
  refine wl_alloc zc93 rfl fun g3 => ?_
  refine wl_stores (cs' := [.int .i64 t0, .string t1, .int .i64 t2]) 0 rz93 rfl rfl rfl rfl rfl rfl rfl rfl ?_
  refine sg_ rfl (nn_ (gw_seq (sr_ (mv_ rfl (wl_ov (ov_un_not rfl) rfl (nn_ ?_))))))
  refine gw_cond rfl (fun hh => ?_) (fun hh => ?_)
  ·have hg : (goodB ⟨s0, s1, s2⟩ (⟨e0, e1, e2, e3, e4⟩ : Ev)) = false := by simpa using hh
   clear hh
   refine gw_region (mv_ rfl (mv_ rfl ?_))
   refine wl_buildSlice (e := 3) (cs := [.int .i64 ((i : Nat) : Int)]) rfl (by kernel_rfl) rfl fun g4 => ?_
   refine wl_append (news := [.int .i64 ((i : Nat) : Int)]) 0 0 ap22 rfl rfl rfl rfl rfl rfl rfl (by omega) (by unfold maxLen; omega) rfl rfl fun v2 hv2 => ?_
   refine wl_look (R := ∃ A cc, v2 = .slice A (k + 1) cc) (fun wx hm => own_slice (hm.ownI 0 rfl)) ?_
   rintro ⟨A3, c3, rfl⟩
   have hxs : ol.flatMap itEnc1 ++ ([.int .i64 ((i : Nat) : Int)] : List Value) = (ol ++ [natI i]).flatMap itEnc1 := by simp [itEnc1, natI]
   rw [hxs]
   refine sg_ rfl (nn_ (gw_region (mv_ rfl (fd_ fo48_1 rfl rfl (lk_ sc9 2 rfl rfl rfl ?_)))))
   refine wl_ov (ov_loads rz93 rfl (fun _ hm => hm.blkI 1 rfl) rfl rfl) rfl ?_
   refine wl_mapPut (enc := encS) (v := (⟨t0, t1, t2⟩ : Sa)) (k := 9) (e := 93) (X' := [SlOld evEnc 5 48 w.heap.size none (some ⟨b, off, none⟩) en el]) 0 (by kernel_rfl) (by kernel_rfl) rfl rfl rfl rfl (far_cons (i := 1) SlOld.far rfl far_nil) ?_
   refine wl_nil (nx_blk_nrm (nx_then (gw_region (ad_ rfl rfl (mv_ rfl (wl_nil ?_))))))
   exact nx_round (i + 1, fPut (F) e1 (⟨t0, t1, t2⟩ : Sa), k + 1, A3, c3, ol ++ [natI i]) ⟨by dsimp only; omega, by dsimp only; omega, by simp [hol], by rw [hat, if_neg (by rw [hg]; decide)] at hbr; rw [← hbr]; simp⟩ (by dsimp only; omega) ⟨rfl, rfl, rfl, rfl, rfl, (some_int (by omega)), trivial⟩ (fun _ hm => hm.pick [] [0] [0, 1] rfl rfl)
  have hg : (goodB ⟨s0, s1, s2⟩ (⟨e0, e1, e2, e3, e4⟩ : Ev)) = true := by simpa using hh
  clear hh
  refine gw_skip (nx_then (gw_region (mv_ rfl (fd_ fo48_1 rfl rfl (lk_ sc9 1 rfl rfl rfl ?_)))))
  refine wl_ov (ov_loads rz93 rfl (fun _ hm => hm.blkI 0 rfl) rfl rfl) rfl ?_
  refine wl_mapPut (enc := encS) (v := (⟨t0, t1, t2⟩ : Sa)) (k := 9) (e := 93) (X' := [SlOld evEnc 5 48 w.heap.size none (some ⟨b, off, none⟩) en el]) 0 (by kernel_rfl) (by kernel_rfl) rfl rfl rfl rfl (far_cons (i := 1) SlOld.far rfl far_nil) ?_
  refine wl_nil (nx_blk_nrm (nx_then (gw_region (ad_ rfl rfl (mv_ rfl (wl_nil ?_))))))
  exact nx_round (i + 1, fPut (F) e1 (⟨t0, t1, t2⟩ : Sa), k, oA, oc, ol) ⟨by dsimp only; omega, by dsimp only; omega, hol, by rw [hat, if_pos hg] at hbr; exact hbr⟩ (by dsimp only; omega) ⟨rfl, rfl, rfl, rfl, rfl, (some_int (by omega)), trivial⟩ (fun _ hm => hm.pick [] [0] [0, 1] rfl rfl)
 have hi : ¬ (((i : Nat) : Int) < ((en : Nat) : Int)) := by simpa using hh
 clear hh
 refine gw_exit ?_
 refine nx_then_exit (nx_then_exit ?_)
 refine nx_blk_here ?_
 refine nx_then (sr_ (mv_ rfl (sg_ rfl (nn_ ?_))))
 refine gw_ret ?_
 have hb1 : ol = brokenP el := by rw [← hbr, List.drop_eq_nil_of_le (show el.length ≤ i by omega)]; simp [brkP]
 refine nx_ret1 rfl rfl fun wx hm => ?_
 exact ⟨oA, k, oc, rfl, hb1 ▸ hm.ownI 0 rfl, hb1 ▸ hol, by omega, hm.g⟩
end Go.Proofs.Ytodcildcipfmcaa
namespace Go.Proofs.Ytodcildcipfmcaa
open Go.RowKit
section
variable {α : Type}
/-- One is put into a list that is sorted from behind. -/
def insR (lt : α → α → Bool) (x : α) : List α → List α
  | [] => [x]
  | y :: r => if lt x y = true then y :: insR lt x r else x :: y :: r
theorem insR_mem {lt : α → α → Bool} {x z : α} : ∀ {l : List α}, z ∈ insR lt x l → z = x ∨ z ∈ l
  | [], h => .inl (List.mem_singleton.1 h)
  | y :: r, h => by
    unfold insR at h
    split at h
    · rcases List.mem_cons.1 h with rfl | h
      · exact .inr (List.mem_cons_self ..)
      · rcases insR_mem h with h | h
        · exact .inl h
        · exact .inr (List.mem_cons_of_mem _ h)
    · rcases List.mem_cons.1 h with h | h
      · exact .inl h
      · exact .inr h
theorem insR_len {lt : α → α → Bool} {x : α} : ∀ {l : List α}, (insR lt x l).length = l.length + 1
  | [] => rfl
  | y :: r => by
    have := insR_len (lt := lt) (x := x) (l := r)
    unfold insR
    split
    · rw [List.length_cons, this, List.length_cons]
    · rw [List.length_cons]
theorem sink_ins {lt : α → α → Bool} : ∀ {j : Nat} {l : List α} {x : α}, l[j]? = some x → sink lt j l = (insR lt x (l.take j).reverse).reverse ++ l.drop (j + 1)
  | 0, l, x, h => by
    obtain ⟨h1, rfl⟩ := List.getElem?_eq_some_iff.1 h
    show l = [l[0]] ++ l.drop 1
    rw [List.singleton_append, ← List.drop_eq_getElem_cons h1, List.drop_zero]
  | j + 1, l, x, h => by
    obtain ⟨h1, hx⟩ := List.getElem?_eq_some_iff.1 h
    obtain ⟨y, hy⟩ : ∃ y, l[j]? = some y := ⟨_, List.getElem?_eq_getElem (by omega)⟩
    have ht : (l.take (j + 1)).reverse = y :: (l.take j).reverse := by
      rw [List.take_add_one, hy]; simp
    rw [ht]
    by_cases hl : lt x y = true
    · have hs : ((l.set (j + 1) y).set j x)[j]? = some x := List.getElem?_set_self (by rw [List.length_set]; omega)
      rw [sink_yes h hy hl, sink_ins hs]
      have e1 : ((l.set (j + 1) y).set j x).take j = l.take j := by
        rw [List.take_set_of_le (by omega), List.take_set_of_le (by omega)]
      have e2 : ((l.set (j + 1) y).set j x).drop (j + 1) = y :: l.drop (j + 2) := by
        rw [List.drop_set_of_lt (by omega), List.drop_eq_getElem_cons (by rw [List.length_set]; omega), List.getElem_set_self, List.drop_set_of_lt (by omega)]
      rw [e1, e2]
      unfold insR
      rw [if_pos hl]; simp
      cases (l.take j).reverse <;> rfl
    · have hl2 : lt x y = false := by simpa using hl
      rw [sink_no h hy hl2]
      unfold insR
      rw [if_neg hl]
      obtain ⟨h2, hy2⟩ := List.getElem?_eq_some_iff.1 hy
      conv => lhs; rw [← List.take_append_drop j l, List.drop_eq_getElem_cons h2, List.drop_eq_getElem_cons h1, hx, hy2]
      simp
theorem isortF_fold {lt : α → α → Bool} : ∀ (f i : Nat) (l : List α), i + f = l.length → isortF lt f i l = ((l.drop i).foldl (fun a x => insR lt x a) (l.take i).reverse).reverse
  | 0, i, l, h => by
    rw [List.drop_eq_nil_of_le (by omega), List.take_of_length_le (by omega)]
    show l = l.reverse.reverse
    rw [List.reverse_reverse]
  | f + 1, i, l, h => by
    obtain ⟨x, hx⟩ : ∃ x, l[i]? = some x := ⟨_, List.getElem?_eq_getElem (by omega)⟩
    obtain ⟨h1, hx1⟩ := List.getElem?_eq_some_iff.1 hx
    have hlen : (insR lt x (l.take i).reverse).reverse.length = i + 1 := by
      rw [List.length_reverse, insR_len, List.length_reverse, List.length_take]; omega
    show isortF lt f (i + 1) (sink lt i l) = _
    rw [isortF_fold f (i + 1) (sink lt i l) (by rw [sink_len]; omega), sink_ins hx]
    rw [show i + 1 = (insR lt x (l.take i).reverse).reverse.length from hlen.symm, List.drop_left, List.take_left, List.reverse_reverse, hlen, List.drop_eq_getElem_cons h1, hx1]
    rfl
theorem isort_fold {lt : α → α → Bool} (l : List α) : isort lt l = (l.foldl (fun a x => insR lt x a) []).reverse := by
  cases l with
  | nil => rfl
  | cons x r =>
    unfold isort
    rw [isortF_fold _ _ _ (by rw [List.length_cons]; omega)]
    rfl
theorem insR_pair {lt : α → α → Bool} {R : α → α → Prop} (tr : ∀ a b c, R a b → R b c → R a c) {x : α} : ∀ {l : List α}, l.Pairwise (fun a b => R b a) → (∀ y ∈ l, (lt x y = true → R x y) ∧ (lt x y = false → R y x)) → (insR lt x l).Pairwise (fun a b => R b a)
  | [], _, _ => List.pairwise_singleton _ _
  | y :: r, hp, hc => by
    obtain ⟨hp1, hp2⟩ := List.pairwise_cons.1 hp
    have hy := hc y (List.mem_cons_self ..)
    unfold insR
    split
    · rename_i h
      refine List.pairwise_cons.2 ⟨fun z hz => ?_, insR_pair (R := R) tr hp2 fun z hz => hc z (List.mem_cons_of_mem _ hz)⟩
      rcases insR_mem hz with rfl | hz
      · exact hy.1 h
      · exact hp1 z hz
    · rename_i h
      have h2 := hy.2 (by simpa using h)
      refine List.pairwise_cons.2 ⟨fun z hz => ?_, hp⟩
      rcases List.mem_cons.1 hz with rfl | hz
      · exact h2
      · exact tr _ _ _ (hp1 z hz) h2
theorem fold_pair {lt : α → α → Bool} {R : α → α → Prop} (tr : ∀ a b c, R a b → R b c → R a c) : ∀ {l acc : List α}, acc.Pairwise (fun a b => R b a) → (∀ y ∈ acc, ∀ x ∈ l, (lt x y = true → R x y) ∧ (lt x y = false → R y x)) → l.Pairwise (fun y x => (lt x y = true → R x y) ∧ (lt x y = false → R y x)) → (l.foldl (fun a x => insR lt x a) acc).Pairwise (fun a b => R b a)
  | [], _, h, _, _ => h
  | x :: r, acc, h, hc, hp => by
    obtain ⟨hp1, hp2⟩ := List.pairwise_cons.1 hp
    refine fold_pair (R := R) tr (l := r) (acc := insR lt x acc) (insR_pair (R := R) tr h fun y hy => hc y hy x (List.mem_cons_self ..)) (fun y hy z hz => ?_) hp2
    rcases insR_mem hy with rfl | hy
    · exact hp1 z hz
    · exact hc y hy z (List.mem_cons_of_mem _ hz)
/-- Sorting by insertion is stable, and sorts. -/
theorem isort_pair {lt : α → α → Bool} {R : α → α → Prop} (tr : ∀ a b c, R a b → R b c → R a c) {l : List α} (hp : l.Pairwise (fun y x => (lt x y = true → R x y) ∧ (lt x y = false → R y x))) : (isort lt l).Pairwise R := by
  rw [isort_fold, List.pairwise_reverse]
  exact fold_pair (R := R) tr List.Pairwise.nil (fun _ h => by cases h) hp
theorem filt_at {β : Type} {p : α → Bool} {f : α → β} {l : List α} {i : Nat} {x : α} (h : l[i]? = some x) : ((l.take (i + 1)).filter p).map f = ((l.take i).filter p).map f ++ (if p x = true then [f x] else []) := by
  rw [List.take_add_one, h, Option.toList_some, List.filter_append, List.map_append]
  by_cases hp : p x = true
  · rw [if_pos hp, List.filter_cons_of_pos hp]; rfl
  · rw [if_neg hp, List.filter_cons_of_neg hp]; rfl
end
theorem path_less {l : List Cs} (hc : Closed l) (hl : loopB l l.length = false) {k : ByteArray} (hk : 0 ≤ ixP (csP k) l 0) : (pathN l l.length k).length + 1 ≤ l.length := by
  have hno : ∀ x ∈ l, ¬ x.key ∈ pathN l l.length x.key := fun x hx hm => by
    have : loopB l l.length = true := List.any_eq_true.2 ⟨x, hx, inK_mem.2 hm⟩
    rw [hl] at this; cases this
  have hin : ∀ u ∈ k :: pathN l l.length k, 0 ≤ ixP (csP u) l 0 := fun u hu => by
    rcases List.mem_cons.1 hu with rfl | hu
    · exact hk
    · exact path_in hc _ _ u hu
  have hbound : ∀ x ∈ (k :: pathN l l.length k).map (fun u => (ixP (csP u) l 0).toNat), x < l.length := fun x hx => by
    obtain ⟨u, hu, rfl⟩ := List.mem_map.1 hx
    have h1 := hin u hu
    have h2 := ixP_bound (p := csP u) l
    omega
  have hsame : ∀ u ∈ k :: pathN l l.length k, ∀ v ∈ k :: pathN l l.length k, (ixP (csP u) l 0).toNat = (ixP (csP v) l 0).toNat → u = v := fun u hu v hv he => by
    obtain ⟨x, hx, _, hxu⟩ := ix_key (hin u hu)
    obtain ⟨y, hy, _, hyv⟩ := ix_key (hin v hv)
    rw [he, hy] at hx
    injection hx with hx
    subst hx
    exact hxu.symm.trans hyv
  have hnd : (k :: pathN l l.length k).Pairwise (fun a b => a ≠ b) := by
    refine List.pairwise_cons.2 ⟨fun u hu e => ?_, ?_⟩
    · subst e
      obtain ⟨x, _, hx, rfl⟩ := ix_key hk
      exact hno x hx hu
    · rw [List.pairwise_iff_getElem]
      intro i j hi hj hij he
      have hxi : (pathN l l.length k)[i]? = some ((pathN l l.length k)[i]) := List.getElem?_eq_getElem hi
      have hxj : (pathN l l.length k)[j]? = some ((pathN l l.length k)[j]) := List.getElem?_eq_getElem hj
      rw [← he] at hxj
      generalize (pathN l l.length k)[i] = u at *
      have hd := pathN_drop l i _ _ u hxi
      have hmem : u ∈ pathN l (l.length - (i + 1)) u := by
        rw [← hd]
        refine List.mem_of_getElem? (i := j - (i + 1)) ?_
        rw [List.getElem?_drop, show i + 1 + (j - (i + 1)) = j by omega]; exact hxj
      have hb := pathN_len l l.length k
      have hmore := pathN_more l (l.length - (i + 1)) u (i + 1)
      rw [show l.length - (i + 1) + (i + 1) = l.length by omega] at hmore
      rw [hmore] at hmem
      obtain ⟨x, _, hx, rfl⟩ := ix_key (path_in hc _ _ u (List.mem_of_getElem? hxi))
      exact hno x hx (List.mem_of_mem_take hmem)
  have hpair : ((k :: pathN l l.length k).map (fun u => (ixP (csP u) l 0).toNat)).Pairwise (fun a b => a ≠ b) := by
    rw [List.pairwise_map]
    exact hnd.imp_of_mem fun {a b} ha hb hab he => hab (hsame a ha b hb he)
  have := pigeon _ _ hbound hpair
  rw [List.length_map, List.length_cons] at this
  exact this
theorem steps_lt {l : List Cs} (hc : Closed l) (hl : loopB l l.length = false) {a : ByteArray} (b : ByteArray) (hk : 0 ≤ ixP (csP a) l 0) : stepsV l a b < (l.length : Int) := by
  have h1 := path_less hc hl hk
  have h2 := ixP_bound (p := fun y => b.toList == y.toList) (pathN l l.length a)
  unfold stepsV
  split
  · omega
  · split <;> omega
def readyB (el : List Ev) (mt : Int) (st : ByteArray) (v : Vh) : Bool := decide ((stateR el v.key mt).st = 1) && (stateR el v.key mt).sta.toList == st.toList
def goodV (cl : List Cs) (c : ByteArray) (el : List Ev) (mt : Int) (st : ByteArray) (v : Vh) : Bool := readyB el mt st v && decide (0 ≤ stepsV cl c v.cls)
def rdL (cl : List Cs) (c : ByteArray) (el : List Ev) (mt : Int) (st : ByteArray) (vl : List Vh) : List ByteArray := (vl.filter (goodV cl c el mt st)).map Vh.key
def thatB (cl : List Cs) (c : ByteArray) (el : List Ev) (mt : Int) (st : ByteArray) (n : Nat) (v : Vh) : Bool := decide (stepsV cl c v.cls = n) && readyB el mt st v
def rfL (cl : List Cs) (c : ByteArray) (el : List Ev) (mt : Int) (st : ByteArray) (vl : List Vh) (n : Nat) : List ByteArray := (vl.filter (thatB cl c el mt st n)).map Vh.key
def rfsL (cl : List Cs) (c : ByteArray) (el : List Ev) (mt : Int) (st : ByteArray) (vl : List Vh) (N : Nat) : List ByteArray := (List.range N).flatMap (rfL cl c el mt st vl)
theorem rd_at {cl : List Cs} {c : ByteArray} {el : List Ev} {mt : Int} {st : ByteArray} {vl : List Vh} {i : Nat} {x : Vh} (h : vl[i]? = some x) : rdL cl c el mt st (vl.take (i + 1)) = rdL cl c el mt st (vl.take i) ++ (if goodV cl c el mt st x = true then [x.key] else []) := filt_at h
def FarOk (cl : List Cs) (c : ByteArray) (el : List Ev) (mt : Int) (st : ByteArray) (F : ByteArray → Option Int) (l : List Vh) : Prop := ∀ v ∈ l, goodV cl c el mt st v = true → F v.key = some (stepsV cl c v.cls)
theorem far_put {cl : List Cs} {c : ByteArray} {el : List Ev} {mt : Int} {st : ByteArray} {F : ByteArray → Option Int} {vl : List Vh} {i : Nat} {x : Vh} (h : FarOk cl c el mt st F (vl.take i)) (hr : Rise vl) (hx : vl[i]? = some x) : FarOk cl c el mt st (fPut F x.key (stepsV cl c x.cls)) (vl.take (i + 1)) := fun v hv hg => by
  rw [List.take_add_one, hx, Option.toList_some] at hv
  rcases List.mem_append.1 hv with hv | hv
  · obtain ⟨j, hj⟩ := List.getElem?_of_mem hv
    have hji : j < i := by
      have := (List.getElem?_eq_some_iff.1 hj).1
      rw [List.length_take] at this; omega
    rw [List.getElem?_take, if_pos hji] at hj
    have := rise_lt hr hji hj hx
    rw [fPut_other _ _ (fun e => bl_ne this (by rw [e]))]
    exact h v hv hg
  · rw [List.mem_singleton.1 hv, fPut_same]
theorem far_skip {cl : List Cs} {c : ByteArray} {el : List Ev} {mt : Int} {st : ByteArray} {F : ByteArray → Option Int} {vl : List Vh} {i : Nat} {x : Vh} (h : FarOk cl c el mt st F (vl.take i)) (hx : vl[i]? = some x) (hn : goodV cl c el mt st x = false) : FarOk cl c el mt st F (vl.take (i + 1)) := fun v hv hg => by
  rw [List.take_add_one, hx, Option.toList_some] at hv
  rcases List.mem_append.1 hv with hv | hv
  · exact h v hv hg
  · rw [List.mem_singleton.1 hv, hn] at hg; cases hg
def farLt (F : ByteArray → Option Int) (a b : ByteArray) : Bool := decide (cmpI ((F a).getD 0) ((F b).getD 0) < 0)
def farR (F : ByteArray → Option Int) (a b : ByteArray) : Prop := (F a).getD 0 < (F b).getD 0 ∨ ((F a).getD 0 = (F b).getD 0 ∧ Go.Op.bytesLess a.toList b.toList = true)
theorem farR_tr {F : ByteArray → Option Int} {a b c : ByteArray} (h1 : farR F a b) (h2 : farR F b c) : farR F a c := by
  rcases h1 with h1 | ⟨h1, k1⟩ <;> rcases h2 with h2 | ⟨h2, k2⟩
  · exact .inl (by omega)
  · exact .inl (by omega)
  · exact .inl (by omega)
  · exact .inr ⟨by omega, bl_trans k1 k2⟩
theorem farR_ne {F : ByteArray → Option Int} {a b : ByteArray} (h : farR F a b) : a ≠ b := fun e => by
  subst e
  rcases h with h | ⟨_, h⟩
  · omega
  · rw [bl_irrefl] at h; cases h
theorem farR_anti {F : ByteArray → Option Int} {a b : ByteArray} (h1 : farR F a b) (h2 : farR F b a) : a = b := absurd rfl (farR_ne (farR_tr h1 h2))
theorem keys_rise {p : Vh → Bool} {vl : List Vh} (hr : Rise vl) : ((vl.filter p).map Vh.key).Pairwise (fun a b => Go.Op.bytesLess a.toList b.toList = true) := by
  rw [List.pairwise_map]
  exact hr.filter p
theorem ready_eq {cl : List Cs} {c : ByteArray} {el : List Ev} {mt : Int} {st : ByteArray} {F : ByteArray → Option Int} {vl : List Vh} (hr : Rise vl) (hc : Closed cl) (hl : loopB cl cl.length = false) (hk : 0 ≤ ixP (csP c) cl 0) (hF : FarOk cl c el mt st F vl) : isort (farLt F) (rdL cl c el mt st vl) = rfsL cl c el mt st vl cl.length := by
  have hin : ∀ n, ∀ x ∈ rfL cl c el mt st vl n, (F x).getD 0 = (n : Int) ∧ x ∈ rdL cl c el mt st vl := fun n x hx => by
    obtain ⟨v, hv, rfl⟩ := List.mem_map.1 hx
    obtain ⟨hv1, hv2⟩ := List.mem_filter.1 hv
    unfold thatB at hv2
    rw [Bool.and_eq_true, decide_eq_true_eq] at hv2
    have hg : goodV cl c el mt st v = true := by
      unfold goodV
      rw [hv2.2, hv2.1]; simp
    exact ⟨by rw [hF v hv1 hg, hv2.1]; rfl, List.mem_map.2 ⟨v, List.mem_filter.2 ⟨hv1, hg⟩, rfl⟩⟩
  have h1 : (isort (farLt F) (rdL cl c el mt st vl)).Pairwise (farR F) := by
    refine isort_pair (R := farR F) (fun _ _ _ h1 h2 => farR_tr h1 h2) ((keys_rise hr).imp fun {y x} h => ⟨fun h2 => ?_, fun h2 => ?_⟩)
    · exact .inl (cmpI_neg.1 (of_decide_eq_true h2))
    · have h3 := of_decide_eq_false h2
      rw [cmpI_neg] at h3
      by_cases h4 : (F y).getD 0 < (F x).getD 0
      · exact .inl h4
      · exact .inr ⟨by omega, h⟩
  have h2 : (rfsL cl c el mt st vl cl.length).Pairwise (farR F) := by
    unfold rfsL
    rw [List.pairwise_flatMap]
    refine ⟨fun n _ => ?_, List.pairwise_lt_range.imp fun {a b} hab x hx y hy => ?_⟩
    · refine (List.Pairwise.and_mem.1 (keys_rise (p := thatB cl c el mt st n) hr)).imp fun {a b} ⟨ha, hb, hab⟩ => .inr ⟨?_, hab⟩
      rw [(hin n a ha).1, (hin n b hb).1]
    · refine .inl ?_
      rw [(hin _ x hx).1, (hin _ y hy).1]; omega
  have hp : (isort (farLt F) (rdL cl c el mt st vl)).Perm (rfsL cl c el mt st vl cl.length) := by
    refine (List.perm_ext_iff_of_nodup (h1.imp fun h => farR_ne h) (h2.imp fun h => farR_ne h)).2 fun x => ?_
    rw [isort_mem]
    constructor
    · intro hx
      obtain ⟨v, hv, rfl⟩ := List.mem_map.1 hx
      obtain ⟨hv1, hv2⟩ := List.mem_filter.1 hv
      unfold goodV at hv2
      rw [Bool.and_eq_true, decide_eq_true_eq] at hv2
      have hlt := steps_lt hc hl v.cls hk
      refine List.mem_flatMap.2 ⟨(stepsV cl c v.cls).toNat, List.mem_range.2 (by omega), List.mem_map.2 ⟨v, List.mem_filter.2 ⟨hv1, ?_⟩, rfl⟩⟩
      unfold thatB
      rw [hv2.1, Bool.and_true]
      exact decide_eq_true (by omega)
    · intro hx
      obtain ⟨n, _, hn⟩ := List.mem_flatMap.1 hx
      exact (hin n x hn).2
  exact hp.eq_of_pairwise (le := farR F) (fun a b _ _ => farR_anti) h1 h2
end Go.Proofs.Ytodcildcipfmcaa
namespace Go.Proofs.Ytodcildcipfmcaa
open Go.RowKit
theorem broken_right (sl : List St) (cl : List Cs) (vl : List Vh) (pl : List Pl) (sA cA vA pA : Option Addr) (sn sc cn cc vn vc pn pc : Nat) (el : List Ev) (eA : Option Addr) (en ec : Nat) (w : World) (hs : SlT stEnc 15 41 w sA sn sl) (hc : SlT csEnc 2 27 w cA cn cl) (hv : SlT vhEnc 2 46 w vA vn vl) (hp : SlT plEnc 3 139 w pA pn pl) (hsok : ∀ x ∈ sl, StOk x) (hcok : ∀ x ∈ cl, CsOk x) (hvok : ∀ x ∈ vl, VhOk x) (hpok : ∀ x ∈ pl, PlOk x) (hsn : sn ≤ 1000000) (hcn : cn ≤ 1000000) (hvn : vn ≤ 1000000) (hpn : pn ≤ 1000000) (hl : SlT evEnc 5 48 w eA en el) (heok : ∀ x ∈ el, EvOk x) (hen : en ≤ 1000000) (h0 : evsE sl cl vl pl el = 0) :
  Calls Try.prog 9 #[.agg #[.slice sA sn sc, .slice cA cn cc, .slice vA vn vc, .slice pA pn pc], .slice eA en ec] w (fun e w' => ∃ (A : Option Addr) (k c : Nat), e = .returned (.tuple #[.slice A k c, .int .i64 0]) ∧ SlT itEnc1 1 3 w' A k (brokenP el) ∧ k ≤ en ∧ w.grownBy w' none) := by
 refine gw_enter ⟨15, w, none, []⟩ Try.func9 rfl Try.ntmps9 rfl (mem0 (X := [SlOld stEnc 15 41 w.heap.size none sA sn sl, SlOld csEnc 2 27 w.heap.size none cA cn cl, SlOld vhEnc 2 46 w.heap.size none vA vn vl, SlOld plEnc 3 139 w.heap.size none pA pn pl, SlOld evEnc 5 48 w.heap.size none eA en el]) (allF_cons hs.old (allF_cons hc.old (allF_cons hv.old (allF_cons hp.old (allF_cons hl.old allF_nil))))) (allL_cons SlOld.lasts (allL_cons SlOld.lasts (allL_cons SlOld.lasts (allL_cons SlOld.lasts (allL_cons SlOld.lasts allL_nil)))))) ?_
 refine sr_ ?_
 obtain ⟨FE, hFE⟩ : ∃ z, z = evsE sl cl vl pl el := ⟨_, rfl⟩
 rw [← hFE] at h0
 refine wl_box rfl rfl rfl fun g1 => ?_
 refine sg_ rfl (sg_ rfl (nn_ (gw_seq (sr_ ?_))))
 refine wl_ov (ov_loads rz33 rfl (fun _ hm => hm.blkI 0 rfl) rfl rfl) rfl ?_
 refine mv_ rfl ?_
 refine wl_callv (v := .int .i64 FE) rfl cb19 rfl rfl (fun wx hm => (by rw [hFE]; exact check2_any sl cl vl pl sA cA vA pA sn sc cn cc vn vc pn pc el eA en ec wx (hm.fact 0 rfl).1 (hm.fact 1 rfl).1 (hm.fact 2 rfl).1 (hm.fact 3 rfl).1 hsok hcok hvok hpok hsn hcn hvn hpn (hm.fact 4 rfl).1 heok hen)) ?_
 refine sg_ rfl (nn_ (sr_ (mv_ rfl (wl_ov (ov_neq rfl rfl) rfl (nn_ ?_)))))
 refine gw_cond rfl (fun hh => ?_) (fun hh => ?_)
 ·have h1 : ¬ (FE = 0) := by simpa using hh
  clear hh
  refine sr_ ?_
  exact absurd h0 (by simpa using h1)
 have h1 : FE = 0 := by simpa using hh
 clear hh
 refine gw_skip (nx_then (sr_ (mv_ rfl ?_)))
 refine wl_callgo (γ := Option Addr × Nat × Nat) (val := (fun g => .slice g.1 g.2.1 g.2.2)) (φ := (fun g => (brokenP el).length = g.2.1 ∧ g.2.1 ≤ en)) (fun g => ⟨.slice g.1 g.2.1 g.2.2, 3, 1, g.2.1, (brokenP el).flatMap itEnc1⟩) rfl cb30 rfl rfl (fun wx hm => (broken_any el eA en ec wx (hm.fact 4 rfl).1 hen).mono fun _ _ ⟨A, k, c, he, ho, h1, h2, hg⟩ => ⟨(A, k, c), he, ⟨h1, h2⟩, ho, hg⟩) ?_
 rintro ⟨A, k, c⟩ hbp
 dsimp only at hbp ⊢
 refine sg_ rfl (sg_ rfl (nn_ ?_))
 refine gw_ret ?_
 refine nx_ret2 rfl rfl rfl fun wx hm => ?_
 exact ⟨A, k, c, rfl, SlT.ofOwn it_len1 (hm.ownI 0 rfl) hbp.1, hbp.2, hm.g⟩
end Go.Proofs.Ytodcildcipfmcaa
