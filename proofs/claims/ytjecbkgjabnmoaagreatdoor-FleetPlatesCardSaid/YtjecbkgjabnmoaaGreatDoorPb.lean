/- Several texts as one: Cl Bt Sl Sk Stc Hd Rt Ta Fw Fx Cells Lst Fz Gf Mp Md Gm Gw Gx Gb Gst Lop LopA LopB Win LopC Sq -/
import Derived.Test.YtjecbkgjabnmoaaGreatDoorPa
import Derived.Laws.BitsLemmas
import Derived.Laws.Shifts
import Derived.Test.YtjecbkgjabnmoaaGreatDoorProg
import Derived.Ground.NamesProg
import Derived.Shelf.Small.Bits
import Derived.Shelf.Small.Strs
import Derived.Deep.RegionHeld3
import Derived.Deep.LoopGhost
import Derived.Deep.DeepCutAuto
import Derived.Maps.Own
import Derived.MapKept
import Derived.StillTailTactics
set_option maxRecDepth 100000
set_option maxHeartbeats 4000000
namespace Go.Proofs.YtjecbkgjabnmoaaGreatDoor
open Go.RowKit
theorem prevCs_le {l : List Cs} {k : Nat} {b : Cs} (h : keyB b.key = true) : leB b.key (prevCs l k) = leCs (prevOf l k) b := by
  unfold prevCs leCs
  cases prevOf l k with
  | none => exact key_low h
  | some q => rfl
theorem cls_scan {l : List Cs} {v : Int} (h30 : ¬ 30 < l.length) (h : scanE csE none l = v) (hv : v ≠ 0) : classesE l = v := by
  unfold classesE
  rw [if_neg h30, if_pos (by rw [h]; exact hv), h]
theorem cls_up {l : List Cs} (h30 : ¬ 30 < l.length) (h : scanE csE none l = 0) (hu : l.any (upB l) = true) : classesE l = 8 := by
  unfold classesE
  rw [if_neg h30, if_neg (by rw [h]; decide), if_pos hu]
theorem cls_loop {l : List Cs} (h30 : ¬ 30 < l.length) (h : scanE csE none l = 0) (hu : l.any (upB l) = false) : classesE l = if loopB l l.length = true then 14 else 0 := by
  unfold classesE
  rw [if_neg h30, if_neg (by rw [h]; decide), if_neg (by rw [hu]; decide)]
theorem any_at {α : Type} {p : α → Bool} {l : List α} {k : Nat} {x : α} (h : l[k]? = some x) : (l.drop k).any p = (p x || (l.drop (k + 1)).any p) := by
  obtain ⟨hk, rfl⟩ := List.getElem?_eq_some_iff.1 h
  rw [List.drop_eq_getElem_cons hk, List.any_cons]
theorem any_end {α : Type} {p : α → Bool} {l : List α} {k : Nat} (h : l.length ≤ k) : (l.drop k).any p = false := by rw [List.drop_eq_nil_of_le h]; rfl
theorem path_more {l : List Cs} {n i : Nat} {k : ByteArray} (h : emptyS (upOf l k) = false) (hi : i < n) : pathN l (n - i) k = upOf l k :: pathN l (n - (i + 1)) (upOf l k) := by
  rw [show n - i = (n - (i + 1)) + 1 by omega]
  show (if emptyS (upOf l k) = true then [] else _) = _
  rw [if_neg (by rw [h]; decide)]
theorem path_stop {l : List Cs} {n : Nat} {k : ByteArray} (h : emptyS (upOf l k) = true) : pathN l n k = [] := by
  cases n with
  | zero => rfl
  | succ n =>
    show (if emptyS (upOf l k) = true then [] else _) = _
    rw [if_pos h]
theorem pred_classAt_1_lot (ke : ByteArray) (up : ByteArray) (gk : Nat) (k : ByteArray) (w : World) (hk : Blk w gk 9 [.string k]) :
  Calls Tryz.prog 173 #[.agg #[.string ke, .string up], .pointer (some ⟨gk, 0, none⟩)] w (fun e w' => e = .returned (.bool (csP k ⟨ke, up⟩)) ∧ w.grownBy w' none) := by
 refine gw_enter ⟨8, w, none, []⟩ Tryz.func173 rfl Tryz.ntmps173 rfl (mem0 (X := [BlkOld w.heap.size none gk 9 [.string k]]) (allF_cons hk.old allF_nil) (allL_cons BlkOld.lasts allL_nil)) ?_
 refine sr_ ?_
 refine wl_box rfl rfl rfl fun g1 => ?_
 refine sg_ rfl (nn_ (sr_ (fd_ fo159_0 rfl rfl (lk_ sc9 0 rfl rfl rfl ?_))))
 refine wl_ov (ov_load (v := .string k) sc9 rfl (fun _ hm => (hm.fact 0 rfl).2) rfl) rfl ?_
 refine wl_ov (ov_seql rfl rfl) rfl (sg_ rfl (nn_ ?_))
 refine gw_ret ?_
 refine nx_ret1 rfl rfl fun wx hm => ?_
 exact ⟨rfl, hm.g⟩
theorem index_classAt_1_lot (l : List Cs) (A : Option Addr) (n c0 : Nat) (gk : Nat) (k : ByteArray) (w : World) (hl : SlT csEnc 2 159 w A n l) (hn : n ≤ 1000000) (hk : Blk w gk 9 [.string k]) :
  Calls Tryz.prog 129 #[.slice A n c0, .func (.func 173) #[] #[.pointer (some ⟨gk, 0, none⟩)]] w (GotE w (ixP (csP k) l 0)) := by
 refine gw_enter ⟨19, w, none, []⟩ Tryz.func129 rfl Tryz.ntmps129 rfl (mem0 (X := [SlOld csEnc 2 159 w.heap.size none A n l, BlkOld w.heap.size none gk 9 [.string k]]) (allF_cons hl.old (allF_cons hk.old allF_nil)) (allL_cons SlOld.lasts (allL_cons BlkOld.lasts allL_nil))) ?_
 refine sr_ ?_
 have hlen := hl.len
 refine sg_ rfl (nn_ (gw_seq (sr_ (mv_ rfl (wl_ov (ov_len es27 rfl) rfl (mv_ rfl (nn_ (gw_block ?_))))))))
 refine gw_loop (γ := Nat) (fun (i : Nat) => i ≤ n ∧ ixP (csP k) l 0 = ixP (csP k) (l.drop i) i) (fun (i : Nat) => [(0, .slice A n c0), (1, .func (.func 173) #[] #[.pointer (some ⟨gk, 0, none⟩)]), (7, .int .i64 ((n : Nat) : Int)), (8, .int .i64 ((i : Nat) : Int))]) (fun (i : Nat) => fun _ => True) (fun (i : Nat) => []) (fun (i : Nat) => []) (fun (i : Nat) => [SlOld csEnc 2 159 w.heap.size none A n l, BlkOld w.heap.size none gk 9 [.string k]]) (fun (i : Nat) => n - i) 0 ⟨Nat.zero_le _, rfl⟩ ⟨rfl, rfl, rfl, rfl, trivial⟩ (fun _ hm => hm.pick [] [] [0, 1] rfl rfl) ?_
 intro i hinv
 replace hinv : i ≤ n ∧ ixP (csP k) l 0 = ixP (csP k) (l.drop i) i := hinv
 refine sr_ (wl_ov (ov_lss rfl rfl) rfl (nn_ (gw_seq ?_)))
 refine gw_cond rfl (fun hh => ?_) (fun hh => ?_)
 ·have hi : ((i : Nat) : Int) < ((n : Nat) : Int) := by simpa using hh
  clear hh
  refine gw_skip (nx_then (gw_seq (gw_block (sr_ ?_))))
  obtain ⟨b, off, hA, _, _⟩ := hl.get (by omega)
  subst hA
  obtain ⟨x, hx⟩ : ∃ x, l[i]? = some x := ⟨_, List.getElem?_eq_getElem (by omega)⟩
  obtain ⟨ke, up⟩ := x
  have hat := ixP_at (p := csP k) hx
  refine mv_ rfl (sg_ rfl (nn_ (sr_ (mv_ rfl (mv_ rfl (mv_ rfl ?_))))))
  refine wl_ov (ov_index (j := i) es27 rfl rfl (by omega)) rfl ?_
  refine wl_ov (ov_elem (vs := [.string ke, .string up]) rz159 rfl (fun _ hm => (hm.fact 0 rfl).1) hx rfl rfl) rfl ?_
  refine wl_callv rfl cb173 rfl rfl (fun wx hm => (pred_classAt_1_lot ke up gk k wx (hm.fact 1 rfl).2)) ?_
  refine nn_ ?_
  refine gw_cond rfl (fun hh => ?_) (fun hh => ?_)
  ·have hq : (csP k ⟨ke, up⟩) = true := by simpa using hh
   clear hh
   refine sr_ (mv_ rfl (sg_ rfl (nn_ ?_)))
   refine gw_ret ?_
   refine nx_blk_ret (nx_then_ret (nx_then_ret (nx_blk_ret (nx_then_ret ?_))))
   refine nx_ret1 rfl rfl fun wx hm => ?_
   exact ⟨ret_int (by rw [hinv.2, hat, if_pos hq]), hm.g⟩
  have hq : (csP k ⟨ke, up⟩) = false := by simpa using hh
  clear hh
  refine gw_skip (nx_blk_nrm (nx_then (gw_region (ad_ rfl rfl (mv_ rfl (wl_nil ?_))))))
  exact nx_round (i + 1) ⟨by omega, by rw [hinv.2, hat, if_neg (by rw [hq]; decide)]⟩ (by omega) ⟨rfl, rfl, rfl, (some_int (by omega)), trivial⟩ (fun _ hm => hm.pick [] [] [0, 1] rfl rfl)
 have hi : ¬ (((i : Nat) : Int) < ((n : Nat) : Int)) := by simpa using hh
 clear hh
 refine gw_exit ?_
 refine nx_then_exit (nx_then_exit ?_)
 refine nx_blk_here ?_
 refine nx_then (sr_ (sg_ rfl ?_))
 refine wl_set 4 (v' := .int .i64 (-1)) rfl rfl ?_
 refine nn_ ?_
 refine gw_ret ?_
 refine nx_ret1 rfl rfl fun wx hm => ?_
 exact ⟨ret_int (by rw [hinv.2, List.drop_eq_nil_of_le (by omega)]; rfl), hm.g⟩
theorem classAt_any (l : List Cs) (A : Option Addr) (n c0 : Nat) (k : ByteArray) (w : World) (hl : SlT csEnc 2 159 w A n l) (hn : n ≤ 1000000) :
  Calls Tryz.prog 98 #[.slice A n c0, .string k] w (GotE w (ixP (csP k) l 0)) := by
 refine gw_enter ⟨8, w, none, []⟩ Tryz.func98 rfl Tryz.ntmps98 rfl (mem0 (X := [SlOld csEnc 2 159 w.heap.size none A n l]) (allF_cons hl.old allF_nil) (allL_cons SlOld.lasts allL_nil)) ?_
 refine sr_ ?_
 refine wl_box rfl rfl rfl fun g1 => ?_
 refine sg_ rfl (nn_ (sr_ (mv_ rfl (wl_ov (ov_makeFunc rfl rfl) rfl ?_))))
 refine wl_callv rfl cb129 rfl rfl (fun wx hm => (index_classAt_1_lot l A n c0 _ k wx (hm.fact 0 rfl).1 hn (hm.blkI 0 rfl))) ?_
 refine sg_ rfl (nn_ ?_)
 refine gw_ret ?_
 refine nx_ret1 rfl rfl fun wx hm => ?_
 exact ⟨rfl, hm.g⟩
theorem pred_ClassAt_1_rentref1 (ke : ByteArray) (up : ByteArray) (gk : Nat) (k : ByteArray) (w : World) (hk : Blk w gk 9 [.string k]) :
  Calls Tryz.prog 130 #[.agg #[.string ke, .string up], .pointer (some ⟨gk, 0, none⟩)] w (fun e w' => e = .returned (.bool (csP k ⟨ke, up⟩)) ∧ w.grownBy w' none) := by
 refine gw_enter ⟨8, w, none, []⟩ Tryz.func130 rfl Tryz.ntmps130 rfl (mem0 (X := [BlkOld w.heap.size none gk 9 [.string k]]) (allF_cons hk.old allF_nil) (allL_cons BlkOld.lasts allL_nil)) ?_
 refine sr_ ?_
 refine wl_box rfl rfl rfl fun g1 => ?_
 refine sg_ rfl (nn_ (sr_ (fd_ fo159_0 rfl rfl (lk_ sc9 0 rfl rfl rfl ?_))))
 refine wl_ov (ov_load (v := .string k) sc9 rfl (fun _ hm => (hm.fact 0 rfl).2) rfl) rfl ?_
 refine wl_ov (ov_seql rfl rfl) rfl (sg_ rfl (nn_ ?_))
 refine gw_ret ?_
 refine nx_ret1 rfl rfl fun wx hm => ?_
 exact ⟨rfl, hm.g⟩
theorem index_ClassAt_1_rentref1 (l : List Cs) (A : Option Addr) (n c0 : Nat) (gk : Nat) (k : ByteArray) (w : World) (hl : SlT csEnc 2 159 w A n l) (hn : n ≤ 1000000) (hk : Blk w gk 9 [.string k]) :
  Calls Tryz.prog 129 #[.slice A n c0, .func (.func 130) #[] #[.pointer (some ⟨gk, 0, none⟩)]] w (GotE w (ixP (csP k) l 0)) := by
 refine gw_enter ⟨19, w, none, []⟩ Tryz.func129 rfl Tryz.ntmps129 rfl (mem0 (X := [SlOld csEnc 2 159 w.heap.size none A n l, BlkOld w.heap.size none gk 9 [.string k]]) (allF_cons hl.old (allF_cons hk.old allF_nil)) (allL_cons SlOld.lasts (allL_cons BlkOld.lasts allL_nil))) ?_
 refine sr_ ?_
 have hlen := hl.len
 refine sg_ rfl (nn_ (gw_seq (sr_ (mv_ rfl (wl_ov (ov_len es27 rfl) rfl (mv_ rfl (nn_ (gw_block ?_))))))))
 refine gw_loop (γ := Nat) (fun (i : Nat) => i ≤ n ∧ ixP (csP k) l 0 = ixP (csP k) (l.drop i) i) (fun (i : Nat) => [(0, .slice A n c0), (1, .func (.func 130) #[] #[.pointer (some ⟨gk, 0, none⟩)]), (7, .int .i64 ((n : Nat) : Int)), (8, .int .i64 ((i : Nat) : Int))]) (fun (i : Nat) => fun _ => True) (fun (i : Nat) => []) (fun (i : Nat) => []) (fun (i : Nat) => [SlOld csEnc 2 159 w.heap.size none A n l, BlkOld w.heap.size none gk 9 [.string k]]) (fun (i : Nat) => n - i) 0 ⟨Nat.zero_le _, rfl⟩ ⟨rfl, rfl, rfl, rfl, trivial⟩ (fun _ hm => hm.pick [] [] [0, 1] rfl rfl) ?_
 intro i hinv
 replace hinv : i ≤ n ∧ ixP (csP k) l 0 = ixP (csP k) (l.drop i) i := hinv
 refine sr_ (wl_ov (ov_lss rfl rfl) rfl (nn_ (gw_seq ?_)))
 refine gw_cond rfl (fun hh => ?_) (fun hh => ?_)
 ·have hi : ((i : Nat) : Int) < ((n : Nat) : Int) := by simpa using hh
  clear hh
  refine gw_skip (nx_then (gw_seq (gw_block (sr_ ?_))))
  obtain ⟨b, off, hA, _, _⟩ := hl.get (by omega)
  subst hA
  obtain ⟨x, hx⟩ : ∃ x, l[i]? = some x := ⟨_, List.getElem?_eq_getElem (by omega)⟩
  obtain ⟨ke, up⟩ := x
  have hat := ixP_at (p := csP k) hx
  refine mv_ rfl (sg_ rfl (nn_ (sr_ (mv_ rfl (mv_ rfl (mv_ rfl ?_))))))
  refine wl_ov (ov_index (j := i) es27 rfl rfl (by omega)) rfl ?_
  refine wl_ov (ov_elem (vs := [.string ke, .string up]) rz159 rfl (fun _ hm => (hm.fact 0 rfl).1) hx rfl rfl) rfl ?_
  refine wl_callv rfl cb130 rfl rfl (fun wx hm => (pred_ClassAt_1_rentref1 ke up gk k wx (hm.fact 1 rfl).2)) ?_
  refine nn_ ?_
  refine gw_cond rfl (fun hh => ?_) (fun hh => ?_)
  ·have hq : (csP k ⟨ke, up⟩) = true := by simpa using hh
   clear hh
   refine sr_ (mv_ rfl (sg_ rfl (nn_ ?_)))
   refine gw_ret ?_
   refine nx_blk_ret (nx_then_ret (nx_then_ret (nx_blk_ret (nx_then_ret ?_))))
   refine nx_ret1 rfl rfl fun wx hm => ?_
   exact ⟨ret_int (by rw [hinv.2, hat, if_pos hq]), hm.g⟩
  have hq : (csP k ⟨ke, up⟩) = false := by simpa using hh
  clear hh
  refine gw_skip (nx_blk_nrm (nx_then (gw_region (ad_ rfl rfl (mv_ rfl (wl_nil ?_))))))
  exact nx_round (i + 1) ⟨by omega, by rw [hinv.2, hat, if_neg (by rw [hq]; decide)]⟩ (by omega) ⟨rfl, rfl, rfl, (some_int (by omega)), trivial⟩ (fun _ hm => hm.pick [] [] [0, 1] rfl rfl)
 have hi : ¬ (((i : Nat) : Int) < ((n : Nat) : Int)) := by simpa using hh
 clear hh
 refine gw_exit ?_
 refine nx_then_exit (nx_then_exit ?_)
 refine nx_blk_here ?_
 refine nx_then (sr_ (sg_ rfl ?_))
 refine wl_set 4 (v' := .int .i64 (-1)) rfl rfl ?_
 refine nn_ ?_
 refine gw_ret ?_
 refine nx_ret1 rfl rfl fun wx hm => ?_
 exact ⟨ret_int (by rw [hinv.2, List.drop_eq_nil_of_le (by omega)]; rfl), hm.g⟩
theorem rClassAt_any (l : List Cs) (A : Option Addr) (n c0 : Nat) (k : ByteArray) (w : World) (hl : SlT csEnc 2 159 w A n l) (hn : n ≤ 1000000) :
  Calls Tryz.prog 49 #[.slice A n c0, .string k] w (GotE w (ixP (csP k) l 0)) := by
 refine gw_enter ⟨8, w, none, []⟩ Tryz.func49 rfl Tryz.ntmps49 rfl (mem0 (X := [SlOld csEnc 2 159 w.heap.size none A n l]) (allF_cons hl.old allF_nil) (allL_cons SlOld.lasts allL_nil)) ?_
 refine sr_ ?_
 refine wl_box rfl rfl rfl fun g1 => ?_
 refine sg_ rfl (nn_ (sr_ (mv_ rfl (wl_ov (ov_makeFunc rfl rfl) rfl ?_))))
 refine wl_callv rfl cb129 rfl rfl (fun wx hm => (index_ClassAt_1_rentref1 l A n c0 _ k wx (hm.fact 0 rfl).1 hn (hm.blkI 0 rfl))) ?_
 refine sg_ rfl (nn_ ?_)
 refine gw_ret ?_
 refine nx_ret1 rfl rfl fun wx hm => ?_
 exact ⟨rfl, hm.g⟩
theorem index_str (ks : List ByteArray) (A1 : Option Addr) (n1 c1 : Nat) (k : ByteArray) (w : World) (hs : SlT sgEnc 1 9 w A1 n1 ks) (hn : n1 ≤ 1000000) :
  Calls Tryz.prog 192 #[.slice A1 n1 c1, .string k] w (GotE w (ixP (fun y => k.toList == y.toList) ks 0)) := by
 refine gw_enter ⟨19, w, none, []⟩ Tryz.func192 rfl Tryz.ntmps192 rfl (mem0 (X := [SlOld sgEnc 1 9 w.heap.size none A1 n1 ks]) (allF_cons hs.old allF_nil) (allL_cons SlOld.lasts allL_nil)) ?_
 refine sr_ ?_
 have hlen := hs.len
 refine sg_ rfl (nn_ (gw_seq (sr_ (mv_ rfl (wl_ov (ov_len es81 rfl) rfl (mv_ rfl (nn_ (gw_block ?_))))))))
 refine gw_loop (γ := Nat) (fun (i : Nat) => i ≤ n1 ∧ ixP (fun y => k.toList == y.toList) ks 0 = ixP (fun y => k.toList == y.toList) (ks.drop i) i) (fun (i : Nat) => [(0, .slice A1 n1 c1), (1, .string k), (7, .int .i64 ((n1 : Nat) : Int)), (8, .int .i64 ((i : Nat) : Int))]) (fun (i : Nat) => fun _ => True) (fun (i : Nat) => []) (fun (i : Nat) => []) (fun (i : Nat) => [SlOld sgEnc 1 9 w.heap.size none A1 n1 ks]) (fun (i : Nat) => n1 - i) 0 ⟨Nat.zero_le _, rfl⟩ ⟨rfl, rfl, rfl, rfl, trivial⟩ (fun _ hm => hm.pick [] [] [0] rfl rfl) ?_
 intro i hinv
 replace hinv : i ≤ n1 ∧ ixP (fun y => k.toList == y.toList) ks 0 = ixP (fun y => k.toList == y.toList) (ks.drop i) i := hinv
 refine sr_ (wl_ov (ov_lss rfl rfl) rfl (nn_ (gw_seq ?_)))
 refine gw_cond rfl (fun hh => ?_) (fun hh => ?_)
 ·have hi : ((i : Nat) : Int) < ((n1 : Nat) : Int) := by simpa using hh
  clear hh
  refine gw_skip (nx_then (gw_seq (gw_block (sr_ ?_))))
  obtain ⟨b, off, hA, _, _⟩ := hs.get (by omega)
  subst hA
  obtain ⟨z0, hx⟩ : ∃ x, ks[i]? = some x := ⟨_, List.getElem?_eq_getElem (by omega)⟩
  have hat := ixP_at (p := (fun y => k.toList == y.toList)) hx
  refine mv_ rfl (sg_ rfl (nn_ (sr_ (mv_ rfl (mv_ rfl (mv_ rfl ?_))))))
  refine wl_ov (ov_index (j := i) es81 rfl rfl (by omega)) rfl ?_
  refine wl_ov (ov_elem1 (k := 0) (v := .string z0) sc9 rfl (fun _ hm => (hm.fact 0 rfl).1) hx rfl rfl) rfl ?_
  refine wl_ov (ov_seql rfl rfl) rfl (nn_ ?_)
  refine gw_cond rfl (fun hh => ?_) (fun hh => ?_)
  ·have hq : (k.toList == z0.toList) = true := by simpa using hh
   clear hh
   refine sr_ (mv_ rfl (sg_ rfl (nn_ ?_)))
   refine gw_ret ?_
   refine nx_blk_ret (nx_then_ret (nx_then_ret (nx_blk_ret (nx_then_ret ?_))))
   refine nx_ret1 rfl rfl fun wx hm => ?_
   exact ⟨ret_int (by rw [hinv.2, hat, if_pos hq]), hm.g⟩
  have hq : (k.toList == z0.toList) = false := by simpa using hh
  clear hh
  refine gw_skip (nx_blk_nrm (nx_then (gw_region (ad_ rfl rfl (mv_ rfl (wl_nil ?_))))))
  exact nx_round (i + 1) ⟨by omega, by rw [hinv.2, hat, if_neg (by rw [hq]; decide)]⟩ (by omega) ⟨rfl, rfl, rfl, (some_int (by omega)), trivial⟩ (fun _ hm => hm.pick [] [] [0] rfl rfl)
 have hi : ¬ (((i : Nat) : Int) < ((n1 : Nat) : Int)) := by simpa using hh
 clear hh
 refine gw_exit ?_
 refine nx_then_exit (nx_then_exit ?_)
 refine nx_blk_here ?_
 refine nx_then (sr_ (sg_ rfl ?_))
 refine wl_set 4 (v' := .int .i64 (-1)) rfl rfl ?_
 refine nn_ ?_
 refine gw_ret ?_
 refine nx_ret1 rfl rfl fun wx hm => ?_
 exact ⟨ret_int (by rw [hinv.2, List.drop_eq_nil_of_le (by omega)]; rfl), hm.g⟩
theorem contains_str (ks : List ByteArray) (A1 : Option Addr) (n1 c1 : Nat) (k : ByteArray) (w : World) (hs : SlT sgEnc 1 9 w A1 n1 ks) (hn : n1 ≤ 1000000) :
  Calls Tryz.prog 153 #[.slice A1 n1 c1, .string k] w (fun e w' => e = .returned (.bool (inK k ks)) ∧ w.grownBy w' none) := by
 refine gw_enter ⟨9, w, none, []⟩ Tryz.func153 rfl Tryz.ntmps153 rfl (mem0 (X := [SlOld sgEnc 1 9 w.heap.size none A1 n1 ks]) (allF_cons hs.old allF_nil) (allL_cons SlOld.lasts allL_nil)) ?_
 refine sr_ (sg_ rfl (nn_ (sr_ (mv_ rfl (mv_ rfl ?_)))))
 refine wl_callv rfl cb192 rfl rfl (fun wx hm => (index_str ks A1 n1 c1 k wx (hm.fact 0 rfl).1 hn)) ?_
 refine wl_ov (ov_geq rfl rfl) rfl ?_
 refine sg_ rfl (nn_ ?_)
 refine gw_ret ?_
 refine nx_ret1 rfl rfl fun wx hm => ?_
 exact ⟨by unfold inK; rw [← ix_any], hm.g⟩
theorem above_any (l : List Cs) (A : Option Addr) (n c : Nat) (k0 : ByteArray) (w : World) (hl : SlT csEnc 2 159 w A n l) (hc : Closed l) (hk0 : 0 ≤ ixP (csP k0) l 0) (hn : n ≤ 1000000) :
  Calls Tryz.prog 172 #[.slice A n c, .string k0] w (fun e w' => ∃ (A2 : Option Addr) (n2 c2 : Nat), e = .returned (.slice A2 n2 c2) ∧ w'.ownsRow w.heap.size 9 1 (.slice A2 n2 c2) n2 ((pathN l n k0).flatMap sgEnc) ∧ (pathN l n k0).length = n2 ∧ w.grownBy w' none) := by
 refine gw_enter ⟨25, w, none, []⟩ Tryz.func172 rfl Tryz.ntmps172 rfl (mem0 (X := [SlOld csEnc 2 159 w.heap.size none A n l]) (allF_cons hl.old allF_nil) (allL_cons SlOld.lasts allL_nil)) ?_
 refine sr_ ?_
 have hlen := hl.len
 refine sg_ rfl (nn_ (sr_ (sg_ rfl (nn_ (gw_seq (sr_ (mv_ rfl (wl_ov (ov_len es27 rfl) rfl (mv_ rfl ?_)))))))))
 refine nn_ (gw_block ?_)
 refine gw_nilOwn 9 1 ?_
 refine gw_loop (γ := Nat × ByteArray × Value × List ByteArray × List Value) (fun g => g.1 ≤ n ∧ 0 ≤ ixP (csP g.2.1) l 0 ∧ g.2.2.2.1.length = g.1 ∧ g.2.2.2.1 ++ pathN l (n - g.1) g.2.1 = pathN l n k0 ∧ g.2.2.2.2 = g.2.2.2.1.flatMap sgEnc) (fun g => [(0, .slice A n c), (1, .string g.2.1), (4, .slice none 0 0), (5, g.2.2.1), (7, .int .i64 ((n : Nat) : Int)), (8, .int .i64 ((g.1 : Nat) : Int))]) (fun g => fun _ => True) (fun g => []) (fun g => [⟨g.2.2.1, 9, 1, g.1, g.2.2.2.2⟩]) (fun g => [SlOld csEnc 2 159 w.heap.size none A n l]) (fun g => n - g.1) (0, k0, .slice none 0 0, [], []) ⟨Nat.zero_le _, hk0, rfl, rfl, rfl⟩ ⟨rfl, rfl, rfl, rfl, rfl, rfl, trivial⟩ (fun _ hm => hm.pick [] [0] [0] rfl rfl) ?_
 rintro ⟨i, k, v, done, xs⟩ hinv
 replace hinv : i ≤ n ∧ 0 ≤ ixP (csP k) l 0 ∧ done.length = i ∧ done ++ pathN l (n - i) k = pathN l n k0 ∧ xs = done.flatMap sgEnc := hinv
 dsimp only
 refine sr_ ?_
 obtain ⟨hi0, hik, hdl, hdp, rfl⟩ := hinv
 refine wl_ov (ov_lss rfl rfl) rfl (nn_ (gw_seq ?_))
 refine gw_cond rfl (fun hh => ?_) (fun hh => ?_)
 ·have hi : ((i : Nat) : Int) < ((n : Nat) : Int) := by simpa using hh
  clear hh
  refine gw_skip (nx_then (gw_seq (gw_block (sr_ ?_))))
  obtain ⟨b, off, hA, _, _⟩ := hl.get (by omega)
  subst hA
  refine mv_ rfl (mv_ rfl (mv_ rfl ?_))
  obtain ⟨x, hx, hxl, hxk⟩ := ix_key hik
  obtain ⟨j, hj⟩ := Int.eq_ofNat_of_zero_le hik
  have hjx : (ixP (csP k) l 0).toNat = j := by omega
  rw [hjx] at hx
  have hup := upOf_at hj hx
  have hjn : j < n := by have := (List.getElem?_eq_some_iff.1 hx).1; omega
  obtain ⟨ke, up⟩ := x
  have hup : upOf l k = up := hup
  have hcl := hc ⟨ke, up⟩ hxl
  have hcl : emptyS up = false → 0 ≤ ixP (csP up) l 0 := hcl
  refine wl_callv (v := .int .i64 ((j : Nat) : Int)) rfl cb98 rfl rfl (fun wx hm => (by rw [← hj]; exact classAt_any l _ n c k wx (hm.fact 0 rfl).1 hn)) ?_
  refine wl_ov (ov_index (j := j) es27 rfl rfl (by omega)) rfl ?_
  refine fd_ fo159_1 rfl rfl ?_
  refine wl_ov (ov_elem1 (k := 1) (v := .string up) sc9 rfl (fun _ hm => (hm.fact 0 rfl).1) hx rfl rfl) rfl ?_
  refine sg_ rfl (nn_ (gw_seq (sr_ (mv_ rfl (wl_ov (ov_seql rfl rfl) rfl (nn_ ?_))))))
  refine gw_cond rfl (fun hh => ?_) (fun hh => ?_)
  ·have hq : (up.toList == (⟨#[]⟩ : ByteArray).toList) = true := by simpa using hh
   clear hh
   refine gw_exit ?_
   refine nx_then_exit ?_
   refine nx_blk_on rfl ?_
   refine nx_then_exit (nx_then_exit ?_)
   refine nx_blk_here ?_
   refine nx_then (sr_ ?_)
   refine wl_look (R := ∃ A cc, v = .slice A i cc) (fun wx hm => own_slice (hm.ownI 0 rfl)) ?_
   rintro ⟨A2, c2, rfl⟩
   refine mv_ rfl (sg_ rfl (nn_ ?_))
   refine gw_ret ?_
   have hall : done = pathN l n k0 := by rw [← hdp, path_stop (by rw [hup]; unfold emptyS; exact hq), List.append_nil]
   refine nx_ret1 rfl rfl fun wx hm => ?_
   exact ⟨A2, i, c2, rfl, by rw [← hall]; exact hm.ownI 0 rfl, by rw [← hall]; exact hdl, hm.g⟩
  have hq : (up.toList == (⟨#[]⟩ : ByteArray).toList) = false := by simpa using hh
  clear hh
  refine gw_skip (nx_then (gw_region (mv_ rfl (mv_ rfl ?_))))
  refine wl_buildSlice (e := 9) (cs := [.string up]) rfl (by kernel_rfl) rfl fun g1 => ?_
  refine wl_append (news := [.string up]) 0 0 ap81 rfl rfl rfl rfl rfl rfl rfl (by omega) (by unfold maxLen; omega) rfl rfl fun v2 hv2 => ?_
  refine sg_ rfl (wl_nil (nx_blk_nrm (nx_then (gw_region (ad_ rfl rfl (mv_ rfl (wl_nil ?_)))))))
  have hue : emptyS (upOf l k) = false := by rw [hup]; unfold emptyS; exact hq
  have hpm := path_more hue (show i < n by omega)
  rw [hup] at hpm hue
  exact nx_round (i + 1, up, v2, done ++ [up], done.flatMap sgEnc ++ ([.string up] : List Value)) ⟨by dsimp only; omega, hcl hue, by simp [hdl], by dsimp only; rw [← hdp, hpm, List.append_assoc]; rfl, by simp [sgEnc]⟩ (by dsimp only; omega) ⟨rfl, rfl, rfl, rfl, rfl, (some_int (by omega)), trivial⟩ (fun _ hm => hm.pick [] [0] [0] rfl rfl)
 have hi : ¬ (((i : Nat) : Int) < ((n : Nat) : Int)) := by simpa using hh
 clear hh
 refine gw_exit ?_
 refine nx_then_exit (nx_then_exit ?_)
 refine nx_blk_here ?_
 refine nx_then (sr_ ?_)
 refine wl_look (R := ∃ A cc, v = .slice A i cc) (fun wx hm => own_slice (hm.ownI 0 rfl)) ?_
 rintro ⟨A2, c2, rfl⟩
 refine mv_ rfl (sg_ rfl (nn_ ?_))
 refine gw_ret ?_
 have hin : i = n := by omega
 have hall : done = pathN l n k0 := by rw [← hdp, hin, Nat.sub_self]; exact (List.append_nil _).symm
 refine nx_ret1 rfl rfl fun wx hm => ?_
 exact ⟨A2, i, c2, rfl, by rw [← hall]; exact hm.ownI 0 rfl, by rw [← hall]; exact hdl, hm.g⟩
theorem ups_any (l : List Cs) (A : Option Addr) (n c : Nat) (k0 : ByteArray) (w : World) (hl : SlT csEnc 2 159 w A n l) (hok : ∀ x ∈ l, CsOk x) (hn : n ≤ 1000000) :
  Calls Tryz.prog 167 #[.slice A n c, .string k0] w (fun e w' => ∃ (A2 : Option Addr) (n2 c2 : Nat), e = .returned (.slice A2 n2 c2) ∧ w'.ownsRow w.heap.size 9 1 (.slice A2 n2 c2) n2 ((pathN l (n + 1) k0).flatMap sgEnc) ∧ (pathN l (n + 1) k0).length = n2 ∧ w.grownBy w' none) := by
 refine gw_enter ⟨43, w, none, []⟩ Tryz.func167 rfl Tryz.ntmps167 rfl (mem0 (X := [SlOld csEnc 2 159 w.heap.size none A n l]) (allF_cons hl.old allF_nil) (allL_cons SlOld.lasts allL_nil)) ?_
 refine sr_ ?_
 have hlen := hl.len
 refine sg_ rfl (nn_ (sr_ (sg_ rfl (nn_ (gw_seq (sr_ (mv_ rfl (mv_ rfl ?_))))))))
 refine wl_callv rfl cb49 rfl rfl (fun wx hm => (rClassAt_any l A n c k0 wx (hm.fact 0 rfl).1 hn)) ?_
 refine sg_ rfl (nn_ (gw_block ?_))
 refine gw_nilOwn 9 1 ?_
 refine gw_loop (γ := Nat × ByteArray × Value × List ByteArray × List Value) (fun g => g.1 ≤ n + 1 ∧ g.2.2.2.1.length = g.1 ∧ g.2.2.2.1 ++ pathN l (n + 1 - g.1) g.2.1 = pathN l (n + 1) k0 ∧ g.2.2.2.2 = g.2.2.2.1.flatMap sgEnc) (fun g => [(0, .slice A n c), (4, .slice none 0 0), (5, g.2.2.1), (6, .int .i64 (ixP (csP g.2.1) l 0))]) (fun g => fun _ => True) (fun g => []) (fun g => [⟨g.2.2.1, 9, 1, g.1, g.2.2.2.2⟩]) (fun g => [SlOld csEnc 2 159 w.heap.size none A n l]) (fun g => n + 1 - g.1) (0, k0, .slice none 0 0, [], []) ⟨Nat.zero_le _, rfl, rfl, rfl⟩ ⟨rfl, rfl, rfl, rfl, trivial⟩ (fun _ hm => hm.pick [] [0] [0] rfl rfl) ?_
 rintro ⟨i, k, v, done, xs⟩ hinv
 replace hinv : i ≤ n + 1 ∧ done.length = i ∧ done ++ pathN l (n + 1 - i) k = pathN l (n + 1) k0 ∧ xs = done.flatMap sgEnc := hinv
 dsimp only
 refine gw_seq (sr_ ?_)
 obtain ⟨hi0, hdl, hdp, rfl⟩ := hinv
 refine wl_look (R := ∃ A cc, v = .slice A i cc) (fun wx hm => own_slice (hm.ownI 0 rfl)) ?_
 rintro ⟨A2, c2, rfl⟩
 refine mv_ rfl ?_
 refine wl_ov (ov_geq rfl rfl) rfl ?_
 refine mv_ rfl ?_
 rcases Bool.eq_false_or_eq_true (decide (0 ≤ ixP (csP k) l 0)) with hik | hik
 ·refine wl_set 12 rfl (congrArg Value.bool hik) ?_
  have hik := of_decide_eq_true hik
  obtain ⟨x, hx, hxl, hxk⟩ := ix_key hik
  obtain ⟨j, hj⟩ := Int.eq_ofNat_of_zero_le hik
  have hjx : (ixP (csP k) l 0).toNat = j := by omega
  rw [hjx] at hx
  have hup := upOf_at hj hx
  have hjn : j < n := by have := (List.getElem?_eq_some_iff.1 hx).1; omega
  obtain ⟨ke, up⟩ := x
  have hup : upOf l k = up := hup
  have hsz := (hok _ hxl).2
  have hsz : up.size ≤ 1000000 := hsz
  obtain ⟨b, off, hA, _, _⟩ := hl.get (by omega)
  subst hA
  refine wl_set 6 (v' := .int .i64 ((j : Nat) : Int)) rfl (congrArg (Value.int .i64) hj) ?_
  refine wl_guard_on rfl rfl rfl (mv_ rfl (wl_guard_on rfl rfl rfl (mv_ rfl (wl_guard_on rfl rfl rfl ?_))))
  refine wl_ov (ov_index (j := j) es27 rfl rfl (by omega)) rfl ?_
  refine wl_guard_on rfl rfl rfl (fd_ fo159_1 rfl rfl (wl_guard_on rfl rfl rfl ?_))
  refine wl_ov (ov_elem1 (k := 1) (v := .string up) sc9 rfl (fun _ hm => (hm.fact 0 rfl).1) hx rfl rfl) rfl ?_
  refine wl_guard_on rfl rfl rfl (wl_ov (ov_sneq rfl rfl) rfl (pt_ rfl rfl (mv_ rfl ?_)))
  rcases Bool.eq_false_or_eq_true (!(up.toList == (⟨#[]⟩ : ByteArray).toList)) with hq | hq
  ·refine wl_set 20 rfl (congrArg Value.bool hq) ?_
   have hue : emptyS (upOf l k) = false := by rw [hup]; unfold emptyS; simpa only [Bool.not_eq_true'] using hq
   refine wl_guard_on rfl rfl rfl (mv_ rfl (wl_guard_on rfl rfl rfl (wl_ov (ov_len es81 rfl) rfl (wl_guard_on rfl rfl rfl (mv_ rfl (wl_guard_on rfl rfl rfl (wl_ov (ov_len es27 rfl) rfl (wl_guard_on rfl rfl rfl (wl_ov (ov_leq rfl rfl) rfl (pt_ rfl rfl (nn_ ?_)))))))))))
   refine gw_cond rfl (fun hh => ?_) (fun hh => ?_)
   ·have hcnt : ((i : Nat) : Int) ≤ ((n : Nat) : Int) := by simpa using hh
    clear hh
    refine gw_skip (nx_then (gw_seq (gw_block (gw_region (mv_ rfl (mv_ rfl (mv_ rfl ?_)))))))
    refine wl_ov (ov_index (j := j) es27 rfl rfl (by omega)) rfl ?_
    refine fd_ fo159_1 rfl rfl ?_
    refine wl_ov (ov_elem1 (k := 1) (v := .string up) sc9 rfl (fun _ hm => (hm.fact 0 rfl).1) hx rfl rfl) rfl ?_
    refine wl_buildSlice (e := 9) (cs := [.string up]) rfl (by kernel_rfl) rfl fun g1 => ?_
    refine wl_append (news := [.string up]) 0 0 ap81 rfl rfl rfl rfl rfl rfl rfl (by omega) (by unfold maxLen; omega) rfl rfl fun v2 hv2 => ?_
    refine sg_ rfl (wl_nil (nx_blk_nrm (nx_then (gw_region (mv_ rfl (mv_ rfl (mv_ rfl ?_)))))))
    refine wl_ov (ov_index (j := j) es27 rfl rfl (by omega)) rfl ?_
    refine fd_ fo159_1 rfl rfl ?_
    refine wl_ov (ov_elem1 (k := 1) (v := .string up) sc9 rfl (fun _ hm => (hm.fact 0 rfl).1) hx rfl rfl) rfl ?_
    refine wl_callv rfl cb49 rfl rfl (fun wx hm => (rClassAt_any l _ n c up wx (hm.fact 0 rfl).1 hn)) ?_
    refine sg_ rfl (wl_nil ?_)
    have hpm := path_more hue (show i < n + 1 by omega)
    rw [hup] at hpm
    exact nx_round (i + 1, up, v2, done ++ [up], done.flatMap sgEnc ++ ([.string up] : List Value)) ⟨by dsimp only; omega, by simp [hdl], by dsimp only; rw [← hdp, hpm, List.append_assoc]; rfl, by simp [sgEnc]⟩ (by dsimp only; omega) ⟨rfl, rfl, rfl, rfl, trivial⟩ (fun _ hm => hm.pick [] [0] [0] rfl rfl)
   have hcnt : ¬ (((i : Nat) : Int) ≤ ((n : Nat) : Int)) := by simpa using hh
   clear hh
   refine gw_exit ?_
   refine nx_then_exit (nx_then_exit ?_)
   refine nx_blk_here ?_
   refine nx_then (sr_ (mv_ rfl (sg_ rfl (nn_ ?_))))
   refine gw_ret ?_
   have hin : i = n + 1 := by omega
   have hall : done = pathN l (n + 1) k0 := by rw [← hdp, hin, Nat.sub_self]; exact (List.append_nil _).symm
   refine nx_ret1 rfl rfl fun wx hm => ?_
   exact ⟨A2, i, c2, rfl, by rw [← hall]; exact hm.ownI 0 rfl, by rw [← hall]; exact hdl, hm.g⟩
  refine wl_set 20 rfl (congrArg Value.bool hq) ?_
  refine goff rfl rfl rfl (goff rfl rfl rfl (goff rfl rfl rfl (goff rfl rfl rfl (goff rfl rfl rfl (pf_ rfl rfl (nn_ (cf_ rfl ?_)))))))
  refine gw_exit ?_
  refine nx_then_exit (nx_then_exit ?_)
  refine nx_blk_here ?_
  refine nx_then (sr_ (mv_ rfl (sg_ rfl (nn_ ?_))))
  refine gw_ret ?_
  have hall : done = pathN l (n + 1) k0 := by rw [← hdp, path_stop (by rw [hup]; unfold emptyS; simpa only [Bool.not_eq_false'] using hq), List.append_nil]
  refine nx_ret1 rfl rfl fun wx hm => ?_
  exact ⟨A2, i, c2, rfl, by rw [← hall]; exact hm.ownI 0 rfl, by rw [← hall]; exact hdl, hm.g⟩
 refine wl_set 12 rfl (congrArg Value.bool hik) ?_
 refine goff rfl rfl rfl (goff rfl rfl rfl (goff rfl rfl rfl (goff rfl rfl rfl (goff rfl rfl rfl (goff rfl rfl rfl (pf_ rfl rfl (mv_ rfl (goff rfl rfl rfl (goff rfl rfl rfl (goff rfl rfl rfl (goff rfl rfl rfl (goff rfl rfl rfl (pf_ rfl rfl ?_)))))))))))))
 refine nn_ (cf_ rfl ?_)
 refine gw_exit ?_
 refine nx_then_exit (nx_then_exit ?_)
 refine nx_blk_here ?_
 refine nx_then (sr_ (mv_ rfl (sg_ rfl (nn_ ?_))))
 refine gw_ret ?_
 have hik := of_decide_eq_false hik
 have hall : done = pathN l (n + 1) k0 := by rw [← hdp, path_stop (upOf_no (by omega)), List.append_nil]
 refine nx_ret1 rfl rfl fun wx hm => ?_
 exact ⟨A2, i, c2, rfl, by rw [← hall]; exact hm.ownI 0 rfl, by rw [← hall]; exact hdl, hm.g⟩
theorem checkClasses_any (l : List Cs) (A : Option Addr) (n c : Nat) (w : World) (hl : SlT csEnc 2 159 w A n l) (hok : ∀ x ∈ l, CsOk x) (hn : n ≤ 1000000) :
  Calls Tryz.prog 96 #[.slice A n c] w (GotE w (classesE l)) := by
 refine gw_enter ⟨80, w, none, []⟩ Tryz.func96 rfl Tryz.ntmps96 rfl (mem0 (X := [SlOld csEnc 2 159 w.heap.size none A n l]) (allF_cons hl.old allF_nil) (allL_cons SlOld.lasts allL_nil)) ?_
 refine sr_ ?_
 have hlen := hl.len
 refine sg_ rfl (nn_ (gw_seq (sr_ (mv_ rfl (wl_ov (ov_len es27 rfl) rfl ?_)))))
 refine wl_ov (ov_gtr rfl rfl) rfl ?_
 refine nn_ ?_
 refine gw_cond rfl (fun hh => ?_) (fun hh => ?_)
 ·have h1 : 30 < ((n : Nat) : Int) := by simpa using hh
  clear hh
  refine sr_ (sg_ rfl (nn_ ?_))
  refine gw_ret ?_
  refine nx_then_ret ?_
  refine nx_ret1 rfl rfl fun wx hm => ?_
  exact ⟨ret_int (by unfold classesE; rw [if_pos (by omega)]), hm.g⟩
 have h1 : ¬ (30 < ((n : Nat) : Int)) := by simpa using hh
 clear hh
 refine gw_skip (nx_then (gw_seq (sr_ ?_)))
 have h30 : ¬ 30 < l.length := by omega
 refine mv_ rfl (wl_ov (ov_len es27 rfl) rfl (mv_ rfl (nn_ (gw_block ?_))))
 refine gw_loop (γ := Nat) (fun (k : Nat) => k ≤ n ∧ scanE csE none l = scanE csE (prevOf l k) (l.drop k)) (fun (k : Nat) => [(0, .slice A n c), (12, .slice A n c), (13, .int .i64 ((n : Nat) : Int)), (14, .int .i64 ((k : Nat) : Int))]) (fun (k : Nat) => fun _ => True) (fun (k : Nat) => []) (fun (k : Nat) => []) (fun (k : Nat) => [SlOld csEnc 2 159 w.heap.size none A n l]) (fun (k : Nat) => n - k) 0 ⟨Nat.zero_le _, rfl⟩ ⟨rfl, rfl, rfl, rfl, trivial⟩ (fun _ hm => hm.pick [] [] [0] rfl rfl) ?_
 intro k hinv
 replace hinv : k ≤ n ∧ scanE csE none l = scanE csE (prevOf l k) (l.drop k) := hinv
 refine sr_ (wl_ov (ov_lss rfl rfl) rfl (nn_ (gw_seq ?_)))
 refine gw_cond rfl (fun hh => ?_) (fun hh => ?_)
 ·have hk : ((k : Nat) : Int) < ((n : Nat) : Int) := by simpa using hh
  clear hh
  refine gw_skip (nx_then (gw_seq (gw_block (sr_ ?_))))
  obtain ⟨b, off, hA, _, _⟩ := hl.get (by omega)
  subst hA
  obtain ⟨x, hx⟩ : ∃ x, l[k]? = some x := ⟨_, List.getElem?_eq_getElem (by omega)⟩
  obtain ⟨ke, up⟩ := x
  have hat := scanE_at csE l k _ hx
  have hk1 : ke.size ≤ 1000000 := (hok _ (List.mem_of_getElem? hx)).1
  have hk2 : up.size ≤ 1000000 := (hok _ (List.mem_of_getElem? hx)).2
  refine mv_ rfl ?_
  refine wl_ov (ov_index (j := k) es27 rfl rfl (by omega)) rfl ?_
  refine wl_ov (ov_elem (vs := [.string ke, .string up]) rz159 rfl (fun _ hm => (hm.fact 0 rfl).1) hx rfl rfl) rfl ?_
  refine wl_alloc zc159 rfl fun g1 => ?_
  refine sg_ rfl ?_
  refine wl_stores (cs' := [.string ke, .string up]) 0 rz159 rfl rfl rfl rfl rfl rfl rfl rfl ?_
  refine nn_ (gw_block (sr_ (fd_ fo159_0 rfl rfl (lk_ sc9 0 rfl rfl rfl ?_))))
  refine wl_callw rfl cb97 rfl rfl (fun wx hm => (isKey_any _ wx (by omega))) ?_
  refine wl_ov (ov_un_not rfl) rfl (sg_ rfl (nn_ ?_))
  refine gw_cond rfl (fun hh => ?_) (fun hh => ?_)
  ·have h2 : (keyB ke) = false := by simpa using hh
   clear hh
   refine sr_ (sg_ rfl (nn_ ?_))
   refine gw_ret ?_
   refine nx_blk_ret (nx_blk_ret (nx_then_ret (nx_then_ret (nx_blk_ret (nx_then_ret ?_)))))
   have hE : csE (prevOf l k) ⟨ke, up⟩ = 5 := by unfold csE; simp [h2]
   refine nx_ret1 rfl rfl fun wx hm => ?_
   exact ⟨ret_int (by rw [cls_scan h30 (v := 5) (by rw [hinv.2, hat, if_neg (by rw [hE]; decide), hE]) (by decide)]), hm.g⟩
  have h2 : (keyB ke) = true := by simpa using hh
  clear hh
  refine gw_seq ?_
  by_cases hk0 : k = 0
  ·have hO : leCs (prevOf l k) ⟨ke, up⟩ = false := by rw [prevOf_zero hk0]; rfl
   refine gd (fun wz => Blk wz g1 159 [.string ke, .string up] ∧ (SlOld csEnc 2 159 w.heap.size none (some ⟨b, off, none⟩) n l) wz ∧ True) mixed (fun _ hm => ⟨hm.bl 0, hm.fa 0, trivial⟩) fun z => ?_
   refine wt 0 14 1 rfl z (ov_move rfl) ?_
   refine wt 1 14 3 rfl z (ov_gtr rfl rfl) ?_
   refine wa_set 26 (v' := .bool false) rfl (congrArg Value.bool (decide_eq_false (by omega))) ?_
   refine wt 2 14 7 rfl z (ov_move rfl) ?_
   refine wtf 3 14 15 rfl rfl rfl z ?_
   refine wtf 4 14 31 rfl rfl rfl z ?_
   refine wtf 5 14 63 rfl rfl rfl z ?_
   refine wtf 6 14 127 rfl rfl rfl z ?_
   refine wtf 7 14 255 rfl rfl rfl z ?_
   refine wtf 8 14 511 rfl rfl rfl z ?_
   refine wtf 9 14 1023 rfl rfl rfl z ?_
   refine wtf 10 14 2047 rfl rfl rfl z ?_
   refine wtf 11 14 4095 rfl rfl rfl z ?_
   refine wt 12 14 8191 rfl z (ov_pick_f rfl rfl) ?_
   refine wt 13 14 16383 rfl z (ov_assign rfl) ?_
   refine wa_done (by kernel_rfl) ?_
   refine nx_then (cf_ rfl (sr_ (fd_ fo159_1 rfl rfl (lk_ sc9 0 rfl rfl rfl (wl_ov (ov_sneq rfl rfl) rfl (mv_ rfl ?_))))))
   rcases Bool.eq_false_or_eq_true (!(up.toList == (⟨#[]⟩ : ByteArray).toList)) with h31 | h31
   ·refine wl_set 42 rfl (congrArg Value.bool h31) ?_
    have h31 : emptyS up = false := by unfold emptyS; simpa only [Bool.not_eq_true'] using h31
    refine wl_guard_on rfl rfl rfl (fd_ fo159_1 rfl rfl (wl_guard_on rfl rfl rfl (lk_ sc9 0 rfl rfl rfl (wl_guard_on rfl rfl rfl ?_))))
    refine wl_callw rfl cb97 rfl rfl (fun wx hm => (isKey_any _ wx (by omega))) ?_
    refine wl_guard_on rfl rfl rfl (wl_ov (ov_un_not rfl) rfl (pt_ rfl rfl (sg_ rfl (nn_ ?_))))
    refine gw_cond rfl (fun hh => ?_) (fun hh => ?_)
    ·have h32 : (keyB up) = false := by simpa using hh
     clear hh
     refine sr_ (sg_ rfl (nn_ ?_))
     refine gw_ret ?_
     refine nx_blk_ret (nx_blk_ret (nx_then_ret (nx_then_ret (nx_blk_ret (nx_then_ret ?_)))))
     have hE : csE (prevOf l k) ⟨ke, up⟩ = 5 := by unfold csE; simp [h2, hO, h31, h32]
     refine nx_ret1 rfl rfl fun wx hm => ?_
     exact ⟨ret_int (by rw [cls_scan h30 (v := 5) (by rw [hinv.2, hat, if_neg (by rw [hE]; decide), hE]) (by decide)]), hm.g⟩
    have h32 : (keyB up) = true := by simpa using hh
    clear hh
    refine gw_skip (nx_blk_nrm (nx_blk_nrm (nx_then (gw_region ?_))))
    have hE : csE (prevOf l k) ⟨ke, up⟩ = 0 := by unfold csE; simp [h2, hO, h31, h32]
    refine ad_ rfl rfl (mv_ rfl (wl_nil ?_))
    exact nx_round (k + 1) ⟨by omega, by rw [hinv.2, hat, if_pos hE]⟩ (by omega) ⟨rfl, rfl, rfl, (some_int (by omega)), trivial⟩ (fun _ hm => hm.pick [] [] [0] rfl rfl)
   refine wl_set 42 rfl (congrArg Value.bool h31) ?_
   have h31 : emptyS up = true := by unfold emptyS; simpa only [Bool.not_eq_false'] using h31
   have hE : csE (prevOf l k) ⟨ke, up⟩ = 0 := by unfold csE; simp [h2, hO, h31]
   refine goff rfl rfl rfl (goff rfl rfl rfl (goff rfl rfl rfl (goff rfl rfl rfl (pf_ rfl rfl (sg_ rfl (nn_ (cf_ rfl (gw_skip (nx_blk_nrm (nx_blk_nrm (nx_then (gw_region ?_))))))))))))
   refine ad_ rfl rfl (mv_ rfl (wl_nil ?_))
   exact nx_round (k + 1) ⟨by omega, by rw [hinv.2, hat, if_pos hE]⟩ (by omega) ⟨rfl, rfl, rfl, (some_int (by omega)), trivial⟩ (fun _ hm => hm.pick [] [] [0] rfl rfl)
  obtain ⟨y, hy⟩ : ∃ x, l[k - 1]? = some x := ⟨_, List.getElem?_eq_getElem (by omega)⟩
  obtain ⟨p0, p1⟩ := y
  refine gd (fun wz => Blk wz g1 159 [.string ke, .string up] ∧ (SlOld csEnc 2 159 w.heap.size none (some ⟨b, off, none⟩) n l) wz ∧ True) mixed (fun _ hm => ⟨hm.bl 0, hm.fa 0, trivial⟩) fun z => ?_
  refine wt 0 14 1 rfl z (ov_move rfl) ?_
  refine wt 1 14 3 rfl z (ov_gtr rfl rfl) ?_
  refine wa_set 26 (v' := .bool true) rfl (congrArg Value.bool (decide_eq_true (by omega))) ?_
  refine wt 2 14 7 rfl z (ov_move rfl) ?_
  refine wto 3 14 15 rfl rfl rfl z (ov_field fo159_0 rfl rfl) ?_
  refine wto 4 14 31 rfl rfl rfl z (ov_load sc9 rfl (fun _ hm => hm.1) rfl) ?_
  refine wto 5 14 63 rfl rfl rfl z (ov_move rfl) ?_
  refine wto 6 14 127 rfl rfl rfl z (ov_move rfl) ?_
  refine wto 7 14 255 rfl rfl rfl z (ov_sub rfl rfl (by omega) (by omega)) ?_
  refine wa_set 32 (v' := .int .i64 ((k - 1 : Nat) : Int)) rfl (congrArg (Value.int .i64) (by omega)) ?_
  refine wto 8 14 511 rfl rfl rfl z (ov_index (j := k - 1) es27 rfl rfl (by omega)) ?_
  refine wto 9 14 1023 rfl rfl rfl z (ov_field fo159_0 rfl rfl) ?_
  refine wto 10 14 2047 rfl rfl rfl z (ov_elem1 (k := 0) (v := .string p0) sc9 rfl (fun _ hm => (hm.2.1).1) hy rfl rfl) ?_
  refine wto 11 14 4095 rfl rfl rfl z (ov_sleq rfl rfl) ?_
  refine wt 12 14 8191 rfl z (ov_pick_t rfl rfl) ?_
  refine wt 13 14 16383 rfl z (ov_assign rfl) ?_
  refine wa_done (by kernel_rfl) ?_
  refine nx_then ?_
  refine gw_cond rfl (fun hh => ?_) (fun hh => ?_)
  ·have h9 : (Op.bytesLess ke.toList p0.toList || ke.toList == p0.toList) = true := by simpa using hh
   clear hh
   refine sr_ ?_
   have hO : leCs (prevOf l k) ⟨ke, up⟩ = true := by rw [prevOf_pos hk0 hy]; exact h9
   refine sg_ rfl (nn_ ?_)
   refine gw_ret ?_
   refine nx_blk_ret (nx_blk_ret (nx_then_ret (nx_then_ret (nx_blk_ret (nx_then_ret ?_)))))
   have hE : csE (prevOf l k) ⟨ke, up⟩ = 7 := by unfold csE; simp [h2, hO]
   refine nx_ret1 rfl rfl fun wx hm => ?_
   exact ⟨ret_int (by rw [cls_scan h30 (v := 7) (by rw [hinv.2, hat, if_neg (by rw [hE]; decide), hE]) (by decide)]), hm.g⟩
  have h9 : (Op.bytesLess ke.toList p0.toList || ke.toList == p0.toList) = false := by simpa using hh
  clear hh
  refine sr_ ?_
  have hO : leCs (prevOf l k) ⟨ke, up⟩ = false := by rw [prevOf_pos hk0 hy]; exact h9
  refine fd_ fo159_1 rfl rfl (lk_ sc9 0 rfl rfl rfl (wl_ov (ov_sneq rfl rfl) rfl (mv_ rfl ?_)))
  rcases Bool.eq_false_or_eq_true (!(up.toList == (⟨#[]⟩ : ByteArray).toList)) with h31 | h31
  ·refine wl_set 42 rfl (congrArg Value.bool h31) ?_
   have h31 : emptyS up = false := by unfold emptyS; simpa only [Bool.not_eq_true'] using h31
   refine wl_guard_on rfl rfl rfl (fd_ fo159_1 rfl rfl (wl_guard_on rfl rfl rfl (lk_ sc9 0 rfl rfl rfl (wl_guard_on rfl rfl rfl ?_))))
   refine wl_callw rfl cb97 rfl rfl (fun wx hm => (isKey_any _ wx (by omega))) ?_
   refine wl_guard_on rfl rfl rfl (wl_ov (ov_un_not rfl) rfl (pt_ rfl rfl (sg_ rfl (nn_ ?_))))
   refine gw_cond rfl (fun hh => ?_) (fun hh => ?_)
   ·have h32 : (keyB up) = false := by simpa using hh
    clear hh
    refine sr_ (sg_ rfl (nn_ ?_))
    refine gw_ret ?_
    refine nx_blk_ret (nx_blk_ret (nx_then_ret (nx_then_ret (nx_blk_ret (nx_then_ret ?_)))))
    have hE : csE (prevOf l k) ⟨ke, up⟩ = 5 := by unfold csE; simp [h2, hO, h31, h32]
    refine nx_ret1 rfl rfl fun wx hm => ?_
    exact ⟨ret_int (by rw [cls_scan h30 (v := 5) (by rw [hinv.2, hat, if_neg (by rw [hE]; decide), hE]) (by decide)]), hm.g⟩
   have h32 : (keyB up) = true := by simpa using hh
   clear hh
   refine gw_skip (nx_blk_nrm (nx_blk_nrm (nx_then (gw_region ?_))))
   have hE : csE (prevOf l k) ⟨ke, up⟩ = 0 := by unfold csE; simp [h2, hO, h31, h32]
   refine ad_ rfl rfl (mv_ rfl (wl_nil ?_))
   exact nx_round (k + 1) ⟨by omega, by rw [hinv.2, hat, if_pos hE]⟩ (by omega) ⟨rfl, rfl, rfl, (some_int (by omega)), trivial⟩ (fun _ hm => hm.pick [] [] [0] rfl rfl)
  refine wl_set 42 rfl (congrArg Value.bool h31) ?_
  have h31 : emptyS up = true := by unfold emptyS; simpa only [Bool.not_eq_false'] using h31
  have hE : csE (prevOf l k) ⟨ke, up⟩ = 0 := by unfold csE; simp [h2, hO, h31]
  refine goff rfl rfl rfl (goff rfl rfl rfl (goff rfl rfl rfl (goff rfl rfl rfl (pf_ rfl rfl (sg_ rfl (nn_ (cf_ rfl (gw_skip (nx_blk_nrm (nx_blk_nrm (nx_then (gw_region ?_))))))))))))
  refine ad_ rfl rfl (mv_ rfl (wl_nil ?_))
  exact nx_round (k + 1) ⟨by omega, by rw [hinv.2, hat, if_pos hE]⟩ (by omega) ⟨rfl, rfl, rfl, (some_int (by omega)), trivial⟩ (fun _ hm => hm.pick [] [] [0] rfl rfl)
 have hk : ¬ (((k : Nat) : Int) < ((n : Nat) : Int)) := by simpa using hh
 clear hh
 refine gw_exit ?_
 refine nx_then_exit (nx_then_exit ?_)
 refine nx_blk_here ?_
 refine nx_then (gw_seq (sr_ ?_))
 have hsc : scanE csE none l = 0 := by rw [hinv.2, scanE_end _ _ _ _ (by omega)]
 clear hinv hk
 refine mv_ rfl (wl_ov (ov_len es27 rfl) rfl (mv_ rfl (nn_ (gw_block ?_))))
 refine gw_loop (γ := Nat) (fun (k2 : Nat) => k2 ≤ n ∧ l.any (upB l) = (l.drop k2).any (upB l)) (fun (k2 : Nat) => [(0, .slice A n c), (49, .slice A n c), (50, .int .i64 ((n : Nat) : Int)), (51, .int .i64 ((k2 : Nat) : Int))]) (fun (k2 : Nat) => fun _ => True) (fun (k2 : Nat) => []) (fun (k2 : Nat) => []) (fun (k2 : Nat) => [SlOld csEnc 2 159 w.heap.size none A n l]) (fun (k2 : Nat) => n - k2) 0 ⟨Nat.zero_le _, rfl⟩ ⟨rfl, rfl, rfl, rfl, trivial⟩ (fun _ hm => hm.pick [] [] [0] rfl rfl) ?_
 intro k2 hinv
 replace hinv : k2 ≤ n ∧ l.any (upB l) = (l.drop k2).any (upB l) := hinv
 refine sr_ (wl_ov (ov_lss rfl rfl) rfl (nn_ (gw_seq ?_)))
 refine gw_cond rfl (fun hh => ?_) (fun hh => ?_)
 ·have hk : ((k2 : Nat) : Int) < ((n : Nat) : Int) := by simpa using hh
  clear hh
  refine gw_skip (nx_then (gw_seq (gw_block (sr_ ?_))))
  obtain ⟨b, off, hA, _, _⟩ := hl.get (by omega)
  subst hA
  obtain ⟨x, hx⟩ : ∃ x, l[k2]? = some x := ⟨_, List.getElem?_eq_getElem (by omega)⟩
  obtain ⟨ke, up⟩ := x
  have hat := any_at (p := upB l) hx
  have hk2 : up.size ≤ 1000000 := (hok _ (List.mem_of_getElem? hx)).2
  refine wl_ov (ov_index (j := k2) es27 rfl rfl (by omega)) rfl ?_
  refine wl_ov (ov_elem (vs := [.string ke, .string up]) rz159 rfl (fun _ hm => (hm.fact 0 rfl).1) hx rfl rfl) rfl ?_
  refine wl_alloc zc159 rfl fun g2 => ?_
  refine wl_stores (cs' := [.string ke, .string up]) 0 rz159 rfl rfl rfl rfl rfl rfl rfl rfl ?_
  refine nn_ (sr_ (fd_ fo159_1 rfl rfl (lk_ sc9 0 rfl rfl rfl (wl_ov (ov_sneq rfl rfl) rfl (mv_ rfl ?_)))))
  rcases Bool.eq_false_or_eq_true (!(up.toList == (⟨#[]⟩ : ByteArray).toList)) with h31 | h31
  ·refine wl_set 58 rfl (congrArg Value.bool h31) ?_
   have h31 : emptyS up = false := by unfold emptyS; simpa only [Bool.not_eq_true'] using h31
   refine wl_guard_on rfl rfl rfl (mv_ rfl (wl_guard_on rfl rfl rfl (fd_ fo159_1 rfl rfl (wl_guard_on rfl rfl rfl (lk_ sc9 0 rfl rfl rfl (wl_guard_on rfl rfl rfl ?_))))))
   refine wl_callv rfl cb98 rfl rfl (fun wx hm => (classAt_any l _ n c up wx (hm.fact 0 rfl).1 (by omega))) ?_
   refine wl_guard_on rfl rfl rfl (wl_ov (ov_lss rfl rfl) rfl (pt_ rfl rfl (nn_ ?_)))
   refine gw_cond rfl (fun hh => ?_) (fun hh => ?_)
   ·have h32 : ixP (csP up) l 0 < 0 := by simpa using hh
    clear hh
    refine sr_ (sg_ rfl (nn_ ?_))
    refine gw_ret ?_
    refine nx_blk_ret (nx_then_ret (nx_then_ret (nx_blk_ret (nx_then_ret ?_))))
    have hE : upB l ⟨ke, up⟩ = true := by unfold upB; simp [h31, h32]
    refine nx_ret1 rfl rfl fun wx hm => ?_
    exact ⟨ret_int (by rw [cls_up h30 hsc (by rw [hinv.2, hat, hE]; rfl)]), hm.g⟩
   have h32 : ¬ (ixP (csP up) l 0 < 0) := by simpa using hh
   clear hh
   refine gw_skip (nx_blk_nrm (nx_then (gw_region ?_)))
   have hE : upB l ⟨ke, up⟩ = false := by unfold upB; simp [h31]; omega
   refine ad_ rfl rfl (mv_ rfl (wl_nil ?_))
   exact nx_round (k2 + 1) ⟨by omega, by rw [hinv.2, hat, hE]; rfl⟩ (by omega) ⟨rfl, rfl, rfl, (some_int (by omega)), trivial⟩ (fun _ hm => hm.pick [] [] [0] rfl rfl)
  refine wl_set 58 rfl (congrArg Value.bool h31) ?_
  have h31 : emptyS up = true := by unfold emptyS; simpa only [Bool.not_eq_false'] using h31
  have hE : upB l ⟨ke, up⟩ = false := by unfold upB; simp [h31]
  refine goff rfl rfl rfl (goff rfl rfl rfl (goff rfl rfl rfl (goff rfl rfl rfl (goff rfl rfl rfl (pf_ rfl rfl (nn_ (cf_ rfl (gw_skip (nx_blk_nrm (nx_then (gw_region (ad_ rfl rfl ?_))))))))))))
  refine mv_ rfl (wl_nil ?_)
  exact nx_round (k2 + 1) ⟨by omega, by rw [hinv.2, hat, hE]; rfl⟩ (by omega) ⟨rfl, rfl, rfl, (some_int (by omega)), trivial⟩ (fun _ hm => hm.pick [] [] [0] rfl rfl)
 have hk : ¬ (((k2 : Nat) : Int) < ((n : Nat) : Int)) := by simpa using hh
 clear hh
 refine gw_exit ?_
 refine nx_then_exit (nx_then_exit ?_)
 refine nx_blk_here ?_
 refine nx_then (gw_seq (sr_ ?_))
 have hup : l.any (upB l) = false := by rw [hinv.2, any_end (by omega)]
 clear hinv hk
 have hcl := closed_of hup
 have hlo := cls_loop h30 hsc hup
 refine mv_ rfl (wl_ov (ov_len es27 rfl) rfl (mv_ rfl (nn_ (gw_block ?_))))
 refine gw_loop (γ := Nat) (fun (k3 : Nat) => k3 ≤ n ∧ l.any (fun x => inK x.key (pathN l (n) x.key)) = (l.drop k3).any (fun x => inK x.key (pathN l (n) x.key))) (fun (k3 : Nat) => [(0, .slice A n c), (66, .slice A n c), (67, .int .i64 ((n : Nat) : Int)), (68, .int .i64 ((k3 : Nat) : Int))]) (fun (k3 : Nat) => fun _ => True) (fun (k3 : Nat) => []) (fun (k3 : Nat) => []) (fun (k3 : Nat) => [SlOld csEnc 2 159 w.heap.size none A n l]) (fun (k3 : Nat) => n - k3) 0 ⟨Nat.zero_le _, rfl⟩ ⟨rfl, rfl, rfl, rfl, trivial⟩ (fun _ hm => hm.pick [] [] [0] rfl rfl) ?_
 intro k3 hinv
 replace hinv : k3 ≤ n ∧ l.any (fun x => inK x.key (pathN l (n) x.key)) = (l.drop k3).any (fun x => inK x.key (pathN l (n) x.key)) := hinv
 refine sr_ ?_
 have hlo2 : classesE l = if l.any (fun x => inK x.key (pathN l (n) x.key)) = true then 14 else 0 := by rw [hlo]; unfold loopB; rw [hlen]
 refine wl_ov (ov_lss rfl rfl) rfl (nn_ (gw_seq ?_))
 refine gw_cond rfl (fun hh => ?_) (fun hh => ?_)
 ·have hk : ((k3 : Nat) : Int) < ((n : Nat) : Int) := by simpa using hh
  clear hh
  refine gw_skip (nx_then (gw_seq (gw_block (sr_ ?_))))
  obtain ⟨b, off, hA, _, _⟩ := hl.get (by omega)
  subst hA
  obtain ⟨x, hx⟩ : ∃ x, l[k3]? = some x := ⟨_, List.getElem?_eq_getElem (by omega)⟩
  obtain ⟨ke, up⟩ := x
  have hat := any_at (p := (fun x => inK x.key (pathN l (n) x.key))) hx
  have hk2 : ke.size ≤ 1000000 := (hok _ (List.mem_of_getElem? hx)).1
  have hix : 0 ≤ ixP (csP ke) l 0 := by
   rcases ixP_spec (p := csP ke) l 0 with ⟨_, h⟩ | ⟨j, x, h, _⟩
   ·have := h _ (List.mem_of_getElem? hx)
    simp [csP] at this
   omega
  refine wl_ov (ov_index (j := k3) es27 rfl rfl (by omega)) rfl ?_
  refine wl_ov (ov_elem (vs := [.string ke, .string up]) rz159 rfl (fun _ hm => (hm.fact 0 rfl).1) hx rfl rfl) rfl ?_
  refine wl_alloc zc159 rfl fun g3 => ?_
  refine wl_stores (cs' := [.string ke, .string up]) 0 rz159 rfl rfl rfl rfl rfl rfl rfl rfl ?_
  refine nn_ (gw_seq ?_)
  refine gd (fun wz => Blk wz g3 159 [.string ke, .string up] ∧ (SlOld csEnc 2 159 w.heap.size none (some ⟨b, off, none⟩) n l) wz ∧ True) mixed (fun _ hm => ⟨hm.bl 0, hm.fa 0, trivial⟩) fun z => ?_
  refine wt 0 7 1 rfl z (ov_move rfl) ?_
  refine wt 1 7 3 rfl z (ov_field fo159_0 rfl rfl) ?_
  refine wt 2 7 7 rfl z (ov_load sc9 rfl (fun _ hm => hm.1) rfl) ?_
  refine wt 4 7 23 rfl z (ov_field fo159_0 rfl rfl) ?_
  refine wt 5 7 55 rfl z (ov_load sc9 rfl (fun _ hm => hm.1) rfl) ?_
  refine wa1 3 rfl ?_
  refine wl_callgo (γ := Option Addr × Nat × Nat) (val := (fun g => .slice g.1 g.2.1 g.2.2)) (φ := (fun g => (pathN l (n) ke).length = g.2.1)) (fun g => ⟨.slice g.1 g.2.1 g.2.2, 9, 1, g.2.1, (pathN l (n) ke).flatMap sgEnc⟩) rfl cb172 rfl rfl (fun wx hm => (above_any l _ n c ke wx (hm.fact 0 rfl).1 hcl hix (by omega)).mono fun _ _ ⟨A2, n2, c2, he, ho, hl2, hg⟩ => ⟨(A2, n2, c2), he, hl2, ho, hg⟩) ?_
  rintro ⟨A2, n2, c2⟩ hpl
  dsimp only at hpl ⊢
  have hpb := pathN_len l (n) ke
  refine wl_nil ?_
  refine nw 7 63 (fun _ hm => ⟨hm.bl 0, hm.fa 0, trivial⟩) fun z => ?_
  refine wa1 6 rfl ?_
  refine wl_callv rfl cb153 rfl rfl (fun wx hm => (contains_str (pathN l (n) ke) A2 n2 c2 ke wx (SlT.ofOwn sg_len (hm.ownI 0 rfl) hpl) (by omega))) ?_
  refine wl_nil ?_
  refine nw 7 127 (fun _ hm => ⟨hm.bl 0, hm.fa 0, trivial⟩) fun z => ?_
  refine wa_done (by kernel_rfl) ?_
  refine nx_then ?_
  refine gw_cond rfl (fun hh => ?_) (fun hh => ?_)
  ·have h33 : (inK ke (pathN l (n) ke)) = true := by simpa using hh
   clear hh
   refine sr_ (sg_ rfl (nn_ ?_))
   refine gw_ret ?_
   refine nx_blk_ret (nx_then_ret (nx_then_ret (nx_blk_ret (nx_then_ret ?_))))
   refine nx_ret1 rfl rfl fun wx hm => ?_
   exact ⟨ret_int (by rw [hlo2, if_pos (by rw [hinv.2, hat, h33]; rfl)]), hm.g⟩
  have h33 : (inK ke (pathN l (n) ke)) = false := by simpa using hh
  clear hh
  refine gw_skip (nx_blk_nrm (nx_then (gw_region (ad_ rfl rfl (mv_ rfl (wl_nil ?_))))))
  exact nx_round (k3 + 1) ⟨by omega, by rw [hinv.2, hat, h33]; rfl⟩ (by omega) ⟨rfl, rfl, rfl, (some_int (by omega)), trivial⟩ (fun _ hm => hm.pick [] [] [0] rfl rfl)
 have hk : ¬ (((k3 : Nat) : Int) < ((n : Nat) : Int)) := by simpa using hh
 clear hh
 refine gw_exit ?_
 refine nx_then_exit (nx_then_exit ?_)
 refine nx_blk_here ?_
 refine nx_then (sr_ (sg_ rfl (nn_ ?_)))
 refine gw_ret ?_
 refine nx_ret1 rfl rfl fun wx hm => ?_
 exact ⟨ret_int (by rw [hlo2, if_neg (by rw [hinv.2, any_end (by omega)]; decide)]), hm.g⟩
theorem classesFault_any (l : List Cs) (A : Option Addr) (n c : Nat) (w : World) (hl : SlT csEnc 2 159 w A n l) (hok : ∀ x ∈ l, CsOk x) (hn : n ≤ 1000000) :
  Calls Tryz.prog 85 #[.slice A n c] w (GotE w (classesE l)) := by
 refine gw_enter ⟨73, w, none, []⟩ Tryz.func85 rfl Tryz.ntmps85 rfl (mem0 (X := [SlOld csEnc 2 159 w.heap.size none A n l]) (allF_cons hl.old allF_nil) (allL_cons SlOld.lasts allL_nil)) ?_
 refine sr_ ?_
 have hlen := hl.len
 refine sg_ rfl (nn_ (gw_seq (sr_ (mv_ rfl (wl_ov (ov_len es27 rfl) rfl ?_)))))
 refine wl_ov (ov_gtr rfl rfl) rfl ?_
 refine nn_ ?_
 refine gw_cond rfl (fun hh => ?_) (fun hh => ?_)
 ·have h1 : 30 < ((n : Nat) : Int) := by simpa using hh
  clear hh
  refine sr_ (sg_ rfl (nn_ ?_))
  refine gw_ret ?_
  refine nx_then_ret ?_
  refine nx_ret1 rfl rfl fun wx hm => ?_
  exact ⟨ret_int (by unfold classesE; rw [if_pos (by omega)]), hm.g⟩
 have h1 : ¬ (30 < ((n : Nat) : Int)) := by simpa using hh
 clear hh
 refine gw_skip (nx_then (sr_ ?_))
 have h30 : ¬ 30 < l.length := by omega
 refine sg_ rfl (nn_ (gw_seq (sr_ (mv_ rfl (wl_ov (ov_len es27 rfl) rfl (mv_ rfl (nn_ (gw_block ?_))))))))
 refine gw_loop (γ := Nat) (fun (k : Nat) => k ≤ n ∧ scanE csE none l = scanE csE (prevOf l k) (l.drop k)) (fun (k : Nat) => [(0, .slice A n c), (3, .string (prevCs l k)), (13, .slice A n c), (14, .int .i64 ((n : Nat) : Int)), (15, .int .i64 ((k : Nat) : Int))]) (fun (k : Nat) => fun _ => True) (fun (k : Nat) => []) (fun (k : Nat) => []) (fun (k : Nat) => [SlOld csEnc 2 159 w.heap.size none A n l]) (fun (k : Nat) => n - k) 0 ⟨Nat.zero_le _, rfl⟩ ⟨rfl, rfl, rfl, rfl, rfl, trivial⟩ (fun _ hm => hm.pick [] [] [0] rfl rfl) ?_
 intro k hinv
 replace hinv : k ≤ n ∧ scanE csE none l = scanE csE (prevOf l k) (l.drop k) := hinv
 refine sr_ (wl_ov (ov_lss rfl rfl) rfl (nn_ (gw_seq ?_)))
 refine gw_cond rfl (fun hh => ?_) (fun hh => ?_)
 ·have hk : ((k : Nat) : Int) < ((n : Nat) : Int) := by simpa using hh
  clear hh
  refine gw_skip (nx_then (gw_seq (gw_block (sr_ ?_))))
  obtain ⟨b, off, hA, _, _⟩ := hl.get (by omega)
  subst hA
  obtain ⟨x, hx⟩ : ∃ x, l[k]? = some x := ⟨_, List.getElem?_eq_getElem (by omega)⟩
  obtain ⟨ke, up⟩ := x
  have hat := scanE_at csE l k _ hx
  have hk1 : ke.size ≤ 1000000 := (hok _ (List.mem_of_getElem? hx)).1
  have hk2 : up.size ≤ 1000000 := (hok _ (List.mem_of_getElem? hx)).2
  refine wl_ov (ov_index (j := k) es27 rfl rfl (by omega)) rfl ?_
  refine wl_ov (ov_elem (vs := [.string ke, .string up]) rz159 rfl (fun _ hm => (hm.fact 0 rfl).1) hx rfl rfl) rfl ?_
  refine wl_alloc zc159 rfl fun g1 => ?_
  refine wl_stores (cs' := [.string ke, .string up]) 0 rz159 rfl rfl rfl rfl rfl rfl rfl rfl ?_
  refine nn_ (gw_seq (gw_block (sr_ (fd_ fo159_0 rfl rfl (lk_ sc9 0 rfl rfl rfl ?_)))))
  refine wl_callv rfl cb86 rfl rfl (fun wx hm => (key_any _ wx (by omega))) ?_
  refine wl_ov (ov_un_not rfl) rfl (sg_ rfl (nn_ ?_))
  refine gw_cond rfl (fun hh => ?_) (fun hh => ?_)
  ·have h2 : (keyB ke) = false := by simpa using hh
   clear hh
   refine sr_ (sg_ rfl (nn_ ?_))
   refine gw_ret ?_
   refine nx_blk_ret (nx_then_ret (nx_blk_ret (nx_then_ret (nx_then_ret (nx_blk_ret (nx_then_ret ?_))))))
   have hE : csE (prevOf l k) ⟨ke, up⟩ = 5 := by unfold csE; simp [h2]
   refine nx_ret1 rfl rfl fun wx hm => ?_
   exact ⟨ret_int (by rw [cls_scan h30 (v := 5) (by rw [hinv.2, hat, if_neg (by rw [hE]; decide), hE]) (by decide)]), hm.g⟩
  have h2 : (keyB ke) = true := by simpa using hh
  clear hh
  refine sr_ (fd_ fo159_0 rfl rfl (lk_ sc9 0 rfl rfl rfl (mv_ rfl ?_)))
  refine wl_ov (ov_sleq rfl rfl) rfl ?_
  refine sg_ rfl (nn_ ?_)
  refine gw_cond rfl (fun hh => ?_) (fun hh => ?_)
  ·have h9 : (Op.bytesLess ke.toList (prevCs l k).toList || ke.toList == (prevCs l k).toList) = true := by simpa using hh
   clear hh
   refine sr_ ?_
   have hO : leCs (prevOf l k) ⟨ke, up⟩ = true := (prevCs_le (b := ⟨ke, up⟩) (by simpa using h2)).symm.trans h9
   refine sg_ rfl (nn_ ?_)
   refine gw_ret ?_
   refine nx_blk_ret (nx_then_ret (nx_blk_ret (nx_then_ret (nx_then_ret (nx_blk_ret (nx_then_ret ?_))))))
   have hE : csE (prevOf l k) ⟨ke, up⟩ = 7 := by unfold csE; simp [h2, hO]
   refine nx_ret1 rfl rfl fun wx hm => ?_
   exact ⟨ret_int (by rw [cls_scan h30 (v := 7) (by rw [hinv.2, hat, if_neg (by rw [hE]; decide), hE]) (by decide)]), hm.g⟩
  have h9 : (Op.bytesLess ke.toList (prevCs l k).toList || ke.toList == (prevCs l k).toList) = false := by simpa using hh
  clear hh
  refine sr_ ?_
  have hO : leCs (prevOf l k) ⟨ke, up⟩ = false := (prevCs_le (b := ⟨ke, up⟩) (by simpa using h2)).symm.trans h9
  refine fd_ fo159_1 rfl rfl (lk_ sc9 0 rfl rfl rfl (wl_ov (ov_sneq rfl rfl) rfl (mv_ rfl ?_)))
  rcases Bool.eq_false_or_eq_true (!(up.toList == (⟨#[]⟩ : ByteArray).toList)) with h31 | h31
  ·refine wl_set 33 rfl (congrArg Value.bool h31) ?_
   have h31 : emptyS up = false := by unfold emptyS; simpa only [Bool.not_eq_true'] using h31
   refine wl_guard_on rfl rfl rfl (fd_ fo159_1 rfl rfl (wl_guard_on rfl rfl rfl (lk_ sc9 0 rfl rfl rfl (wl_guard_on rfl rfl rfl ?_))))
   refine wl_callv rfl cb86 rfl rfl (fun wx hm => (key_any _ wx (by omega))) ?_
   refine wl_guard_on rfl rfl rfl (wl_ov (ov_un_not rfl) rfl (pt_ rfl rfl (sg_ rfl (nn_ ?_))))
   refine gw_cond rfl (fun hh => ?_) (fun hh => ?_)
   ·have h32 : (keyB up) = false := by simpa using hh
    clear hh
    refine sr_ (sg_ rfl (nn_ ?_))
    refine gw_ret ?_
    refine nx_blk_ret (nx_then_ret (nx_blk_ret (nx_then_ret (nx_then_ret (nx_blk_ret (nx_then_ret ?_))))))
    have hE : csE (prevOf l k) ⟨ke, up⟩ = 5 := by unfold csE; simp [h2, hO, h31, h32]
    refine nx_ret1 rfl rfl fun wx hm => ?_
    exact ⟨ret_int (by rw [cls_scan h30 (v := 5) (by rw [hinv.2, hat, if_neg (by rw [hE]; decide), hE]) (by decide)]), hm.g⟩
   have h32 : (keyB up) = true := by simpa using hh
   clear hh
   refine gw_skip (nx_blk_nrm (nx_then (gw_region ?_)))
   have hE : csE (prevOf l k) ⟨ke, up⟩ = 0 := by unfold csE; simp [h2, hO, h31, h32]
   refine fd_ fo159_0 rfl rfl (lk_ sc9 0 rfl rfl rfl (sg_ rfl (wl_nil (nx_blk_nrm (nx_then (gw_region (ad_ rfl rfl (mv_ rfl (wl_nil ?_)))))))))
   exact nx_round (k + 1) ⟨by omega, by rw [hinv.2, hat, if_pos hE]⟩ (by omega) ⟨rfl, (congrArg (fun z => some (Value.string z)) (prevCs_succ hx).symm), rfl, rfl, (some_int (by omega)), trivial⟩ (fun _ hm => hm.pick [] [] [0] rfl rfl)
  refine wl_set 33 rfl (congrArg Value.bool h31) ?_
  have h31 : emptyS up = true := by unfold emptyS; simpa only [Bool.not_eq_false'] using h31
  have hE : csE (prevOf l k) ⟨ke, up⟩ = 0 := by unfold csE; simp [h2, hO, h31]
  refine goff rfl rfl rfl (goff rfl rfl rfl (goff rfl rfl rfl (goff rfl rfl rfl (pf_ rfl rfl (sg_ rfl (nn_ (cf_ rfl (gw_skip (nx_blk_nrm (nx_then (gw_region (fd_ fo159_0 rfl rfl ?_))))))))))))
  refine lk_ sc9 0 rfl rfl rfl (sg_ rfl (wl_nil (nx_blk_nrm (nx_then (gw_region (ad_ rfl rfl (mv_ rfl (wl_nil ?_))))))))
  exact nx_round (k + 1) ⟨by omega, by rw [hinv.2, hat, if_pos hE]⟩ (by omega) ⟨rfl, (congrArg (fun z => some (Value.string z)) (prevCs_succ hx).symm), rfl, rfl, (some_int (by omega)), trivial⟩ (fun _ hm => hm.pick [] [] [0] rfl rfl)
 have hk : ¬ (((k : Nat) : Int) < ((n : Nat) : Int)) := by simpa using hh
 clear hh
 refine gw_exit ?_
 refine nx_then_exit (nx_then_exit ?_)
 refine nx_blk_here ?_
 refine nx_then (gw_seq (sr_ ?_))
 have hsc : scanE csE none l = 0 := by rw [hinv.2, scanE_end _ _ _ _ (by omega)]
 clear hinv hk
 refine mv_ rfl (wl_ov (ov_len es27 rfl) rfl (mv_ rfl (nn_ (gw_block ?_))))
 refine gw_loop (γ := Nat) (fun (k2 : Nat) => k2 ≤ n ∧ l.any (upB l) = (l.drop k2).any (upB l)) (fun (k2 : Nat) => [(0, .slice A n c), (42, .slice A n c), (43, .int .i64 ((n : Nat) : Int)), (44, .int .i64 ((k2 : Nat) : Int))]) (fun (k2 : Nat) => fun _ => True) (fun (k2 : Nat) => []) (fun (k2 : Nat) => []) (fun (k2 : Nat) => [SlOld csEnc 2 159 w.heap.size none A n l]) (fun (k2 : Nat) => n - k2) 0 ⟨Nat.zero_le _, rfl⟩ ⟨rfl, rfl, rfl, rfl, trivial⟩ (fun _ hm => hm.pick [] [] [0] rfl rfl) ?_
 intro k2 hinv
 replace hinv : k2 ≤ n ∧ l.any (upB l) = (l.drop k2).any (upB l) := hinv
 refine sr_ (wl_ov (ov_lss rfl rfl) rfl (nn_ (gw_seq ?_)))
 refine gw_cond rfl (fun hh => ?_) (fun hh => ?_)
 ·have hk : ((k2 : Nat) : Int) < ((n : Nat) : Int) := by simpa using hh
  clear hh
  refine gw_skip (nx_then (gw_seq (gw_block (sr_ ?_))))
  obtain ⟨b, off, hA, _, _⟩ := hl.get (by omega)
  subst hA
  obtain ⟨x, hx⟩ : ∃ x, l[k2]? = some x := ⟨_, List.getElem?_eq_getElem (by omega)⟩
  obtain ⟨ke, up⟩ := x
  have hat := any_at (p := upB l) hx
  have hk2 : up.size ≤ 1000000 := (hok _ (List.mem_of_getElem? hx)).2
  refine wl_ov (ov_index (j := k2) es27 rfl rfl (by omega)) rfl ?_
  refine wl_ov (ov_elem (vs := [.string ke, .string up]) rz159 rfl (fun _ hm => (hm.fact 0 rfl).1) hx rfl rfl) rfl ?_
  refine wl_alloc zc159 rfl fun g2 => ?_
  refine wl_stores (cs' := [.string ke, .string up]) 0 rz159 rfl rfl rfl rfl rfl rfl rfl rfl ?_
  refine nn_ (sr_ (fd_ fo159_1 rfl rfl (lk_ sc9 0 rfl rfl rfl (wl_ov (ov_sneq rfl rfl) rfl (mv_ rfl ?_)))))
  rcases Bool.eq_false_or_eq_true (!(up.toList == (⟨#[]⟩ : ByteArray).toList)) with h31 | h31
  ·refine wl_set 51 rfl (congrArg Value.bool h31) ?_
   have h31 : emptyS up = false := by unfold emptyS; simpa only [Bool.not_eq_true'] using h31
   refine wl_guard_on rfl rfl rfl (mv_ rfl (wl_guard_on rfl rfl rfl (fd_ fo159_1 rfl rfl (wl_guard_on rfl rfl rfl (lk_ sc9 0 rfl rfl rfl (wl_guard_on rfl rfl rfl ?_))))))
   refine wl_callv rfl cb49 rfl rfl (fun wx hm => (rClassAt_any l _ n c up wx (hm.fact 0 rfl).1 (by omega))) ?_
   refine wl_guard_on rfl rfl rfl (wl_ov (ov_lss rfl rfl) rfl (pt_ rfl rfl (nn_ ?_)))
   refine gw_cond rfl (fun hh => ?_) (fun hh => ?_)
   ·have h32 : ixP (csP up) l 0 < 0 := by simpa using hh
    clear hh
    refine sr_ (sg_ rfl (nn_ ?_))
    refine gw_ret ?_
    refine nx_blk_ret (nx_then_ret (nx_then_ret (nx_blk_ret (nx_then_ret ?_))))
    have hE : upB l ⟨ke, up⟩ = true := by unfold upB; simp [h31, h32]
    refine nx_ret1 rfl rfl fun wx hm => ?_
    exact ⟨ret_int (by rw [cls_up h30 hsc (by rw [hinv.2, hat, hE]; rfl)]), hm.g⟩
   have h32 : ¬ (ixP (csP up) l 0 < 0) := by simpa using hh
   clear hh
   refine gw_skip (nx_blk_nrm (nx_then (gw_region ?_)))
   have hE : upB l ⟨ke, up⟩ = false := by unfold upB; simp [h31]; omega
   refine ad_ rfl rfl (mv_ rfl (wl_nil ?_))
   exact nx_round (k2 + 1) ⟨by omega, by rw [hinv.2, hat, hE]; rfl⟩ (by omega) ⟨rfl, rfl, rfl, (some_int (by omega)), trivial⟩ (fun _ hm => hm.pick [] [] [0] rfl rfl)
  refine wl_set 51 rfl (congrArg Value.bool h31) ?_
  have h31 : emptyS up = true := by unfold emptyS; simpa only [Bool.not_eq_false'] using h31
  have hE : upB l ⟨ke, up⟩ = false := by unfold upB; simp [h31]
  refine goff rfl rfl rfl (goff rfl rfl rfl (goff rfl rfl rfl (goff rfl rfl rfl (goff rfl rfl rfl (pf_ rfl rfl (nn_ (cf_ rfl (gw_skip (nx_blk_nrm (nx_then (gw_region (ad_ rfl rfl ?_))))))))))))
  refine mv_ rfl (wl_nil ?_)
  exact nx_round (k2 + 1) ⟨by omega, by rw [hinv.2, hat, hE]; rfl⟩ (by omega) ⟨rfl, rfl, rfl, (some_int (by omega)), trivial⟩ (fun _ hm => hm.pick [] [] [0] rfl rfl)
 have hk : ¬ (((k2 : Nat) : Int) < ((n : Nat) : Int)) := by simpa using hh
 clear hh
 refine gw_exit ?_
 refine nx_then_exit (nx_then_exit ?_)
 refine nx_blk_here ?_
 refine nx_then (gw_seq (sr_ ?_))
 have hup : l.any (upB l) = false := by rw [hinv.2, any_end (by omega)]
 clear hinv hk
 have hcl := closed_of hup
 have hlo := cls_loop h30 hsc hup
 rw [← loop_same hcl] at hlo
 refine mv_ rfl (wl_ov (ov_len es27 rfl) rfl (mv_ rfl (nn_ (gw_block ?_))))
 refine gw_loop (γ := Nat) (fun (k3 : Nat) => k3 ≤ n ∧ l.any (fun x => inK x.key (pathN l (n + 1) x.key)) = (l.drop k3).any (fun x => inK x.key (pathN l (n + 1) x.key))) (fun (k3 : Nat) => [(0, .slice A n c), (59, .slice A n c), (60, .int .i64 ((n : Nat) : Int)), (61, .int .i64 ((k3 : Nat) : Int))]) (fun (k3 : Nat) => fun _ => True) (fun (k3 : Nat) => []) (fun (k3 : Nat) => []) (fun (k3 : Nat) => [SlOld csEnc 2 159 w.heap.size none A n l]) (fun (k3 : Nat) => n - k3) 0 ⟨Nat.zero_le _, rfl⟩ ⟨rfl, rfl, rfl, rfl, trivial⟩ (fun _ hm => hm.pick [] [] [0] rfl rfl) ?_
 intro k3 hinv
 replace hinv : k3 ≤ n ∧ l.any (fun x => inK x.key (pathN l (n + 1) x.key)) = (l.drop k3).any (fun x => inK x.key (pathN l (n + 1) x.key)) := hinv
 refine sr_ ?_
 have hlo2 : classesE l = if l.any (fun x => inK x.key (pathN l (n + 1) x.key)) = true then 14 else 0 := by rw [hlo]; unfold loopB; rw [hlen]
 refine wl_ov (ov_lss rfl rfl) rfl (nn_ (gw_seq ?_))
 refine gw_cond rfl (fun hh => ?_) (fun hh => ?_)
 ·have hk : ((k3 : Nat) : Int) < ((n : Nat) : Int) := by simpa using hh
  clear hh
  refine gw_skip (nx_then (gw_seq (gw_block (sr_ ?_))))
  obtain ⟨b, off, hA, _, _⟩ := hl.get (by omega)
  subst hA
  obtain ⟨x, hx⟩ : ∃ x, l[k3]? = some x := ⟨_, List.getElem?_eq_getElem (by omega)⟩
  obtain ⟨ke, up⟩ := x
  have hat := any_at (p := (fun x => inK x.key (pathN l (n + 1) x.key))) hx
  have hk2 : ke.size ≤ 1000000 := (hok _ (List.mem_of_getElem? hx)).1
  have hix : 0 ≤ ixP (csP ke) l 0 := by
   rcases ixP_spec (p := csP ke) l 0 with ⟨_, h⟩ | ⟨j, x, h, _⟩
   ·have := h _ (List.mem_of_getElem? hx)
    simp [csP] at this
   omega
  refine wl_ov (ov_index (j := k3) es27 rfl rfl (by omega)) rfl ?_
  refine wl_ov (ov_elem (vs := [.string ke, .string up]) rz159 rfl (fun _ hm => (hm.fact 0 rfl).1) hx rfl rfl) rfl ?_
  refine wl_alloc zc159 rfl fun g3 => ?_
  refine wl_stores (cs' := [.string ke, .string up]) 0 rz159 rfl rfl rfl rfl rfl rfl rfl rfl ?_
  refine nn_ (gw_seq ?_)
  refine gd (fun wz => Blk wz g3 159 [.string ke, .string up] ∧ (SlOld csEnc 2 159 w.heap.size none (some ⟨b, off, none⟩) n l) wz ∧ True) mixed (fun _ hm => ⟨hm.bl 0, hm.fa 0, trivial⟩) fun z => ?_
  refine wt 0 7 1 rfl z (ov_move rfl) ?_
  refine wt 1 7 3 rfl z (ov_field fo159_0 rfl rfl) ?_
  refine wt 2 7 7 rfl z (ov_load sc9 rfl (fun _ hm => hm.1) rfl) ?_
  refine wt 4 7 23 rfl z (ov_field fo159_0 rfl rfl) ?_
  refine wt 5 7 55 rfl z (ov_load sc9 rfl (fun _ hm => hm.1) rfl) ?_
  refine wa1 3 rfl ?_
  refine wl_callgo (γ := Option Addr × Nat × Nat) (val := (fun g => .slice g.1 g.2.1 g.2.2)) (φ := (fun g => (pathN l (n + 1) ke).length = g.2.1)) (fun g => ⟨.slice g.1 g.2.1 g.2.2, 9, 1, g.2.1, (pathN l (n + 1) ke).flatMap sgEnc⟩) rfl cb167 rfl rfl (fun wx hm => (ups_any l _ n c ke wx (hm.fact 0 rfl).1 hok (by omega)).mono fun _ _ ⟨A2, n2, c2, he, ho, hl2, hg⟩ => ⟨(A2, n2, c2), he, hl2, ho, hg⟩) ?_
  rintro ⟨A2, n2, c2⟩ hpl
  dsimp only at hpl ⊢
  have hpb := pathN_len l (n + 1) ke
  refine wl_nil ?_
  refine nw 7 63 (fun _ hm => ⟨hm.bl 0, hm.fa 0, trivial⟩) fun z => ?_
  refine wa1 6 rfl ?_
  refine wl_callv rfl cb153 rfl rfl (fun wx hm => (contains_str (pathN l (n + 1) ke) A2 n2 c2 ke wx (SlT.ofOwn sg_len (hm.ownI 0 rfl) hpl) (by omega))) ?_
  refine wl_nil ?_
  refine nw 7 127 (fun _ hm => ⟨hm.bl 0, hm.fa 0, trivial⟩) fun z => ?_
  refine wa_done (by kernel_rfl) ?_
  refine nx_then ?_
  refine gw_cond rfl (fun hh => ?_) (fun hh => ?_)
  ·have h33 : (inK ke (pathN l (n + 1) ke)) = true := by simpa using hh
   clear hh
   refine sr_ (sg_ rfl (nn_ ?_))
   refine gw_ret ?_
   refine nx_blk_ret (nx_then_ret (nx_then_ret (nx_blk_ret (nx_then_ret ?_))))
   refine nx_ret1 rfl rfl fun wx hm => ?_
   exact ⟨ret_int (by rw [hlo2, if_pos (by rw [hinv.2, hat, h33]; rfl)]), hm.g⟩
  have h33 : (inK ke (pathN l (n + 1) ke)) = false := by simpa using hh
  clear hh
  refine gw_skip (nx_blk_nrm (nx_then (gw_region (ad_ rfl rfl (mv_ rfl (wl_nil ?_))))))
  exact nx_round (k3 + 1) ⟨by omega, by rw [hinv.2, hat, h33]; rfl⟩ (by omega) ⟨rfl, rfl, rfl, (some_int (by omega)), trivial⟩ (fun _ hm => hm.pick [] [] [0] rfl rfl)
 have hk : ¬ (((k3 : Nat) : Int) < ((n : Nat) : Int)) := by simpa using hh
 clear hh
 refine gw_exit ?_
 refine nx_then_exit (nx_then_exit ?_)
 refine nx_blk_here ?_
 refine nx_then (sr_ (sg_ rfl (nn_ ?_)))
 refine gw_ret ?_
 refine nx_ret1 rfl rfl fun wx hm => ?_
 exact ⟨ret_int (by rw [hlo2, if_neg (by rw [hinv.2, any_end (by omega)]; decide)]), hm.g⟩
end Go.Proofs.YtjecbkgjabnmoaaGreatDoor
namespace Go.Proofs.YtjecbkgjabnmoaaGreatDoor
open Go.RowKit
section
variable {P : Program} {nn : Nat} {S : List (Nat × Value)} {Z : World → Prop} {d : Nat} {ty : TypeId} {pos : String} {aft : Array Edge}
def kindTy (P : Program) (t : TypeId) : Option IntKind :=
  match P.underlying t with
  | some (.int k) => some k
  | _ => none
theorem kindTy_u {t : TypeId} {k : IntKind} (h : kindTy P t = some k) : P.underlying t = some (.int k) := by
  unfold kindTy at h
  cases hu : P.underlying t with
  | none => simp [hu] at h
  | some dd => cases dd <;> simp [hu] at h <;> simp [h]
theorem ov_u64 {s t : TypeId} {k : IntKind} {x : Operand} {a : Nat} (hs : kindTy P s = some .i64) (ht : kindTy P t = some .u64) (hx : rd S x = some (.int k (a : Int))) (ha : a ≤ 9223372036854775807) : OV P nn S Z ⟨some d, .convert s t x, ty, pos, aft, none⟩ (.int .u64 (a : Int)) := fun b w hb hm => by
  have h1 : IntKind.u64.wrap (a : Int) = (a : Int) := by rw [IntKind.wrap_u64]; omega
  have hk : P.intKind t = .u64 := by simp [Program.intKind, kindTy_u ht]
  have h2 := run_convert_int (P := P) w s t k (a : Int) (by rw [kindTy_u hs]; rfl) (by rw [hk]; exact kindTy_u ht)
  rw [hk, h1] at h2
  simp [execOp, hb.eval hx, h2]
theorem ov_i64 {s t : TypeId} {k : IntKind} {x : Operand} {a : Nat} (hs : (kindTy P s).isSome = true) (ht : kindTy P t = some .i64) (hx : rd S x = some (.int k (a : Int))) (ha : a ≤ 9223372036854775807) : OV P nn S Z ⟨some d, .convert s t x, ty, pos, aft, none⟩ (.int .i64 (a : Int)) := fun b w hb hm => by
  have h1 : IntKind.i64.wrap (a : Int) = (a : Int) := IntWalk.i64_in _ (by omega)
  have hk : P.intKind t = .i64 := by simp [Program.intKind, kindTy_u ht]
  obtain ⟨k', hk'⟩ := Option.isSome_iff_exists.1 hs
  have h2 := run_convert_int (P := P) w s t k (a : Int) (by rw [kindTy_u hk']; rfl) (by rw [hk]; exact kindTy_u ht)
  rw [hk, h1] at h2
  simp [execOp, hb.eval hx, h2]
theorem ov_shru1 {t t' : TypeId} {x y : Operand} {a : Nat} (hx : rd S x = some (.int .u64 (a : Int))) (hy : rd S y = some (.int .u64 1)) : OV P nn S Z ⟨some d, .binOp .shr t x y t', ty, pos, aft, none⟩ (.int .u64 ((a / 2 : Nat) : Int)) :=
  ov_bin hx hy (fun w => by simp [go_sem, IntKind.bits])
end
end Go.Proofs.YtjecbkgjabnmoaaGreatDoor
namespace Go.Proofs
open Go.Shelf
def Tryz.lays125_ren : Go.Shelf.Ren := ⟨fun | 125 => 182 | 128 => 243 | 129 => 244 | n => n, fun | 46 => 244 | 3 => 3 | 51 => 306 | 53 => 308 | 4 => 4 | 5 => 5 | 9 => 9 | n => n, fun | n => n⟩
theorem Tryz.lays125 : Go.Proofs.Lays.n125 Tryz.prog Tryz.lays125_ren := {
  mixed := by kernel_rfl
  f125 := Tryz.func182.trans (congrArg some (by kernel_rfl))
  f128 := Tryz.func243.trans (congrArg some (by kernel_rfl))
  f129 := Tryz.func244.trans (congrArg some (by kernel_rfl))
  t3 := Tryz.underlying3
  a3 := Tryz.isAgg3
  z3 := Tryz.sizeOf3
  v3 := Tryz.zeroValue3
  t4 := Tryz.underlying4
  a4 := Tryz.isAgg4
  z4 := Tryz.sizeOf4
  v4 := Tryz.zeroValue4
  t5 := Tryz.underlying5
  a5 := Tryz.isAgg5
  z5 := Tryz.sizeOf5
  v5 := Tryz.zeroValue5
  t9 := Tryz.underlying9
  a9 := Tryz.isAgg9
  z9 := Tryz.sizeOf9
  v9 := Tryz.zeroValue9
  t46 := Tryz.underlying244
  a46 := Tryz.isAgg244
  z46 := Tryz.sizeOf244
  v46 := Tryz.zeroValue244
  t51 := Tryz.underlying306
  a51 := Tryz.isAgg306
  z51 := Tryz.sizeOf306
  v51 := Tryz.zeroValue306
  t53 := Tryz.underlying308
  a53 := Tryz.isAgg308
  z53 := Tryz.sizeOf308
  v53 := Tryz.zeroValue308 }
end Go.Proofs
namespace Go.Proofs
open Go.Shelf
def Tryz.lays106_ren : Go.Shelf.Ren := ⟨fun | 106 => 113 | 213 => 183 | 265 => 245 | n => n, fun | 9 => 9 | 3 => 3 | n => n, fun | n => n⟩
theorem Tryz.lays106 : Go.Proofs.Lays.n106 Tryz.prog Tryz.lays106_ren := {
  mixed := by kernel_rfl
  f106 := Tryz.func113.trans (congrArg some (by kernel_rfl))
  f213 := Tryz.func183.trans (congrArg some (by kernel_rfl))
  f265 := Tryz.func245.trans (congrArg some (by kernel_rfl))
  t3 := Tryz.underlying3
  a3 := Tryz.isAgg3
  z3 := Tryz.sizeOf3
  v3 := Tryz.zeroValue3
  t9 := Tryz.underlying9
  a9 := Tryz.isAgg9
  z9 := Tryz.sizeOf9
  v9 := Tryz.zeroValue9 }
end Go.Proofs
namespace Go.Proofs.YtjecbkgjabnmoaaGreatDoor
open Go.RowKit
theorem cmpB_eq : ∀ a b : List UInt8, Lib.compareBytes a b = if Go.Op.bytesLess a b = true then -1 else if (Go.Op.bytesLess a b || a == b) = false then 1 else 0
  | [], [] => rfl
  | [], b :: y => by simp [Lib.compareBytes, Go.Op.bytesLess]
  | a :: x, [] => by simp [Lib.compareBytes, Go.Op.bytesLess]
  | a :: x, b :: y => by
    have ih := cmpB_eq x y
    unfold Lib.compareBytes Go.Op.bytesLess
    by_cases h1 : a < b
    · simp [h1]
    · by_cases h2 : b < a
      · have h3 : ¬ a = b := fun e => by subst e; exact h1 h2
        simp [h1, h2, h3]
      · have h3 : a = b := by
          rcases Decidable.em (a = b) with h | h
          · exact h
          · rcases UInt8.lt_or_lt_of_ne h with h | h
            · exact absurd h h1
            · exact absurd h h2
        subst h3
        simp only [h1, if_false, ih, decide_false, Bool.false_or, beq_self_eq_true, Bool.true_and, List.cons_beq_cons]
theorem strCompare_any (a b : ByteArray) (w : World) : Calls Tryz.prog 113 #[.string a, .string b] w (fun e w' => e = .returned (.int .i64 (cmpS a b)) ∧ w.grownBy w' none) := by
  have hcon := Any.strings_Compare Tryz.lays106 a b w
  refine Calls.mono hcon ?_
  rintro e w' ⟨rfl, rfl⟩
  refine ⟨?_, World.grownBy.refl _ _⟩
  unfold cmpS
  rw [cmpB_eq, ByteArray.toList_eq, ByteArray.toList_eq]
theorem bitsLen_any (n : Nat) (w : World) (hn : n ≤ 1000000) : Calls Tryz.prog 182 #[.int .u64 ((n : Nat) : Int)] w (fun e w' => ∃ v : Int, e = .returned (.int .i64 v) ∧ w.grownBy w' none) := by
  have hcon := Any.bits_Len Tryz.lays125 ((n : Nat) : Int) w (by omega) (by omega)
  refine Calls.mono hcon ?_
  rintro e w' ⟨rfl, rfl⟩
  exact ⟨_, rfl, World.grownBy.refl _ _⟩
end Go.Proofs.YtjecbkgjabnmoaaGreatDoor
namespace Go.Proofs.YtjecbkgjabnmoaaGreatDoor
open Go.RowKit
theorem b_ne_self (a : ByteArray) : (!(a.toList == a.toList)) = false := by simp
theorem i_ne_self (a : Int) : (!decide (a = a)) = false := by simp
theorem nan_string (a : ByteArray) (w : World) : Calls Tryz.prog 225 #[.string a] w (fun e w' => e = .returned (.bool false) ∧ w.grownBy w' none) := by
 refine gw_enter ⟨6, w, none, []⟩ Tryz.func225 rfl Tryz.ntmps225 rfl (mem0 (X := []) allF_nil allL_nil) ?_
 refine sr_ (sg_ rfl (nn_ (sr_ (mv_ rfl (mv_ rfl (wl_ov (ov_sneq rfl rfl) rfl ?_))))))
 refine wl_set 5 (v' := .bool false) rfl (congrArg Value.bool (b_ne_self a)) ?_
 refine sg_ rfl (nn_ ?_)
 refine gw_ret ?_
 refine nx_ret1 rfl rfl fun wx hm => ?_
 exact ⟨rfl, hm.g⟩
theorem cmp_string (a b : ByteArray) (w : World) : Calls Tryz.prog 159 #[.string a, .string b] w (fun e w' => e = .returned (.int .i64 (cmpS a b)) ∧ w.grownBy w' none) := by
 refine gw_enter ⟨20, w, none, []⟩ Tryz.func159 rfl Tryz.ntmps159 rfl (mem0 (X := []) allF_nil allL_nil) ?_
 refine sr_ (sg_ rfl (nn_ (sr_ (mv_ rfl ?_))))
 refine wl_callv rfl cb225 rfl rfl (fun wx hm => (nan_string _ wx)) ?_
 refine sg_ rfl (nn_ (sr_ (mv_ rfl ?_)))
 refine wl_callv rfl cb225 rfl rfl (fun wx hm => (nan_string _ wx)) ?_
 refine sg_ rfl (nn_ (gw_seq (sr_ (mv_ rfl (nn_ (cf_ rfl (gw_skip (nx_then (gw_seq (gw_seq ?_))))))))))
 refine gw_region (mv_ rfl (nn_ (cf_ rfl (gw_skip (nx_then (gw_seq (sr_ (mv_ rfl (mv_ rfl ?_)))))))))
 refine wl_ov (ov_slss rfl rfl) rfl ?_
 refine nn_ ?_
 refine gw_cond rfl (fun hh => ?_) (fun hh => ?_)
 ·have h1 : (Op.bytesLess a.toList b.toList) = true := by simpa using hh
  clear hh
  refine sr_ (sg_ rfl ?_)
  refine wl_set 4 (v' := .int .i64 (-1)) rfl rfl ?_
  refine nn_ ?_
  refine gw_ret ?_
  refine nx_then_ret ?_
  refine nx_ret1 rfl rfl fun wx hm => ?_
  refine ⟨?_, hm.g⟩
  unfold cmpS; rw [if_pos h1]
 have h1 : (Op.bytesLess a.toList b.toList) = false := by simpa using hh
 clear hh
 refine gw_skip (nx_then (gw_seq (sr_ (mv_ rfl (mv_ rfl ?_)))))
 refine wl_ov (ov_sgtr rfl rfl) rfl ?_
 refine nn_ ?_
 refine gw_cond rfl (fun hh => ?_) (fun hh => ?_)
 ·have h2 : (Op.bytesLess a.toList b.toList || a.toList == b.toList) = false := by simpa only [Bool.not_eq_true', Bool.not_eq_false'] using hh
  clear hh
  refine sr_ (sg_ rfl (nn_ ?_))
  refine gw_ret ?_
  refine nx_then_ret ?_
  refine nx_ret1 rfl rfl fun wx hm => ?_
  refine ⟨?_, hm.g⟩
  unfold cmpS; rw [if_neg (by rw [h1]; decide), if_pos h2]
 have h2 : (Op.bytesLess a.toList b.toList || a.toList == b.toList) = true := by simpa only [Bool.not_eq_true', Bool.not_eq_false'] using hh
 clear hh
 refine gw_skip (nx_then (sr_ (sg_ rfl (nn_ ?_))))
 refine gw_ret ?_
 refine nx_ret1 rfl rfl fun wx hm => ?_
 refine ⟨?_, hm.g⟩
 unfold cmpS; rw [if_neg (by rw [h1]; decide), if_neg (by rw [h2]; decide)]
theorem nan_int (a : Int) (w : World) : Calls Tryz.prog 194 #[.int .i64 a] w (fun e w' => e = .returned (.bool false) ∧ w.grownBy w' none) := by
 refine gw_enter ⟨6, w, none, []⟩ Tryz.func194 rfl Tryz.ntmps194 rfl (mem0 (X := []) allF_nil allL_nil) ?_
 refine sr_ (sg_ rfl (nn_ (sr_ (mv_ rfl (mv_ rfl (wl_ov (ov_neq rfl rfl) rfl ?_))))))
 refine wl_set 5 (v' := .bool false) rfl (congrArg Value.bool (i_ne_self a)) ?_
 refine sg_ rfl (nn_ ?_)
 refine gw_ret ?_
 refine nx_ret1 rfl rfl fun wx hm => ?_
 exact ⟨rfl, hm.g⟩
theorem cmp_int (a b : Int) (w : World) : Calls Tryz.prog 125 #[.int .i64 a, .int .i64 b] w (fun e w' => e = .returned (.int .i64 (cmpI a b)) ∧ w.grownBy w' none) := by
 refine gw_enter ⟨20, w, none, []⟩ Tryz.func125 rfl Tryz.ntmps125 rfl (mem0 (X := []) allF_nil allL_nil) ?_
 refine sr_ (sg_ rfl (nn_ (sr_ (mv_ rfl ?_))))
 refine wl_callv rfl cb194 rfl rfl (fun wx hm => (nan_int _ wx)) ?_
 refine sg_ rfl (nn_ (sr_ (mv_ rfl ?_)))
 refine wl_callv rfl cb194 rfl rfl (fun wx hm => (nan_int _ wx)) ?_
 refine sg_ rfl (nn_ (gw_seq (sr_ (mv_ rfl (nn_ (cf_ rfl (gw_skip (nx_then (gw_seq (gw_seq ?_))))))))))
 refine gw_region (mv_ rfl (nn_ (cf_ rfl (gw_skip (nx_then (gw_seq (sr_ (mv_ rfl (mv_ rfl (wl_ov (ov_lss rfl rfl) rfl (wl_nil ?_)))))))))))
 refine nx_then ?_
 refine gw_cond rfl (fun hh => ?_) (fun hh => ?_)
 ·have h1 : a < b := by simpa using hh
  clear hh
  refine sr_ (sg_ rfl ?_)
  refine wl_set 4 (v' := .int .i64 (-1)) rfl rfl ?_
  refine nn_ ?_
  refine gw_ret ?_
  refine nx_then_ret ?_
  refine nx_ret1 rfl rfl fun wx hm => ?_
  refine ⟨?_, hm.g⟩
  unfold cmpI; rw [if_pos h1]
 have h1 : ¬ (a < b) := by simpa using hh
 clear hh
 refine gw_skip (nx_then (gw_seq (sr_ (mv_ rfl (mv_ rfl ?_)))))
 refine wl_ov (ov_gtr rfl rfl) rfl ?_
 refine nn_ ?_
 refine gw_cond rfl (fun hh => ?_) (fun hh => ?_)
 ·have h2 : b < a := by simpa using hh
  clear hh
  refine sr_ (sg_ rfl (nn_ ?_))
  refine gw_ret ?_
  refine nx_then_ret ?_
  refine nx_ret1 rfl rfl fun wx hm => ?_
  refine ⟨?_, hm.g⟩
  unfold cmpI; rw [if_neg h1, if_pos h2]
 have h2 : ¬ (b < a) := by simpa using hh
 clear hh
 refine gw_skip (nx_then (sr_ (sg_ rfl (nn_ ?_))))
 refine gw_ret ?_
 refine nx_ret1 rfl rfl fun wx hm => ?_
 refine ⟨?_, hm.g⟩
 unfold cmpI; rw [if_neg h1, if_neg h2]
end Go.Proofs.YtjecbkgjabnmoaaGreatDoor
namespace Go.Proofs.YtjecbkgjabnmoaaGreatDoor
open Go.RowKit
theorem pred_VehicleAt_1_rentref1 (vk : ByteArray) (vc : ByteArray) (gk : Nat) (k : ByteArray) (w : World) (hk : Blk w gk 9 [.string k]) :
  Calls Tryz.prog 92 #[.agg #[.string vk, .string vc], .pointer (some ⟨gk, 0, none⟩)] w (fun e w' => e = .returned (.bool (vhP k ⟨vk, vc⟩)) ∧ w.grownBy w' none) := by
 refine gw_enter ⟨8, w, none, []⟩ Tryz.func92 rfl Tryz.ntmps92 rfl (mem0 (X := [BlkOld w.heap.size none gk 9 [.string k]]) (allF_cons hk.old allF_nil) (allL_cons BlkOld.lasts allL_nil)) ?_
 refine sr_ ?_
 refine wl_box rfl rfl rfl fun g1 => ?_
 refine sg_ rfl (nn_ (sr_ (fd_ fo77_0 rfl rfl (lk_ sc9 0 rfl rfl rfl ?_))))
 refine wl_ov (ov_load (v := .string k) sc9 rfl (fun _ hm => (hm.fact 0 rfl).2) rfl) rfl ?_
 refine wl_ov (ov_seql rfl rfl) rfl (sg_ rfl (nn_ ?_))
 refine gw_ret ?_
 refine nx_ret1 rfl rfl fun wx hm => ?_
 exact ⟨rfl, hm.g⟩
theorem index_VehicleAt_1_rentref1 (l : List Vh) (A : Option Addr) (n c0 : Nat) (gk : Nat) (k : ByteArray) (w : World) (hl : SlT vhEnc 2 77 w A n l) (hn : n ≤ 1000000) (hk : Blk w gk 9 [.string k]) :
  Calls Tryz.prog 91 #[.slice A n c0, .func (.func 92) #[] #[.pointer (some ⟨gk, 0, none⟩)]] w (GotE w (ixP (vhP k) l 0)) := by
 refine gw_enter ⟨19, w, none, []⟩ Tryz.func91 rfl Tryz.ntmps91 rfl (mem0 (X := [SlOld vhEnc 2 77 w.heap.size none A n l, BlkOld w.heap.size none gk 9 [.string k]]) (allF_cons hl.old (allF_cons hk.old allF_nil)) (allL_cons SlOld.lasts (allL_cons BlkOld.lasts allL_nil))) ?_
 refine sr_ ?_
 have hlen := hl.len
 refine sg_ rfl (nn_ (gw_seq (sr_ (mv_ rfl (wl_ov (ov_len es28 rfl) rfl (mv_ rfl (nn_ (gw_block ?_))))))))
 refine gw_loop (γ := Nat) (fun (i : Nat) => i ≤ n ∧ ixP (vhP k) l 0 = ixP (vhP k) (l.drop i) i) (fun (i : Nat) => [(0, .slice A n c0), (1, .func (.func 92) #[] #[.pointer (some ⟨gk, 0, none⟩)]), (7, .int .i64 ((n : Nat) : Int)), (8, .int .i64 ((i : Nat) : Int))]) (fun (i : Nat) => fun _ => True) (fun (i : Nat) => []) (fun (i : Nat) => []) (fun (i : Nat) => [SlOld vhEnc 2 77 w.heap.size none A n l, BlkOld w.heap.size none gk 9 [.string k]]) (fun (i : Nat) => n - i) 0 ⟨Nat.zero_le _, rfl⟩ ⟨rfl, rfl, rfl, rfl, trivial⟩ (fun _ hm => hm.pick [] [] [0, 1] rfl rfl) ?_
 intro i hinv
 replace hinv : i ≤ n ∧ ixP (vhP k) l 0 = ixP (vhP k) (l.drop i) i := hinv
 refine sr_ (wl_ov (ov_lss rfl rfl) rfl (nn_ (gw_seq ?_)))
 refine gw_cond rfl (fun hh => ?_) (fun hh => ?_)
 ·have hi : ((i : Nat) : Int) < ((n : Nat) : Int) := by simpa using hh
  clear hh
  refine gw_skip (nx_then (gw_seq (gw_block (sr_ ?_))))
  obtain ⟨b, off, hA, _, _⟩ := hl.get (by omega)
  subst hA
  obtain ⟨x, hx⟩ : ∃ x, l[i]? = some x := ⟨_, List.getElem?_eq_getElem (by omega)⟩
  obtain ⟨vk, vc⟩ := x
  have hat := ixP_at (p := vhP k) hx
  refine mv_ rfl (sg_ rfl (nn_ (sr_ (mv_ rfl (mv_ rfl (mv_ rfl ?_))))))
  refine wl_ov (ov_index (j := i) es28 rfl rfl (by omega)) rfl ?_
  refine wl_ov (ov_elem (vs := [.string vk, .string vc]) rz77 rfl (fun _ hm => (hm.fact 0 rfl).1) hx rfl rfl) rfl ?_
  refine wl_callv rfl cb92 rfl rfl (fun wx hm => (pred_VehicleAt_1_rentref1 vk vc gk k wx (hm.fact 1 rfl).2)) ?_
  refine nn_ ?_
  refine gw_cond rfl (fun hh => ?_) (fun hh => ?_)
  ·have hq : (vhP k ⟨vk, vc⟩) = true := by simpa using hh
   clear hh
   refine sr_ (mv_ rfl (sg_ rfl (nn_ ?_)))
   refine gw_ret ?_
   refine nx_blk_ret (nx_then_ret (nx_then_ret (nx_blk_ret (nx_then_ret ?_))))
   refine nx_ret1 rfl rfl fun wx hm => ?_
   exact ⟨ret_int (by rw [hinv.2, hat, if_pos hq]), hm.g⟩
  have hq : (vhP k ⟨vk, vc⟩) = false := by simpa using hh
  clear hh
  refine gw_skip (nx_blk_nrm (nx_then (gw_region (ad_ rfl rfl (mv_ rfl (wl_nil ?_))))))
  exact nx_round (i + 1) ⟨by omega, by rw [hinv.2, hat, if_neg (by rw [hq]; decide)]⟩ (by omega) ⟨rfl, rfl, rfl, (some_int (by omega)), trivial⟩ (fun _ hm => hm.pick [] [] [0, 1] rfl rfl)
 have hi : ¬ (((i : Nat) : Int) < ((n : Nat) : Int)) := by simpa using hh
 clear hh
 refine gw_exit ?_
 refine nx_then_exit (nx_then_exit ?_)
 refine nx_blk_here ?_
 refine nx_then (sr_ (sg_ rfl ?_))
 refine wl_set 4 (v' := .int .i64 (-1)) rfl rfl ?_
 refine nn_ ?_
 refine gw_ret ?_
 refine nx_ret1 rfl rfl fun wx hm => ?_
 exact ⟨ret_int (by rw [hinv.2, List.drop_eq_nil_of_le (by omega)]; rfl), hm.g⟩
theorem rVehicleAt_any (vl : List Vh) (sA cA vA pA : Option Addr) (sn sc cn cc vn vc pn pc : Nat) (k : ByteArray) (w : World) (hv : SlT vhEnc 2 77 w vA vn vl) (hn : vn ≤ 1000000) :
  Calls Tryz.prog 20 #[.agg #[.slice sA sn sc, .slice cA cn cc, .slice vA vn vc, .slice pA pn pc], .string k] w (GotE w (ixP (vhP k) vl 0)) := by
 refine gw_enter ⟨9, w, none, []⟩ Tryz.func20 rfl Tryz.ntmps20 rfl (mem0 (X := [SlOld vhEnc 2 77 w.heap.size none vA vn vl]) (allF_cons hv.old allF_nil) (allL_cons SlOld.lasts allL_nil)) ?_
 refine sr_ ?_
 refine wl_box rfl rfl rfl fun g1 => ?_
 refine wl_box rfl rfl rfl fun g2 => ?_
 refine sg_ rfl (nn_ (sr_ (fd_ fo31_2 rfl rfl (lk_ sc28 1 rfl rfl rfl (wl_ov (ov_makeFunc rfl rfl) rfl ?_)))))
 refine wl_callv rfl cb91 rfl rfl (fun wx hm => (index_VehicleAt_1_rentref1 vl vA vn vc _ k wx (hm.fact 0 rfl).1 hn (hm.blkI 0 rfl))) ?_
 refine sg_ rfl (nn_ ?_)
 refine gw_ret ?_
 refine nx_ret1 rfl rfl fun wx hm => ?_
 exact ⟨rfl, hm.g⟩
theorem vehCmp (vk vc k : ByteArray) (w : World) : Calls Tryz.prog 165 #[.agg #[.string vk, .string vc], .string k] w (fun e w' => e = .returned (.int .i64 (cmpS vk k)) ∧ w.grownBy w' none) := by
 refine gw_enter ⟨9, w, none, []⟩ Tryz.func165 rfl Tryz.ntmps165 rfl (mem0 (X := []) allF_nil allL_nil) ?_
 refine sr_ ?_
 refine wl_box rfl rfl rfl fun g1 => ?_
 refine sg_ rfl (nn_ (sr_ (fd_ fo77_0 rfl rfl (lk_ sc9 0 rfl rfl rfl (mv_ rfl ?_)))))
 refine wl_callv rfl cb159 rfl rfl (fun wx hm => (cmp_string _ _ wx)) ?_
 refine sg_ rfl (nn_ ?_)
 refine gw_ret ?_
 refine nx_ret1 rfl rfl fun wx hm => ?_
 exact ⟨rfl, hm.g⟩
theorem bsearch_any (vl : List Vh) (vA : Option Addr) (vn vc : Nat) (k : ByteArray) (w : World) (hv : SlT vhEnc 2 77 w vA vn vl) (hn : vn ≤ 1000000) (hr : Rise vl) :
  Calls Tryz.prog 164 #[.slice vA vn vc, .string k, .func (.func 165) #[] #[]] w (fun e w' => ∃ (i : Nat) (f : Bool), e = .returned (.tuple #[.int .i64 ((i : Nat) : Int), .bool f]) ∧ (f = true → ixP (vhP k) vl 0 = (i : Int)) ∧ (f = false → ixP (vhP k) vl 0 = -1) ∧ w.grownBy w' none) := by
 refine gw_enter ⟨49, w, none, []⟩ Tryz.func164 rfl Tryz.ntmps164 rfl (mem0 (X := [SlOld vhEnc 2 77 w.heap.size none vA vn vl]) (allF_cons hv.old allF_nil) (allL_cons SlOld.lasts allL_nil)) ?_
 refine sr_ ?_
 have hlen := hv.len
 refine sg_ rfl (sg_ rfl (nn_ (sr_ (mv_ rfl (wl_ov (ov_len es28 rfl) rfl (sg_ rfl (nn_ (sr_ (mv_ rfl ?_)))))))))
 refine sg_ rfl (sg_ rfl (nn_ (gw_seq (gw_block ?_))))
 refine gw_loop (γ := Nat × Nat) (fun g => (g.1 ≤ g.2 ∧ g.2 ≤ vn) ∧ Low vl k g.1 ∧ High vl k g.2) (fun g => [(0, .slice vA vn vc), (1, .string k), (2, .func (.func 165) #[] #[]), (6, .int .i64 0), (7, .bool false), (8, .int .i64 ((vn : Nat) : Int)), (9, .int .i64 ((g.1 : Nat) : Int)), (10, .int .i64 ((g.2 : Nat) : Int))]) (fun g => fun _ => True) (fun g => []) (fun g => []) (fun g => [SlOld vhEnc 2 77 w.heap.size none vA vn vl]) (fun g => g.2 - g.1) (0, vn) ⟨⟨Nat.zero_le _, Nat.le_refl _⟩, (fun i h => by omega), fun i h x hx => by have := (List.getElem?_eq_some_iff.1 hx).1; omega⟩ ⟨rfl, rfl, rfl, rfl, rfl, rfl, (some_int (by omega)), rfl, trivial⟩ (fun _ hm => hm.pick [] [] [0] rfl rfl) ?_
 rintro ⟨a, b⟩ hinv
 replace hinv : (a ≤ b ∧ b ≤ vn) ∧ Low vl k a ∧ High vl k b := hinv
 dsimp only
 refine gw_seq (sr_ ?_)
 obtain ⟨⟨hab, hbn⟩, hlow, hhigh⟩ := hinv
 refine mv_ rfl (mv_ rfl (wl_ov (ov_lss rfl rfl) rfl (nn_ ?_)))
 refine gw_cond rfl (fun hh => ?_) (fun hh => ?_)
 ·have hc : ((a : Nat) : Int) < ((b : Nat) : Int) := by simpa using hh
  clear hh
  refine gw_skip (nx_then (gw_block (sr_ ?_)))
  obtain ⟨h, hh⟩ : ∃ h, h = (a + b) / 2 := ⟨_, rfl⟩
  have hha : a ≤ h := by omega
  have hhb : h < b := by omega
  obtain ⟨x, hx⟩ : ∃ x, vl[h]? = some x := ⟨_, List.getElem?_eq_getElem (by omega)⟩
  obtain ⟨vk, vc2⟩ := x
  obtain ⟨bv, ov, hA, _, _⟩ := hv.get (by omega)
  subst hA
  refine mv_ rfl (mv_ rfl (ad_ rfl rfl ?_))
  refine wl_set 20 (v' := .int .i64 (((a + b) : Nat) : Int)) rfl (congrArg (Value.int .i64) (by omega)) ?_
  refine wl_ov (ov_u64 (a := (a + b)) (by kernel_rfl) (by kernel_rfl) rfl (by omega)) rfl ?_
  refine wl_ov (ov_shru1 (a := (a + b)) rfl rfl) rfl ?_
  refine wl_ov (ov_i64 (a := (a + b) / 2) (by kernel_rfl) (by kernel_rfl) rfl (by omega)) rfl ?_
  refine wl_set 23 (v' := .int .i64 ((h : Nat) : Int)) rfl (congrArg (Value.int .i64) (by omega)) ?_
  refine sg_ rfl (nn_ (sr_ (mv_ rfl (mv_ rfl (mv_ rfl ?_)))))
  refine wl_ov (ov_index (j := h) es28 rfl rfl (by omega)) rfl ?_
  refine wl_ov (ov_elem (vs := [.string vk, .string vc2]) rz77 rfl (fun _ hm => (hm.fact 0 rfl).1) hx rfl rfl) rfl ?_
  refine mv_ rfl ?_
  refine wl_callv rfl cb165 rfl rfl (fun wx hm => (vehCmp vk vc2 k wx)) ?_
  refine wl_ov (ov_lss rfl rfl) rfl (nn_ ?_)
  refine gw_cond rfl (fun hh => ?_) (fun hh => ?_)
  ·have hl : cmpS vk k < 0 := by simpa using hh
   clear hh
   refine gw_region (mv_ rfl (ad_ rfl rfl (sg_ rfl (wl_nil (nx_blk_nrm ?_)))))
   exact nx_round (h + 1, b) ⟨⟨by dsimp only; omega, hbn⟩, low_next hr hx hl, hhigh⟩ (by dsimp only; omega) ⟨rfl, rfl, rfl, rfl, rfl, rfl, (some_int (by omega)), rfl, trivial⟩ (fun _ hm => hm.pick [] [] [0] rfl rfl)
  have hl : ¬ (cmpS vk k < 0) := by simpa using hh
  clear hh
  refine gw_region (mv_ rfl (sg_ rfl (wl_nil (nx_blk_nrm ?_))))
  exact nx_round (a, h) ⟨⟨by dsimp only; omega, by dsimp only; omega⟩, hlow, high_next hr hx hl⟩ (by dsimp only; omega) ⟨rfl, rfl, rfl, rfl, rfl, rfl, rfl, (some_int (by omega)), trivial⟩ (fun _ hm => hm.pick [] [] [0] rfl rfl)
 have hc : ¬ (((a : Nat) : Int) < ((b : Nat) : Int)) := by simpa using hh
 clear hh
 refine gw_exit ?_
 refine nx_then_exit (nx_then_exit ?_)
 refine nx_blk_here ?_
 refine nx_then (sr_ ?_)
 obtain rfl : b = a := by omega
 by_cases hbv : b < vn
 ·obtain ⟨x, hx⟩ : ∃ x, vl[b]? = some x := ⟨_, List.getElem?_eq_getElem (by omega)⟩
  obtain ⟨vk, vc2⟩ := x
  obtain ⟨bv, ov, hA, _, _⟩ := hv.get (by omega)
  subst hA
  refine mv_ rfl (mv_ rfl (mv_ rfl (wl_ov (ov_lss rfl rfl) rfl ?_)))
  refine wl_set 38 (v' := .bool true) rfl (congrArg Value.bool (decide_eq_true (by omega))) ?_
  refine mv_ rfl (wl_guard_on rfl rfl rfl (mv_ rfl (wl_guard_on rfl rfl rfl (mv_ rfl (wl_guard_on rfl rfl rfl (mv_ rfl (wl_guard_on rfl rfl rfl ?_)))))))
  refine wl_ov (ov_index (j := b) es28 rfl rfl (by omega)) rfl ?_
  refine wl_guard_on rfl rfl rfl ?_
  refine wl_ov (ov_elem (vs := [.string vk, .string vc2]) rz77 rfl (fun _ hm => (hm.fact 0 rfl).1) hx rfl rfl) rfl ?_
  refine wl_guard_on rfl rfl rfl (mv_ rfl (wl_guard_on rfl rfl rfl ?_))
  refine wl_callv rfl cb165 rfl rfl (fun wx hm => (vehCmp vk vc2 k wx)) ?_
  refine wl_guard_on rfl rfl rfl (wl_ov (ov_eql rfl rfl) rfl (pt_ rfl rfl (sg_ rfl (sg_ rfl (nn_ ?_)))))
  refine gw_ret ?_
  refine nx_ret2 rfl rfl rfl fun wx hm => ?_
  exact ⟨_, _, rfl, fun h => bs_yes hlow hx (of_decide_eq_true h), fun h => bs_no hr hlow hhigh (fun y hy => by rw [hx] at hy; cases hy; exact of_decide_eq_false h), hm.g⟩
 refine mv_ rfl (mv_ rfl (mv_ rfl (wl_ov (ov_lss rfl rfl) rfl ?_)))
 refine wl_set 38 (v' := .bool false) rfl (congrArg Value.bool (decide_eq_false (by omega))) ?_
 refine mv_ rfl (goff rfl rfl rfl (goff rfl rfl rfl (goff rfl rfl rfl (goff rfl rfl rfl (goff rfl rfl rfl (goff rfl rfl rfl (goff rfl rfl rfl (goff rfl rfl rfl (pf_ rfl rfl (sg_ rfl (sg_ rfl (nn_ ?_))))))))))))
 refine gw_ret ?_
 refine nx_ret2 rfl rfl rfl fun wx hm => ?_
 exact ⟨_, _, rfl, (fun h => by cases h), fun _ => bs_no hr hlow hhigh (fun y hy => by have := (List.getElem?_eq_some_iff.1 hy).1; omega), hm.g⟩
theorem vehicleAt_any (vl : List Vh) (sA cA vA pA : Option Addr) (sn sc cn cc vn vc pn pc : Nat) (k : ByteArray) (w : World) (hv : SlT vhEnc 2 77 w vA vn vl) (hn : vn ≤ 1000000) (hr : Rise vl) :
  Calls Tryz.prog 80 #[.agg #[.slice sA sn sc, .slice cA cn cc, .slice vA vn vc, .slice pA pn pc], .string k] w (GotE w (ixP (vhP k) vl 0)) := by
 refine gw_enter ⟨17, w, none, []⟩ Tryz.func80 rfl Tryz.ntmps80 rfl (mem0 (X := [SlOld vhEnc 2 77 w.heap.size none vA vn vl]) (allF_cons hv.old allF_nil) (allL_cons SlOld.lasts allL_nil)) ?_
 refine sr_ ?_
 refine wl_box rfl rfl rfl fun g1 => ?_
 refine sg_ rfl (nn_ (sr_ (fd_ fo31_2 rfl rfl (lk_ sc28 0 rfl rfl rfl (mv_ rfl ?_)))))
 refine wl_callx (γ := Nat × Bool) (val := (fun g => .tuple #[.int .i64 ((g.1 : Nat) : Int), .bool g.2])) (φ := (fun g => (g.2 = true → ixP (vhP k) vl 0 = (g.1 : Int)) ∧ (g.2 = false → ixP (vhP k) vl 0 = -1))) (Y := (fun g => fun _ => True)) rfl cb164 rfl rfl (fun wx hm => (bsearch_any vl vA vn vc k wx (hm.fact 0 rfl).1 hn hr).mono fun _ _ ⟨i, f, he, h1, h2, hg⟩ => ⟨(i, f), he, ⟨h1, h2⟩, hg, trivial⟩) (fun _ => Lasts2.true_) ?_
 rintro ⟨i, f⟩ hif
 dsimp only at hif ⊢
 refine mv_ rfl (wl_ov (ov_extract rfl rfl) rfl (wl_ov (ov_extract rfl rfl) rfl (sg_ rfl (sg_ rfl (nn_ (gw_seq (sr_ (mv_ rfl (wl_ov (ov_un_not rfl) rfl (nn_ ?_))))))))))
 refine gw_cond rfl (fun hh => ?_) (fun hh => ?_)
 ·have hf : f = false := by simpa using hh
  clear hh
  refine sr_ (sg_ rfl ?_)
  refine wl_set 4 (v' := .int .i64 (-1)) rfl rfl ?_
  refine nn_ ?_
  refine gw_ret ?_
  refine nx_then_ret ?_
  refine nx_ret1 rfl rfl fun wx hm => ?_
  exact ⟨ret_int (by rw [hif.2 hf]), hm.g⟩
 have hf : f = true := by simpa using hh
 clear hh
 refine gw_skip (nx_then (sr_ (mv_ rfl (sg_ rfl (nn_ ?_)))))
 refine gw_ret ?_
 refine nx_ret1 rfl rfl fun wx hm => ?_
 exact ⟨ret_int (by rw [hif.1 hf]), hm.g⟩
theorem plateForm_any (p : ByteArray) (w : World) (hp : p.size ≤ 1000000) : Calls Tryz.prog 22 #[.string p] w (fun e w' => e = .returned (.bool (plateB p)) ∧ w.grownBy w' none) := by
 refine gw_enter ⟨10, w, none, []⟩ Tryz.func22 rfl Tryz.ntmps22 rfl (mem0 (X := []) allF_nil allL_nil) ?_
 refine sr_ ?_
 obtain ⟨Q, hQ⟩ : ∃ Q, Q = onlyB p.data.toList plateBytes := ⟨_, rfl⟩
 refine sg_ rfl (nn_ (sr_ (mv_ rfl ?_)))
 refine wl_ov (ov_lens us9 rfl) rfl ?_
 refine wl_callw rfl cb93 rfl rfl (fun wx hm => (rin_any _ _ _ wx)) ?_
 refine mv_ rfl ?_
 rcases Bool.eq_false_or_eq_true (inB ((p).size : Int) 2 10) with hI2 | hI2
 ·refine wl_set 6 rfl (congrArg Value.bool hI2) ?_
  refine wl_guard_on rfl rfl rfl (mv_ rfl (wl_guard_on rfl rfl rfl ?_))
  refine wl_callv (v := .bool Q) rfl cb94 rfl rfl (fun wx hm => (by rw [hQ]; exact only_plate p wx (by omega))) ?_
  refine pt_ rfl rfl (sg_ rfl (nn_ ?_))
  refine gw_ret ?_
  refine nx_ret1 rfl rfl fun wx hm => ?_
  exact ⟨by rw [plate_only, ← hQ, hI2]; rfl, hm.g⟩
 refine wl_set 6 rfl (congrArg Value.bool hI2) ?_
 refine goff rfl rfl rfl (goff rfl rfl rfl (pf_ rfl rfl (sg_ rfl (nn_ ?_))))
 refine gw_ret ?_
 refine nx_ret1 rfl rfl fun wx hm => ?_
 exact ⟨by rw [plate_only, hI2]; rfl, hm.g⟩
theorem compare2_any (g1 g2 : Nat) (a1 a2 b1 b2 : ByteArray) (w : World) (h1 : Blk w g1 9 [.string a1, .string a2]) (h2 : Blk w g2 9 [.string b1, .string b2]) :
  Calls Tryz.prog 169 #[.slice (some ⟨g1, 0, none⟩) 2 2, .slice (some ⟨g2, 0, none⟩) 2 2] w (GotE w (firstE [cmpS a1 b1, cmpS a2 b2])) := by
 refine gw_enter ⟨36, w, none, []⟩ Tryz.func169 rfl Tryz.ntmps169 rfl (mem0 (X := [BlkOld w.heap.size none g1 9 [.string a1, .string a2], BlkOld w.heap.size none g2 9 [.string b1, .string b2]]) (allF_cons h1.old (allF_cons h2.old allF_nil)) (allL_cons BlkOld.lasts (allL_cons BlkOld.lasts allL_nil))) ?_
 refine sr_ (sg_ rfl (nn_ (gw_seq (sr_ (mv_ rfl (wl_ov (ov_len es81 rfl) rfl ?_))))))
 refine wl_set 10 (v' := .int .i64 2) rfl rfl ?_
 refine mv_ rfl (nn_ (gw_block ?_))
 refine gw_rounds 3 ?_
 refine gr_next ?_
 refine sr_ (wl_ov (ov_lss rfl rfl) rfl ?_)
 refine wl_set 12 (v' := .bool true) rfl (congrArg Value.bool (by decide)) ?_
 refine nn_ (gw_seq (ct_ rfl (gw_skip (nx_then (gw_seq (gw_block (sr_ (mv_ rfl ?_))))))))
 refine wl_ov (ov_index (j := 0) es81 rfl rfl (by decide)) rfl ?_
 refine wl_ov (ov_load (v := .string a1) sc9 rfl (fun _ hm => (hm.fact 0 rfl).2) rfl) rfl ?_
 refine sg_ rfl (sg_ rfl (nn_ (gw_seq (sr_ (mv_ rfl (mv_ rfl (wl_ov (ov_len es81 rfl) rfl ?_)))))))
 refine wl_set 18 (v' := .int .i64 2) rfl rfl ?_
 refine wl_ov (ov_geq rfl rfl) rfl ?_
 refine wl_set 19 (v' := .bool false) rfl (congrArg Value.bool (by decide)) ?_
 refine nn_ (cf_ rfl (gw_skip (nx_then (sr_ (mv_ rfl (mv_ rfl ?_))))))
 refine wl_ov (ov_index (j := 0) es81 rfl rfl (by decide)) rfl ?_
 refine wl_ov (ov_load (v := .string b1) sc9 rfl (fun _ hm => (hm.fact 1 rfl).2) rfl) rfl ?_
 refine sg_ rfl (nn_ (sr_ (mv_ rfl (mv_ rfl ?_))))
 refine wl_callv rfl cb159 rfl rfl (fun wx hm => (cmp_string _ _ wx)) ?_
 refine sg_ rfl (nn_ (sr_ (mv_ rfl (wl_ov (ov_neq rfl rfl) rfl (nn_ ?_)))))
 refine gw_cond rfl (fun hh => ?_) (fun hh => ?_)
 ·have h3 : ¬ (cmpS a1 b1 = 0) := by simpa using hh
  clear hh
  refine sr_ (mv_ rfl (sg_ rfl (nn_ ?_)))
  refine gw_ret ?_
  refine nx_blk_ret (nx_then_ret (nx_then_ret (nx_blk_ret (nx_then_ret ?_))))
  refine nx_ret1 rfl rfl fun wx hm => ?_
  exact ⟨ret_int (by simp [firstE, h3]), hm.g⟩
 have h3 : cmpS a1 b1 = 0 := by simpa using hh
 clear hh
 refine gw_skip (nx_blk_nrm (nx_then (gw_region (ad_ rfl rfl ?_))))
 refine wl_set 30 (v' := .int .i64 1) rfl rfl ?_
 refine mv_ rfl (wl_nil ?_)
 refine nx_next ?_
 refine gr_next ?_
 refine sr_ (wl_ov (ov_lss rfl rfl) rfl ?_)
 refine wl_set 12 (v' := .bool true) rfl (congrArg Value.bool (by decide)) ?_
 refine nn_ (gw_seq (ct_ rfl (gw_skip (nx_then (gw_seq (gw_block (sr_ (mv_ rfl ?_))))))))
 refine wl_ov (ov_index (j := 1) es81 rfl rfl (by decide)) rfl ?_
 refine wl_ov (ov_load (v := .string a2) sc9 rfl (fun _ hm => (hm.fact 0 rfl).2) rfl) rfl ?_
 refine sg_ rfl (sg_ rfl (nn_ (gw_seq (sr_ (mv_ rfl (mv_ rfl (wl_ov (ov_len es81 rfl) rfl ?_)))))))
 refine wl_set 18 (v' := .int .i64 2) rfl rfl ?_
 refine wl_ov (ov_geq rfl rfl) rfl ?_
 refine wl_set 19 (v' := .bool false) rfl (congrArg Value.bool (by decide)) ?_
 refine nn_ (cf_ rfl (gw_skip (nx_then (sr_ (mv_ rfl (mv_ rfl ?_))))))
 refine wl_ov (ov_index (j := 1) es81 rfl rfl (by decide)) rfl ?_
 refine wl_ov (ov_load (v := .string b2) sc9 rfl (fun _ hm => (hm.fact 1 rfl).2) rfl) rfl ?_
 refine sg_ rfl (nn_ (sr_ (mv_ rfl (mv_ rfl ?_))))
 refine wl_callv rfl cb159 rfl rfl (fun wx hm => (cmp_string _ _ wx)) ?_
 refine sg_ rfl (nn_ (sr_ (mv_ rfl (wl_ov (ov_neq rfl rfl) rfl (nn_ ?_)))))
 refine gw_cond rfl (fun hh => ?_) (fun hh => ?_)
 ·have h4 : ¬ (cmpS a2 b2 = 0) := by simpa using hh
  clear hh
  refine sr_ (mv_ rfl (sg_ rfl (nn_ ?_)))
  refine gw_ret ?_
  refine nx_blk_ret (nx_then_ret (nx_then_ret (nx_blk_ret (nx_then_ret ?_))))
  refine nx_ret1 rfl rfl fun wx hm => ?_
  exact ⟨ret_int (by simp [firstE, h3, h4]), hm.g⟩
 have h4 : cmpS a2 b2 = 0 := by simpa using hh
 clear hh
 refine gw_skip (nx_blk_nrm (nx_then (gw_region (ad_ rfl rfl ?_))))
 refine wl_set 30 (v' := .int .i64 2) rfl rfl ?_
 refine mv_ rfl (wl_nil ?_)
 refine nx_next ?_
 refine gr_next ?_
 refine sr_ (wl_ov (ov_lss rfl rfl) rfl ?_)
 refine wl_set 12 (v' := .bool false) rfl (congrArg Value.bool (by decide)) ?_
 refine nn_ (gw_seq (cf_ rfl ?_))
 refine gw_exit ?_
 refine nx_then_exit (nx_then_exit ?_)
 refine nx_blk_here ?_
 refine nx_then (gw_seq (sr_ (mv_ rfl (wl_ov (ov_len es81 rfl) rfl ?_))))
 refine wl_set 32 (v' := .int .i64 2) rfl rfl ?_
 refine mv_ rfl (wl_ov (ov_len es81 rfl) rfl ?_)
 refine wl_set 34 (v' := .int .i64 2) rfl rfl ?_
 refine wl_ov (ov_lss rfl rfl) rfl ?_
 refine wl_set 35 (v' := .bool false) rfl (congrArg Value.bool (by decide)) ?_
 refine nn_ (cf_ rfl (gw_skip (nx_then (sr_ (sg_ rfl (nn_ ?_))))))
 refine gw_ret ?_
 refine nx_ret1 rfl rfl fun wx hm => ?_
 exact ⟨ret_int (by simp [firstE, h3, h4]), hm.g⟩
end Go.Proofs.YtjecbkgjabnmoaaGreatDoor
namespace Go.Proofs.YtjecbkgjabnmoaaGreatDoor
open Go.RowKit
def sgV3 (n : Int) : Int := if n < 0 then -1 else if 0 < n then 1 else 0
theorem ord_fr {a b : Pl} (h : ¬ a.fr = b.fr) : sgV3 (a.fr - b.fr) = plOrd a b := by
  unfold sgV3 plOrd cmpI
  by_cases h1 : a.fr < b.fr
  · simp [firstE, h1, show a.fr - b.fr < 0 by omega]
  · have h2 : b.fr < a.fr := by omega
    simp [firstE, h1, h2, show ¬ a.fr - b.fr < 0 by omega]
theorem ord_eq {a b : Pl} (h : a.fr = b.fr) : firstE [cmpS a.veh b.veh, cmpS a.plate b.plate] = plOrd a b := by
  unfold plOrd cmpI
  rw [if_neg (by omega), if_neg (by omega)]
  simp [firstE]
theorem ord_le {a b : Pl} (h : ¬ 0 ≤ plOrd a b) : a.fr ≤ b.fr := by
  refine Classical.byContradiction fun hn => h ?_
  unfold plOrd cmpI
  rw [if_neg (by omega), if_pos (by omega)]
  simp [firstE]
def PSort (l : List Pl) : Prop := l.Pairwise fun q r => q.fr ≤ r.fr
theorem psort_snoc {l : List Pl} {p : Pl} (h : PSort l) (hl : ∀ q, l.getLast? = some q → q.fr ≤ p.fr) : PSort (l ++ [p]) := by
  unfold PSort at *
  rw [List.pairwise_append]
  refine ⟨h, List.pairwise_singleton _ _, fun q hq r hr => ?_⟩
  rw [List.mem_singleton.1 hr]
  cases hg : l.getLast? with
  | none =>
    rw [List.getLast?_eq_none_iff.1 hg] at hq; cases hq
  | some z =>
    have hz := hl z hg
    rcases List.getLast?_eq_some_iff.1 hg with ⟨ys, rfl⟩
    rw [List.pairwise_append] at h
    rcases List.mem_append.1 hq with h1 | h1
    · have := h.2.2 q h1 z (by simp); omega
    · rw [List.mem_singleton.1 h1]; exact hz
theorem psort_at {l : List Pl} (h : PSort l) {i j : Nat} {x y : Pl} (hij : i ≤ j) (hx : l[i]? = some x) (hy : l[j]? = some y) : x.fr ≤ y.fr := by
  rcases Nat.eq_or_lt_of_le hij with rfl | h1
  · rw [hx] at hy; cases hy; exact Int.le_refl _
  · obtain ⟨hi, rfl⟩ := List.getElem?_eq_some_iff.1 hx
    obtain ⟨hj, rfl⟩ := List.getElem?_eq_some_iff.1 hy
    exact List.pairwise_iff_getElem.1 h i j hi hj h1
theorem plG_at {vs : List Vh} {l : List Pl} {i : Nat} {p : Pl} (h : l[i]? = some p) : plG vs (l.take i) (l.drop i) = if plE vs (l.take i) p = 0 then plG vs (l.take (i + 1)) (l.drop (i + 1)) else plE vs (l.take i) p := by
  obtain ⟨hi, rfl⟩ := List.getElem?_eq_some_iff.1 h
  rw [List.drop_eq_getElem_cons hi, List.take_succ_eq_append_getElem hi]
  rfl
theorem last_take {l : List Pl} {i : Nat} (hi : i ≤ l.length) : (l.take i).getLast? = if i = 0 then none else l[i - 1]? := by
  rw [List.getLast?_eq_getElem?, List.length_take, Nat.min_eq_left hi]
  by_cases h : i = 0
  · subst h; simp
  · rw [if_neg h, List.getElem?_take, if_pos (by omega)]
theorem plE_one {vs : List Vh} {pre : List Pl} {p : Pl} (h1 : inB p.fr 0 5761439 = false) : plE vs pre p = 1 := by unfold plE; rw [h1]; rfl
theorem plE_two {vs : List Vh} {pre : List Pl} {p : Pl} (h1 : inB p.fr 0 5761439 = true) (h2 : ixP (vhP p.veh) vs 0 < 0) : plE vs pre p = 8 := by unfold plE; rw [h1, if_neg (by decide), if_pos h2]
theorem plE_three {vs : List Vh} {pre : List Pl} {p : Pl} (h1 : inB p.fr 0 5761439 = true) (h2 : ¬ ixP (vhP p.veh) vs 0 < 0) (h3 : plateB p.plate = false) : plE vs pre p = 3 := by unfold plE; rw [h1, if_neg (by decide), if_neg h2, h3]; rfl
def plO (pre : List Pl) (p : Pl) : Bool := match pre.getLast? with | none => false | some q => decide (0 ≤ plOrd q p)
theorem plE_four {vs : List Vh} {pre : List Pl} {p : Pl} (h1 : inB p.fr 0 5761439 = true) (h2 : ¬ ixP (vhP p.veh) vs 0 < 0) (h3 : plateB p.plate = true) : plE vs pre p = if plO pre p = true then 7 else if pre.any (plTwin p) = true then 6 else 0 := by
  unfold plE
  rw [h1, if_neg (by decide), if_neg h2, h3, if_neg (by decide)]; rfl
theorem plO_zero {l : List Pl} {p : Pl} : plO (l.take 0) p = false := rfl
theorem plO_pos {l : List Pl} {i : Nat} {p q : Pl} (hi : i < l.length) (h0 : ¬ i = 0) (hq : l[i - 1]? = some q) : plO (l.take i) p = decide (0 ≤ plOrd q p) := by
  unfold plO
  rw [last_take (by omega), if_neg h0, hq]
theorem twin_none {l : List Pl} {i j : Nat} {p : Pl} (hs : PSort (l.take i)) (hi : i ≤ l.length) (hj : j ≤ i) (hlast : ∀ q, l[i - 1]? = some q → ¬ i = 0 → q.fr ≤ p.fr) (hno : ∀ t, j ≤ t → t < i → ∀ x, l[t]? = some x → plTwin p x = false) (hend : j = 0 ∨ ∃ x, l[j - 1]? = some x ∧ x.fr ≠ p.fr) : (l.take i).any (plTwin p) = false := by
  rw [List.any_eq_false]
  intro x hx
  obtain ⟨t, ht⟩ := List.getElem?_of_mem hx
  have hti : t < i := by
    have := (List.getElem?_eq_some_iff.1 ht).1
    rw [List.length_take] at this; omega
  have hlt : l[t]? = some x := by rw [List.getElem?_take, if_pos hti] at ht; exact ht
  rcases Nat.lt_or_ge t j with h1 | h1
  · rcases hend with rfl | ⟨y, hy, hne⟩
    · omega
    · have hyt : (l.take i)[j - 1]? = some y := by rw [List.getElem?_take, if_pos (by omega)]; exact hy
      have h2 := psort_at hs (show t ≤ j - 1 by omega) ht hyt
      obtain ⟨z, hz⟩ : ∃ z, l[i - 1]? = some z := ⟨_, List.getElem?_eq_getElem (by omega)⟩
      have hzt : (l.take i)[i - 1]? = some z := by rw [List.getElem?_take, if_pos (by omega)]; exact hz
      have h3 := psort_at hs (show j - 1 ≤ i - 1 by omega) hyt hzt
      have h4 := hlast z hz (by omega)
      have h5 : ¬ x.fr = p.fr := by omega
      unfold plTwin
      rw [decide_eq_false h5]; simp
  · rw [hno t h1 hti x hlt]; decide
theorem sign3_any (n : Int) (w : World) : Calls Tryz.prog 168 #[.int .i64 n] w (GotE w (sgV3 n)) := by
 refine gw_enter ⟨9, w, none, []⟩ Tryz.func168 rfl Tryz.ntmps168 rfl (mem0 (X := []) allF_nil allL_nil) ?_
 refine sr_ (sg_ rfl (nn_ (gw_seq (gw_block (sr_ (mv_ rfl (wl_ov (ov_lss rfl rfl) rfl (sg_ rfl (nn_ ?_)))))))))
 refine gw_cond rfl (fun hh => ?_) (fun hh => ?_)
 ·have h0 : n < 0 := by simpa using hh
  clear hh
  refine sr_ (sg_ rfl ?_)
  refine wl_set 2 (v' := .int .i64 (-1)) rfl rfl ?_
  refine nn_ ?_
  refine gw_ret ?_
  refine nx_blk_ret (nx_then_ret ?_)
  refine nx_ret1 rfl rfl fun wx hm => ?_
  exact ⟨ret_int (by unfold sgV3; simp [h0]), hm.g⟩
 have h0 : ¬ (n < 0) := by simpa using hh
 clear hh
 refine sr_ (mv_ rfl ?_)
 refine wl_ov (ov_gtr rfl rfl) rfl ?_
 refine sg_ rfl (nn_ ?_)
 refine gw_cond rfl (fun hh => ?_) (fun hh => ?_)
 ·have h1 : 0 < n := by simpa using hh
  clear hh
  refine sr_ (sg_ rfl (nn_ ?_))
  refine gw_ret ?_
  refine nx_blk_ret (nx_then_ret ?_)
  refine nx_ret1 rfl rfl fun wx hm => ?_
  exact ⟨ret_int (by unfold sgV3; simp [h0, h1]), hm.g⟩
 have h1 : ¬ (0 < n) := by simpa using hh
 clear hh
 refine gw_skip (nx_blk_nrm (nx_then (sr_ (sg_ rfl (nn_ ?_)))))
 refine gw_ret ?_
 refine nx_ret1 rfl rfl fun wx hm => ?_
 exact ⟨ret_int (by unfold sgV3; simp [h0, h1]), hm.g⟩
theorem plateOrder_any (af : Int) (av ap : ByteArray) (bf : Int) (bv bp : ByteArray) (w : World) (hA : -4000000000000000000 ≤ af ∧ af ≤ 4000000000000000000) (hB : -4000000000000000000 ≤ bf ∧ bf ≤ 4000000000000000000) :
  Calls Tryz.prog 88 #[.agg #[.int .i64 af, .string av, .string ap], .agg #[.int .i64 bf, .string bv, .string bp]] w (GotE w (plOrd ⟨af, av, ap⟩ ⟨bf, bv, bp⟩)) := by
 refine gw_enter ⟨27, w, none, []⟩ Tryz.func88 rfl Tryz.ntmps88 rfl (mem0 (X := []) allF_nil allL_nil) ?_
 refine sr_ ?_
 refine wl_box rfl rfl rfl fun g1 => ?_
 refine wl_box rfl rfl rfl fun g2 => ?_
 refine sg_ rfl (nn_ (gw_seq (sr_ (fd_ fo143_0 rfl rfl (lk_ sc3 1 rfl rfl rfl (fd_ fo143_0 rfl rfl (lk_ sc3 0 rfl rfl rfl (wl_ov (ov_neq rfl rfl) rfl (nn_ ?_)))))))))
 refine gw_cond rfl (fun hh => ?_) (fun hh => ?_)
 ·have h1 : ¬ (af = bf) := by simpa using hh
  clear hh
  refine sr_ ?_
  have h2 : ¬ af = bf := by simpa using h1
  have hs1 : -9223372036854775808 ≤ af - bf := by omega
  have hs2 : af - bf ≤ 9223372036854775807 := by omega
  refine fd_ fo143_0 rfl rfl (lk_ sc3 1 rfl rfl rfl (fd_ fo143_0 rfl rfl (lk_ sc3 0 rfl rfl rfl ?_)))
  refine wl_ov (ov_sub rfl rfl hs1 hs2) rfl ?_
  refine wl_callv rfl cb168 rfl rfl (fun wx hm => (sign3_any _ wx)) ?_
  refine sg_ rfl (nn_ ?_)
  refine gw_ret ?_
  refine nx_then_ret ?_
  refine nx_ret1 rfl rfl fun wx hm => ?_
  exact ⟨ret_int (ord_fr (a := ⟨af, av, ap⟩) (b := ⟨bf, bv, bp⟩) h2), hm.g⟩
 have h1 : af = bf := by simpa using hh
 clear hh
 refine gw_skip (nx_then (sr_ (fd_ fo143_1 rfl rfl (lk_ sc9 1 rfl rfl rfl (fd_ fo143_2 rfl rfl (lk_ sc9 1 rfl rfl rfl ?_))))))
 refine wl_buildSlice (e := 9) (cs := [.string av, .string ap]) rfl (by kernel_rfl) rfl fun g3 => ?_
 refine fd_ fo143_1 rfl rfl (lk_ sc9 1 rfl rfl rfl (fd_ fo143_2 rfl rfl (lk_ sc9 1 rfl rfl rfl ?_)))
 refine wl_buildSlice (e := 9) (cs := [.string bv, .string bp]) rfl (by kernel_rfl) rfl fun g4 => ?_
 refine wl_callv rfl cb169 rfl rfl (fun wx hm => (compare2_any g3 g4 av ap bv bp wx (hm.blkI 1 rfl) (hm.blkI 0 rfl))) ?_
 refine sg_ rfl (nn_ ?_)
 refine gw_ret ?_
 refine nx_ret1 rfl rfl fun wx hm => ?_
 exact ⟨ret_int (ord_eq (a := ⟨af, av, ap⟩) (b := ⟨bf, bv, bp⟩) (by simpa using h1)), hm.g⟩
theorem or_three (g : Nat) (a b c : Int) (w : World) (h : Blk w g 3 [.int .i64 a, .int .i64 b, .int .i64 c]) :
  Calls Tryz.prog 158 #[.slice (some ⟨g, 0, none⟩) 3 3] w (GotE w (firstE [a, b, c])) := by
 refine gw_enter ⟨18, w, none, []⟩ Tryz.func158 rfl Tryz.ntmps158 rfl (mem0 (X := [BlkOld w.heap.size none g 3 [.int .i64 a, .int .i64 b, .int .i64 c]]) (allF_cons h.old allF_nil) (allL_cons BlkOld.lasts allL_nil)) ?_
 refine sr_ (sg_ rfl (nn_ (sr_ (sg_ rfl (nn_ (gw_seq (sr_ (mv_ rfl ?_))))))))
 refine wl_ov (ov_len es22 rfl) rfl ?_
 refine wl_set 7 (v' := .int .i64 3) rfl rfl ?_
 refine mv_ rfl (nn_ (gw_block ?_))
 refine gw_rounds 4 ?_
 refine gr_next ?_
 refine sr_ (wl_ov (ov_lss rfl rfl) rfl ?_)
 refine wl_set 9 (v' := .bool true) rfl (congrArg Value.bool (by decide)) ?_
 refine nn_ (gw_seq (ct_ rfl (gw_skip (nx_then (gw_seq (gw_block (sr_ ?_)))))))
 refine wl_ov (ov_index (j := 0) es22 rfl rfl (by decide)) rfl ?_
 refine wl_ov (ov_load (v := .int .i64 a) sc3 rfl (fun _ hm => (hm.fact 0 rfl).2) rfl) rfl ?_
 refine sg_ rfl (nn_ (sr_ (mv_ rfl (mv_ rfl (wl_ov (ov_neq rfl rfl) rfl (nn_ ?_))))))
 refine gw_cond rfl (fun hh => ?_) (fun hh => ?_)
 ·have h1 : ¬ (a = 0) := by simpa using hh
  clear hh
  refine sr_ (mv_ rfl (sg_ rfl (nn_ ?_)))
  refine gw_ret ?_
  refine nx_blk_ret (nx_then_ret (nx_then_ret (nx_blk_ret (nx_then_ret ?_))))
  refine nx_ret1 rfl rfl fun wx hm => ?_
  exact ⟨ret_int (by simp [firstE, h1]), hm.g⟩
 have h1 : a = 0 := by simpa using hh
 clear hh
 refine gw_skip (nx_blk_nrm (nx_then (gw_region (ad_ rfl rfl ?_))))
 refine wl_set 16 (v' := .int .i64 1) rfl rfl ?_
 refine mv_ rfl (wl_nil ?_)
 refine nx_next ?_
 refine gr_next ?_
 refine sr_ (wl_ov (ov_lss rfl rfl) rfl ?_)
 refine wl_set 9 (v' := .bool true) rfl (congrArg Value.bool (by decide)) ?_
 refine nn_ (gw_seq (ct_ rfl (gw_skip (nx_then (gw_seq (gw_block (sr_ ?_)))))))
 refine wl_ov (ov_index (j := 1) es22 rfl rfl (by decide)) rfl ?_
 refine wl_ov (ov_load (v := .int .i64 b) sc3 rfl (fun _ hm => (hm.fact 0 rfl).2) rfl) rfl ?_
 refine sg_ rfl (nn_ (sr_ (mv_ rfl (mv_ rfl (wl_ov (ov_neq rfl rfl) rfl (nn_ ?_))))))
 refine gw_cond rfl (fun hh => ?_) (fun hh => ?_)
 ·have h2 : ¬ (b = 0) := by simpa using hh
  clear hh
  refine sr_ (mv_ rfl (sg_ rfl (nn_ ?_)))
  refine gw_ret ?_
  refine nx_blk_ret (nx_then_ret (nx_then_ret (nx_blk_ret (nx_then_ret ?_))))
  refine nx_ret1 rfl rfl fun wx hm => ?_
  exact ⟨ret_int (by simp [firstE, h1, h2]), hm.g⟩
 have h2 : b = 0 := by simpa using hh
 clear hh
 refine gw_skip (nx_blk_nrm (nx_then (gw_region (ad_ rfl rfl ?_))))
 refine wl_set 16 (v' := .int .i64 2) rfl rfl ?_
 refine mv_ rfl (wl_nil ?_)
 refine nx_next ?_
 refine gr_next ?_
 refine sr_ (wl_ov (ov_lss rfl rfl) rfl ?_)
 refine wl_set 9 (v' := .bool true) rfl (congrArg Value.bool (by decide)) ?_
 refine nn_ (gw_seq (ct_ rfl (gw_skip (nx_then (gw_seq (gw_block (sr_ ?_)))))))
 refine wl_ov (ov_index (j := 2) es22 rfl rfl (by decide)) rfl ?_
 refine wl_ov (ov_load (v := .int .i64 c) sc3 rfl (fun _ hm => (hm.fact 0 rfl).2) rfl) rfl ?_
 refine sg_ rfl (nn_ (sr_ (mv_ rfl (mv_ rfl (wl_ov (ov_neq rfl rfl) rfl (nn_ ?_))))))
 refine gw_cond rfl (fun hh => ?_) (fun hh => ?_)
 ·have h3 : ¬ (c = 0) := by simpa using hh
  clear hh
  refine sr_ (mv_ rfl (sg_ rfl (nn_ ?_)))
  refine gw_ret ?_
  refine nx_blk_ret (nx_then_ret (nx_then_ret (nx_blk_ret (nx_then_ret ?_))))
  refine nx_ret1 rfl rfl fun wx hm => ?_
  exact ⟨ret_int (by simp [firstE, h1, h2, h3]), hm.g⟩
 have h3 : c = 0 := by simpa using hh
 clear hh
 refine gw_skip (nx_blk_nrm (nx_then (gw_region (ad_ rfl rfl ?_))))
 refine wl_set 16 (v' := .int .i64 3) rfl rfl ?_
 refine mv_ rfl (wl_nil ?_)
 refine nx_next ?_
 refine gr_next ?_
 refine sr_ (wl_ov (ov_lss rfl rfl) rfl ?_)
 refine wl_set 9 (v' := .bool false) rfl (congrArg Value.bool (by decide)) ?_
 refine nn_ (gw_seq (cf_ rfl ?_))
 refine gw_exit ?_
 refine nx_then_exit (nx_then_exit ?_)
 refine nx_blk_here ?_
 refine nx_then (sr_ (mv_ rfl (sg_ rfl (nn_ ?_))))
 refine gw_ret ?_
 refine nx_ret1 rfl rfl fun wx hm => ?_
 exact ⟨ret_int (by simp [firstE, h1, h2, h3]), hm.g⟩
end Go.Proofs.YtjecbkgjabnmoaaGreatDoor
namespace Go.Proofs.YtjecbkgjabnmoaaGreatDoor
open Go.RowKit
/-- A station as cells: a key and fourteen numbers. -/
def stCells (key : ByteArray) (hs : List Int) : List Value := .string key :: hs.map (Value.int .i64)
theorem st_one (key : ByteArray) (hs : List Int) : ∀ v ∈ stCells key hs, v.oneCell' = true := by
  intro v hv
  simp only [stCells, List.mem_cons] at hv
  rcases hv with rfl | hv
  · rfl
  · exact ints_one _ v hv
theorem info_st : (Tryz.prog.info? 140).map (·.size) = some 15 := by kernel_rfl
theorem info_win : (Tryz.prog.info? 53).map (·.size) = some 2 := by kernel_rfl
theorem st_len (key : ByteArray) (hs : List Int) (h : hs.length = 14) : (stCells key hs).length = 15 := by simp [stCells, h]
theorem info_hours : (Tryz.prog.info? 138).map (·.size) = some 14 := by kernel_rfl
end Go.Proofs.YtjecbkgjabnmoaaGreatDoor
namespace Go.Proofs.YtjecbkgjabnmoaaGreatDoor
open Go.RowKit
def stEnc (s : St) : List Value := stCells s.key s.hs
def StOk (s : St) : Prop := s.hs.length = 14 ∧ s.key.size ≤ 1000000 ∧ ∀ h ∈ s.hs, -9223372036854775808 ≤ h ∧ h ≤ 9223372036854775807
theorem hrs_pair (hs : List Int) (j : Nat) (h : j * 2 + 1 < hs.length) : ((hs.map (Value.int .i64)).drop (j * 2)).take 2 = [.int .i64 (frAt hs j), .int .i64 (toAt hs j)] := by
  have h0 : j * 2 < (hs.map (Value.int .i64)).length := by simp; omega
  have h1 : j * 2 + 1 < (hs.map (Value.int .i64)).length := by simp; omega
  rw [List.drop_eq_getElem_cons h0, List.drop_eq_getElem_cons h1]
  simp [frAt, toAt, List.getD_eq_getElem?_getD, List.getElem?_eq_getElem (show j * 2 < hs.length by omega), List.getElem?_eq_getElem h]
set_option maxRecDepth 100000 in
set_option maxHeartbeats 1000000 in
theorem checkStations_any (l : List St) (A : Option Addr) (n c : Nat) (w : World) (hl : SlT stEnc 15 140 w A n l) (hok : ∀ s ∈ l, StOk s) (hn : n ≤ 1000000) :
    Calls Tryz.prog 95 #[.slice A n c] w fun e w' => e = .returned (.int .i64 (stationsE l)) ∧ w.grownBy w' none := by
  by_cases h50 : 50 < n
  · have hsp : stationsE l = 2 := by simp [stationsE, hl.len, h50]
    have Hsp := Lib.hid hsp; clear hsp
    go_enter Tryz.func95, Tryz.ntmps95
    go_wp2_with fail
    go_ret
    exact ⟨by rw [Hsp.out]; rfl, World.grownBy.refl _ _⟩
  · have hsp : stationsE l = scanE stationE (prevOf l 0) (l.drop 0) := by simp [stationsE, hl.len, h50, prevOf]
    have Hsp := Lib.hid hsp; clear hsp
    have hd : decide ((50 : Int) < (n : Int)) = false := by simp; omega
    go_enter Tryz.func95, Tryz.ntmps95
    go_wp2_with fail
    go_loopw [12] (fun i wr => ∃ k : Nat, k ≤ n ∧ i = .int .i64 k ∧ stationsE l = scanE stationE (prevOf l k) (l.drop k) ∧ w.grownBy wr none) (fun i _ => n - (intOf i).toNat)
    case atStart => exact ⟨0, Nat.zero_le _, rfl, Hsp.out, World.grownBy.refl _ _⟩
    case round =>
      obtain ⟨k, hk, rfl, hE, hgr⟩ := hrel
      have HE := Lib.hid hE; clear hE
      by_cases hlt : k < n
      · have hlr := hl.grow0 hgr
        obtain ⟨b, off, rfl, hbl, hrg⟩ := hlr.get (by omega)
        obtain ⟨x, hx⟩ : ∃ x, l[k]? = some x := ⟨_, List.getElem?_eq_getElem (by have := hl.len; omega)⟩
        have hxo := hok x (List.mem_of_getElem? hx)
        have hrx := hrg k x hx
        have hat := scanE_at stationE l k x hx
        have Hat := Lib.hid hat; clear hat
        have Hrg := Lib.hid hrg; clear hrg
        obtain ⟨key, hs⟩ := x
        have hrx : wr.rangeAt b (off + k * 15) (stCells key hs) := hrx
        have hl14 := Lib.hid (show hs.length = 14 from hxo.1)
        have hks : key.size ≤ 1000000 := hxo.2.1
        have hhb : ∀ h ∈ hs, -9223372036854775808 ≤ h ∧ h ≤ 9223372036854775807 := hxo.2.2
        have hln := fun (_ : True) => (st_len key hs hl14.out)
        have hst : (Tryz.prog.info? 140).map (·.size) = some (stCells key hs).length := by rw [hln trivial]; exact info_st
        have Hst := Lib.hid hst; clear hst hxo hln
        have hnew : Blk (wr.alloc (.cells #[.string ⟨#[]⟩, .int .i64 0, .int .i64 0, .int .i64 0, .int .i64 0, .int .i64 0, .int .i64 0, .int .i64 0, .int .i64 0, .int .i64 0, .int .i64 0, .int .i64 0, .int .i64 0, .int .i64 0, .int .i64 0] 140)) wr.heap.size 140 (stCells (⟨#[]⟩ : ByteArray) (List.replicate 14 0)) := Blk.at_ wr rfl _ _
        go_wp2_with (first
          | (with_reducible refine wpList_load_mid rfl 140 (.tmp 15) rfl b (off + k * 15) rfl (stCells key hs) _ hrx Tryz.underlying140 rfl Hst.out ?_)
          | (with_reducible refine wpList_store_all rfl 140 (.tmp 4) (.tmp 16) rfl wr.heap.size _ _ (stCells key hs) hnew rfl rfl 15 info_st (st_len _ _ hl14.out) (st_len _ _ (by simp)) (st_one _ _) ?_
             intro w1 hb1 hg1
             have hk1 : w1.cell? ⟨wr.heap.size, 0, none⟩ = some (.string key) := hb1.cell_of rfl))
        refine (isKey_any key _ (by omega)).mono ?_
        rintro e w2 ⟨rfl, rfl⟩
        have hgr1 : w.grownBy w1 none := grow_own (grow_alloc hgr _) hg1 (by simpa using hgr.size)
        have hgw : wr.grownBy w1 none := grow_own (grow_alloc (World.grownBy.refl _ _) _) hg1 (by simp)
        clear hrx hnew hg1
        by_cases hkey : keyB key = false
        · have h5 : stationE (prevOf l k) ⟨key, hs⟩ = 5 := by simp [stationE, hkey]
          have H5 := Lib.hid h5; clear h5
          go_wp2_with fail
          go_ret
          exact ⟨by rw [HE.out, Hat.out, if_neg (by rw [H5.out]; decide), H5.out]; rfl, hgr1⟩
        · have hkey : keyB key = true := by simpa using hkey
          obtain ⟨o8, ho8⟩ : ∃ o, o = prevB (prevOf l k) (fun q => leB key q.key) := ⟨_, rfl⟩
          have Ho8 := Lib.hid ho8; clear ho8
          go_upto_region 8 with fail
          go_cut [22] (fun v wx => v = .bool o8 ∧ ∃ nq, wx = w1.drewN nq)
          case first =>
            by_cases hk0 : k = 0
            · have hz : decide ((0 : Int) < (k : Int)) = false := by simp; omega
              have hz2 : decide (0 < k) = false := by simp; omega
              have ho : o8 = false := by rw [Ho8.out]; simp [prevB, prevOf, hk0]
              have Ho := Lib.hid ho
              clear ho hk0
              go_quiet (fail)
              go_wp2_with fail
              go_meet
              exact ⟨by rw [Ho.out], _, rfl⟩
            · have hz : (0 : Int) < (k : Int) := by omega
              have hz2 : decide (0 < k) = true := decide_eq_true (by omega)
              obtain ⟨q, hq⟩ : ∃ q, l[k - 1]? = some q := ⟨_, List.getElem?_eq_getElem (by have := hl.len; omega)⟩
              have hrq := Hrg.out (k - 1) q hq
              have ho : o8 = leB key q.key := by rw [Ho8.out]; simp [prevB, prevOf, hk0, hq]
              have Ho := Lib.hid ho
              have hqk : wr.cell? ⟨b, off + (k - 1) * 15, none⟩ = some (.string q.key) := hrq 0 _ rfl
              have hki : (k : Int) - 1 = ((k - 1 : Nat) : Int) := by omega
              have hk1n : (k : Int) - 1 < (n : Int) := by omega
              have hqk1 : w1.cell? ⟨b, off + (k - 1) * 15, none⟩ = some (.string q.key) := (World.cell?_of_block (hgw.block b hbl (by simp))).trans hqk
              clear ho hk0 hq hrq
              go_quiet (fail)
              go_wp2_with fail
              go_meet
              exact ⟨by rw [Ho.out]; rfl, _, rfl⟩
          case rest =>
            obtain ⟨rfl, nq, rfl⟩ := hcut
            have hb2 : Blk (w1.drewN nq) wr.heap.size 140 (stCells key hs) := hb1.drewN nq
            have hgr2 : w.grownBy (w1.drewN nq) none := grow_drewN hgr1 nq
            clear hb1 hgr1 hgw
            obtain ⟨w2, hw2⟩ : ∃ w2, w2 = w1.drewN nq := ⟨_, rfl⟩
            rw [← hw2] at hb2 hgr2 ⊢
            clear hw2
            cases o8
            · have hE1 : stationE (prevOf l k) ⟨key, hs⟩ = if hoursBad hs then 1 else 0 := by
                have ho := Ho8.out
                unfold stationE
                rw [if_neg (by simp [hkey]), show prevB (prevOf l k) (fun q => leB (⟨key, hs⟩ : St).key q.key) = _ from ho.symm]
                rfl
              have HE1 := Lib.hid hE1; clear hE1
              have hvv : ∀ j v, (hs.map (Value.int .i64))[j]? = some v → (stCells key hs)[1 + j]? = some v := fun j v hv => by rw [Nat.add_comm]; exact hv
              have Hvv := Lib.hid hvv; clear hvv
              go_wp2_with (with_reducible refine wpList_load_blk rfl 138 (.tmp 36) rfl wr.heap.size 1 _ (stCells key hs) (hs.map (Value.int .i64)) _ hb2 rfl Tryz.underlying138 rfl 14 info_hours (by simpa using hl14.out) Hvv.out ?_)
              obtain ⟨wo, hwo⟩ : ∃ wo : World, wo = wr := ⟨_, rfl⟩
              rw [← hwo] at hb2 ⊢
              clear hwo
              go_loopw [38] (fun i wr => ∃ j : Nat, j ≤ 7 ∧ i = .int .i64 j ∧ (∀ t, t < j → winBad (frAt hs t) (toAt hs t) = false) ∧ w.grownBy wr none) (fun i _ => 7 - (intOf i).toNat)
              case atStart => exact ⟨0, by omega, rfl, fun t ht => absurd ht (by omega), hgr2⟩
              case round =>
                obtain ⟨j, hj, rfl, hJ, hgj⟩ := hrel
                have HJ := Lib.hid hJ; clear hJ
                by_cases hj7 : j < 7
                · have hvs : ((hs.map (Value.int .i64)).drop (j * 2)).take 2 = [.int .i64 (frAt hs j), .int .i64 (toAt hs j)] := hrs_pair hs j (by have := hl14.out; omega)
                  have Hvs := Lib.hid hvs; clear hvs
                  obtain ⟨f, hf⟩ : ∃ f, f = frAt hs j := ⟨_, rfl⟩
                  obtain ⟨t, ht⟩ : ∃ t, t = toAt hs j := ⟨_, rfl⟩
                  rw [← hf, ← ht] at Hvs
                  have Hf := Lib.hid hf
                  have Ht := Lib.hid ht
                  clear hf ht
                  go_wp2_with (with_reducible refine wpList_index_row rfl 138 (.tmp 37) (.tmp 38) rfl (hs.map (Value.int .i64)) j rfl rfl 7 _ Tryz.underlying138 _ Tryz.underlying53 rfl 2 info_win hj7 [.int .i64 f, .int .i64 t] Hvs.out ?_)
                  refine (in_any _ _ _ _).mono ?_
                  rintro e w3 ⟨rfl, rfl⟩
                  obtain ⟨x, hx⟩ : ∃ x, inB f 0 t = x := ⟨_, rfl⟩
                  rw [hx]
                  have Hx := Lib.hid hx; clear hx
                  by_cases hbad : winBad f t = true
                  · have hany : hoursBad hs = true := by
                      simp only [hoursBad, List.any_eq_true, List.mem_range]
                      exact ⟨j, hj7, by rw [← Hf.out, ← Ht.out]; exact hbad⟩
                    have Hfin := Lib.hid (show stationE (prevOf l k) ⟨key, hs⟩ = 1 by rw [HE1.out, if_pos hany])
                    have Hb := Lib.hid hbad
                    clear hany hbad
                    cases x
                    · go_wp2_with fail
                      go_ret
                      exact ⟨by rw [HE.out, Hat.out, if_neg (by rw [Hfin.out]; decide), Hfin.out]; rfl, grow_alloc hgj _⟩
                    · have h14 : (1440 : Int) < t := by have := Hb.out; simp [winBad, Hx.out] at this; exact this
                      go_wp2_with fail
                      go_ret
                      exact ⟨by rw [HE.out, Hat.out, if_neg (by rw [Hfin.out]; decide), Hfin.out]; rfl, grow_alloc hgj _⟩
                  · have hx1 : x = true := by have := Hx.out; simp only [winBad, this] at hbad; cases x <;> simp_all
                    have h14 : ¬ (1440 : Int) < t := by intro h; apply hbad; simp [winBad, h]
                    have Hb := Lib.hid (show winBad f t = false by simpa using hbad)
                    subst hx1
                    clear hbad
                    go_wp2_with fail
                    go_roundw
                    case rel => exact ⟨j + 1, by omega, by go_num, fun i hi => by
                      rcases Nat.lt_or_ge i j with h | h
                      · exact HJ.out i h
                      · obtain rfl : i = j := by omega
                        rw [← Hf.out, ← Ht.out]; exact Hb.out, grow_alloc hgj _⟩
                    case measure => simp [intOf]; omega
                · have hno : hoursBad hs = false := by
                    simp only [hoursBad, List.any_eq_false, List.mem_range]
                    intro i hi
                    rw [HJ.out i (by omega)]
                    decide
                  have Hfin := Lib.hid (show stationE (prevOf l k) ⟨key, hs⟩ = 0 by rw [HE1.out, if_neg (by simp [hno])])
                  clear hno
                  go_wp2_with fail
                  go_roundw
                  case rel => exact ⟨k + 1, by omega, by go_num, by rw [HE.out, Hat.out, if_pos Hfin.out], hgj⟩
                  case measure => simp [intOf]; omega
            · have hE1 : stationE (prevOf l k) ⟨key, hs⟩ = 7 := by
                have ho := Ho8.out
                unfold stationE
                rw [if_neg (by simp [hkey]), show prevB (prevOf l k) (fun q => leB (⟨key, hs⟩ : St).key q.key) = _ from ho.symm]
                rfl
              have Hfin := Lib.hid hE1; clear hE1
              go_wp2_with fail
              go_ret
              exact ⟨by rw [HE.out, Hat.out, if_neg (by rw [Hfin.out]; decide), Hfin.out]; rfl, hgr2⟩
      · go_wp2_with fail
        go_ret
        exact ⟨by rw [HE.out, scanE_end _ _ _ _ (by have := hl.len; omega)]; rfl, hgr⟩
end Go.Proofs.YtjecbkgjabnmoaaGreatDoor
namespace Go.Proofs.YtjecbkgjabnmoaaGreatDoor
open Go.RowKit
theorem ord_last {l : List Pl} {i : Nat} {p : Pl} (hi : i < l.length) (hO : plO (l.take i) p = false) : ∀ q, l[i - 1]? = some q → ¬ i = 0 → q.fr ≤ p.fr := fun q hq h0 => by
  rw [plO_pos hi h0 hq] at hO
  exact ord_le (of_decide_eq_false hO)
theorem psort_next {l : List Pl} {i : Nat} {p : Pl} (hs : PSort (l.take i)) (hp : l[i]? = some p) (hO : plO (l.take i) p = false) : PSort (l.take (i + 1)) := by
  have hi := (List.getElem?_eq_some_iff.1 hp).1
  rw [List.take_add_one, hp]
  refine psort_snoc hs fun q hq => ?_
  rw [last_take (by omega)] at hq
  split at hq
  · cases hq
  · rename_i h0
    exact ord_last hi hO q hq h0
theorem plates_end {vs : List Vh} {l : List Pl} {i : Nat} (h : l.length ≤ i) (hh : platesE vs l = plG vs (l.take i) (l.drop i)) : platesE vs l = 0 := by
  rw [hh, List.drop_eq_nil_of_le h]; rfl
theorem checkPlates_any (vl : List Vh) (pl : List Pl) (sA cA vA pA : Option Addr) (sn sc cn cc vn vc pn pc : Nat) (w : World) (hv : SlT vhEnc 2 77 w vA vn vl) (hp : SlT plEnc 3 143 w pA pn pl) (hvn : vn ≤ 1000000) (hpn : pn ≤ 1000000) (hr : Rise vl) (hpok : ∀ x ∈ pl, PlOk x) :
  Calls Tryz.prog 99 #[.agg #[.slice sA sn sc, .slice cA cn cc, .slice vA vn vc, .slice pA pn pc]] w (GotE w (platesE vl pl)) := by
 refine gw_enter ⟨97, w, none, []⟩ Tryz.func99 rfl Tryz.ntmps99 rfl (mem0 (X := [SlOld vhEnc 2 77 w.heap.size none vA vn vl, SlOld plEnc 3 143 w.heap.size none pA pn pl]) (allF_cons hv.old (allF_cons hp.old allF_nil)) (allL_cons SlOld.lasts (allL_cons SlOld.lasts allL_nil))) ?_
 refine sr_ ?_
 have hlen := hp.len
 refine wl_box rfl rfl rfl fun g1 => ?_
 refine sg_ rfl (nn_ (gw_seq (sr_ (fd_ fo31_3 rfl rfl (lk_ sc29 0 rfl rfl rfl (wl_ov (ov_len es29 rfl) rfl ?_))))))
 refine wl_ov (ov_gtr rfl rfl) rfl ?_
 refine nn_ ?_
 refine gw_cond rfl (fun hh => ?_) (fun hh => ?_)
 ·have h1 : 1000 < ((pn : Nat) : Int) := by simpa using hh
  clear hh
  refine sr_ (sg_ rfl (nn_ ?_))
  refine gw_ret ?_
  refine nx_then_ret ?_
  refine nx_ret1 rfl rfl fun wx hm => ?_
  exact ⟨ret_int (by unfold platesE; rw [if_pos (by omega)]), hm.g⟩
 have h1 : ¬ (1000 < ((pn : Nat) : Int)) := by simpa using hh
 clear hh
 refine gw_skip (nx_then (gw_seq (sr_ (fd_ fo31_3 rfl rfl (lk_ sc29 0 rfl rfl rfl (wl_ov (ov_len es29 rfl) rfl (mv_ rfl (nn_ (gw_block ?_)))))))))
 refine gw_loop (γ := Nat) (fun (i : Nat) => i ≤ pn ∧ platesE vl pl = plG vl (pl.take i) (pl.drop i) ∧ PSort (pl.take i)) (fun (i : Nat) => [(1, .pointer (some ⟨g1, 0, none⟩)), (13, .slice pA pn pc), (14, .int .i64 ((pn : Nat) : Int)), (15, .int .i64 ((i : Nat) : Int))]) (fun (i : Nat) => fun _ => True) (fun (i : Nat) => [(g1, 31, [.slice sA sn sc, .slice cA cn cc, .slice vA vn vc, .slice pA pn pc])]) (fun (i : Nat) => []) (fun (i : Nat) => [SlOld vhEnc 2 77 w.heap.size none vA vn vl, SlOld plEnc 3 143 w.heap.size none pA pn pl]) (fun (i : Nat) => pn - i) 0 ⟨Nat.zero_le _, by unfold platesE; rw [if_neg (by omega)]; rfl, List.Pairwise.nil⟩ ⟨rfl, rfl, rfl, rfl, trivial⟩ (fun _ hm => hm.pick [0] [] [0, 1] rfl rfl) ?_
 intro i hinv
 replace hinv : i ≤ pn ∧ platesE vl pl = plG vl (pl.take i) (pl.drop i) ∧ PSort (pl.take i) := hinv
 refine sr_ ?_
 obtain ⟨hi0, hpe, hps⟩ := hinv
 refine wl_ov (ov_lss rfl rfl) rfl (nn_ (gw_seq ?_))
 refine gw_cond rfl (fun hh => ?_) (fun hh => ?_)
 ·have hi : ((i : Nat) : Int) < ((pn : Nat) : Int) := by simpa using hh
  clear hh
  refine gw_skip (nx_then (gw_seq (gw_block (sr_ ?_))))
  obtain ⟨bp, op, hA, _, _⟩ := hp.get (by omega)
  subst hA
  obtain ⟨x, hx⟩ : ∃ x, pl[i]? = some x := ⟨_, List.getElem?_eq_getElem (by omega)⟩
  obtain ⟨pf, pv, pp⟩ := x
  have hat := plG_at (vs := vl) hx
  obtain ⟨hpf, hpv, hpp⟩ := hpok _ (List.mem_of_getElem? hx)
  have hpv : pv.size ≤ 1000000 := hpv
  have hpp : pp.size ≤ 1000000 := hpp
  have hil : i < pl.length := by omega
  refine mv_ rfl ?_
  refine wl_ov (ov_index (j := i) es29 rfl rfl (by omega)) rfl ?_
  refine wl_ov (ov_elem (vs := [.int .i64 pf, .string pv, .string pp]) rz143 rfl (fun _ hm => (hm.fact 1 rfl).1) hx rfl rfl) rfl ?_
  refine wl_alloc zc143 rfl fun g2 => ?_
  refine sg_ rfl ?_
  refine wl_stores (cs' := [.int .i64 pf, .string pv, .string pp]) 0 rz143 rfl rfl rfl rfl rfl rfl rfl rfl ?_
  refine nn_ (gw_seq (gw_block (sr_ (fd_ fo143_0 rfl rfl (lk_ sc3 0 rfl rfl rfl ?_)))))
  refine wl_callv rfl cb166 rfl rfl (fun wx hm => ((isMoment_any _ wx).mono fun _ _ ⟨he, hw⟩ => ⟨he, hw ▸ World.grownBy.refl _ _⟩)) ?_
  refine wl_ov (ov_un_not rfl) rfl (sg_ rfl (nn_ ?_))
  refine gw_cond rfl (fun hh => ?_) (fun hh => ?_)
  ·have h2 : (inB pf 0 5761439) = false := by simpa using hh
   clear hh
   refine sr_ (sg_ rfl (nn_ ?_))
   refine gw_ret ?_
   refine nx_blk_ret (nx_then_ret (nx_blk_ret (nx_then_ret (nx_then_ret (nx_blk_ret (nx_then_ret ?_))))))
   have hE : plE vl (pl.take i) ⟨pf, pv, pp⟩ = 1 := plE_one (by simpa using h2)
   refine nx_ret1 rfl rfl fun wx hm => ?_
   exact ⟨ret_int (by rw [hpe, hat, if_neg (by rw [hE]; decide), hE]), hm.g⟩
  have h2 : (inB pf 0 5761439) = true := by simpa using hh
  clear hh
  refine sr_ ?_
  refine wl_ov (ov_loads rz31 rfl (fun _ hm => hm.blkI 1 rfl) rfl rfl) rfl ?_
  refine fd_ fo143_1 rfl rfl (lk_ sc9 0 rfl rfl rfl ?_)
  refine wl_callv rfl cb80 rfl rfl (fun wx hm => (vehicleAt_any vl sA cA vA (some ⟨bp, op, none⟩) sn sc cn cc vn vc pn pc pv wx (hm.fact 0 rfl).1 hvn hr)) ?_
  refine wl_ov (ov_lss rfl rfl) rfl (sg_ rfl (nn_ ?_))
  refine gw_cond rfl (fun hh => ?_) (fun hh => ?_)
  ·have h3 : ixP (vhP pv) vl 0 < 0 := by simpa using hh
   clear hh
   refine sr_ (sg_ rfl (nn_ ?_))
   refine gw_ret ?_
   refine nx_blk_ret (nx_then_ret (nx_blk_ret (nx_then_ret (nx_then_ret (nx_blk_ret (nx_then_ret ?_))))))
   have hE : plE vl (pl.take i) ⟨pf, pv, pp⟩ = 8 := plE_two (by simpa using h2) h3
   refine nx_ret1 rfl rfl fun wx hm => ?_
   exact ⟨ret_int (by rw [hpe, hat, if_neg (by rw [hE]; decide), hE]), hm.g⟩
  have h3 : ¬ (ixP (vhP pv) vl 0 < 0) := by simpa using hh
  clear hh
  refine sr_ (fd_ fo143_2 rfl rfl (lk_ sc9 0 rfl rfl rfl ?_))
  refine wl_callv rfl cb83 rfl rfl (fun wx hm => ((isPlate_any pp wx (by omega)).mono fun _ _ ⟨he, hw⟩ => ⟨he, hw ▸ World.grownBy.refl _ _⟩)) ?_
  refine wl_ov (ov_un_not rfl) rfl (sg_ rfl (nn_ ?_))
  refine gw_cond rfl (fun hh => ?_) (fun hh => ?_)
  ·have h4 : (plateB pp) = false := by simpa using hh
   clear hh
   refine sr_ (sg_ rfl (nn_ ?_))
   refine gw_ret ?_
   refine nx_blk_ret (nx_then_ret (nx_blk_ret (nx_then_ret (nx_then_ret (nx_blk_ret (nx_then_ret ?_))))))
   have hE : plE vl (pl.take i) ⟨pf, pv, pp⟩ = 3 := plE_three (by simpa using h2) h3 (by simpa using h4)
   refine nx_ret1 rfl rfl fun wx hm => ?_
   exact ⟨ret_int (by rw [hpe, hat, if_neg (by rw [hE]; decide), hE]), hm.g⟩
  have h4 : (plateB pp) = true := by simpa using hh
  clear hh
  refine gw_skip (nx_blk_nrm (nx_then ?_))
  have hfour := plE_four (vs := vl) (pre := pl.take i) (p := ⟨pf, pv, pp⟩) (by simpa using h2) h3 (by simpa using h4)
  refine gw_cut (γ := Unit) (I := (fun (uu : Unit) => plO (pl.take i) ⟨pf, pv, pp⟩ = false)) (S' := (fun (uu : Unit) => [(1, .pointer (some ⟨g1, 0, none⟩)), (3, .int .i64 ((i : Nat) : Int)), (4, .pointer (some ⟨g2, 0, none⟩)), (13, .slice (some ⟨bp, op, none⟩) pn pc), (14, .int .i64 ((pn : Nat) : Int)), (15, .int .i64 ((i : Nat) : Int))])) (K' := (fun (uu : Unit) => fun _ => True)) (L' := (fun (uu : Unit) => [(g2, 143, [.int .i64 pf, .string pv, .string pp]), (g1, 31, [.slice sA sn sc, .slice cA cn cc, .slice vA vn vc, .slice (some ⟨bp, op, none⟩) pn pc])])) (O' := (fun (uu : Unit) => [])) (X' := (fun (uu : Unit) => [SlOld vhEnc 2 77 w.heap.size none vA vn vl, SlOld plEnc 3 143 w.heap.size none (some ⟨bp, op, none⟩) pn pl])) ?_ ?_
  ·refine sr_ (mv_ rfl ?_)
   refine wl_ov (ov_gtr rfl rfl) rfl ?_
   refine nn_ ?_
   refine gw_cond rfl (fun hh => ?_) (fun hh => ?_)
   ·have h5 : 0 < ((i : Nat) : Int) := by simpa using hh
    clear hh
    refine sr_ ?_
    have hi1 : i - 1 < pn := by omega
    have h0 : ¬ i = 0 := by omega
    obtain ⟨q, hq⟩ : ∃ x, pl[i - 1]? = some x := ⟨_, List.getElem?_eq_getElem (by omega)⟩
    obtain ⟨qf, qv, qp⟩ := q
    have hO := plO_pos (p := ⟨pf, pv, pp⟩) hil h0 hq
    refine fd_ fo31_3 rfl rfl (lk_ sc29 1 rfl rfl rfl (mv_ rfl ?_))
    refine wl_ov (ov_sub rfl rfl (by omega) (by omega)) rfl ?_
    refine wl_set 41 (v' := .int .i64 (((i - 1) : Nat) : Int)) rfl (congrArg (Value.int .i64) (by omega)) ?_
    refine wl_ov (ov_index (j := (i - 1)) es29 rfl rfl (by omega)) rfl ?_
    refine wl_ov (ov_elem (vs := [.int .i64 qf, .string qv, .string qp]) rz143 rfl (fun _ hm => (hm.fact 1 rfl).1) hq rfl rfl) rfl ?_
    refine wl_alloc zc143 rfl fun g3 => ?_
    refine wl_stores (cs' := [.int .i64 qf, .string qv, .string qp]) 0 rz143 rfl rfl rfl rfl rfl rfl rfl rfl ?_
    refine nn_ (gw_seq ?_)
    refine gd (fun wz => Blk wz g3 143 [.int .i64 qf, .string qv, .string qp] ∧ Blk wz g2 143 [.int .i64 pf, .string pv, .string pp] ∧ Blk wz g1 31 [.slice sA sn sc, .slice cA cn cc, .slice vA vn vc, .slice (some ⟨bp, op, none⟩) pn pc] ∧ (SlOld vhEnc 2 77 w.heap.size none vA vn vl) wz ∧ (SlOld plEnc 3 143 w.heap.size none (some ⟨bp, op, none⟩) pn pl) wz ∧ True) mixed (fun _ hm => ⟨hm.bl 0, hm.bl 1, hm.bl 2, hm.fa 0, hm.fa 1, trivial⟩) fun z => ?_
    refine wt 0 18 1 rfl z (ov_field fo143_0 rfl rfl) ?_
    refine wt 1 18 3 rfl z (ov_load sc3 rfl (fun _ hm => hm.1) rfl) ?_
    refine wt 2 18 7 rfl z (ov_field fo143_0 rfl rfl) ?_
    refine wt 3 18 15 rfl z (ov_load sc3 rfl (fun _ hm => hm.2.1) rfl) ?_
    refine wt 5 18 47 rfl z (ov_field fo143_1 rfl rfl) ?_
    refine wt 6 18 111 rfl z (ov_load sc9 rfl (fun _ hm => hm.1) rfl) ?_
    refine wt 7 18 239 rfl z (ov_field fo143_1 rfl rfl) ?_
    refine wt 8 18 495 rfl z (ov_load sc9 rfl (fun _ hm => hm.2.1) rfl) ?_
    refine wt 10 18 1519 rfl z (ov_field fo143_2 rfl rfl) ?_
    refine wt 11 18 3567 rfl z (ov_load sc9 rfl (fun _ hm => hm.1) rfl) ?_
    refine wt 12 18 7663 rfl z (ov_field fo143_2 rfl rfl) ?_
    refine wt 13 18 15855 rfl z (ov_load sc9 rfl (fun _ hm => hm.2.1) rfl) ?_
    refine wa1 4 rfl ?_
    refine wl_callv rfl cb125 rfl rfl (fun wx hm => (cmp_int _ _ wx)) ?_
    refine wl_nil ?_
    refine nw 18 15871 (fun _ hm => ⟨hm.bl 0, hm.bl 1, hm.bl 2, hm.fa 0, hm.fa 1, trivial⟩) fun z => ?_
    refine wa1 9 rfl ?_
    refine wl_callv rfl cb159 rfl rfl (fun wx hm => (cmp_string _ _ wx)) ?_
    refine wl_nil ?_
    refine nw 18 16383 (fun _ hm => ⟨hm.bl 0, hm.bl 1, hm.bl 2, hm.fa 0, hm.fa 1, trivial⟩) fun z => ?_
    refine wa1 14 rfl ?_
    refine wl_callv rfl cb159 rfl rfl (fun wx hm => (cmp_string _ _ wx)) ?_
    refine wl_nil ?_
    refine nw 18 32767 (fun _ hm => ⟨hm.bl 0, hm.bl 1, hm.bl 2, hm.fa 0, hm.fa 1, trivial⟩) fun z => ?_
    refine wa1 15 rfl ?_
    refine wl_buildSlice (e := 3) (cs := [.int .i64 (cmpI qf pf), .int .i64 (cmpS qv pv), .int .i64 (cmpS qp pp)]) rfl (by kernel_rfl) rfl fun g4 => ?_
    refine wl_nil ?_
    refine nw 18 65535 (fun _ hm => ⟨hm.bl 1, hm.bl 2, hm.bl 3, hm.fa 0, hm.fa 1, trivial⟩) fun z => ?_
    refine wa1 16 rfl ?_
    refine wl_callv rfl cb158 rfl rfl (fun wx hm => (or_three g4 _ _ _ wx (hm.blkI 0 rfl))) ?_
    refine wl_nil ?_
    refine nw 18 131071 (fun _ hm => ⟨hm.bl 1, hm.bl 2, hm.bl 3, hm.fa 0, hm.fa 1, trivial⟩) fun z => ?_
    refine wt 17 18 262143 rfl z (ov_geq rfl rfl) ?_
    refine wa_done (by kernel_rfl) ?_
    refine nx_then ?_
    refine gw_cond rfl (fun hh => ?_) (fun hh => ?_)
    ·have h6 : 0 ≤ firstE [cmpI qf pf, cmpS qv pv, cmpS qp pp] := by simpa using hh
     clear hh
     refine sr_ ?_
     have hO2 : plO (pl.take i) ⟨pf, pv, pp⟩ = true := by rw [hO]; exact decide_eq_true h6
     refine sg_ rfl (nn_ ?_)
     refine gw_ret ?_
     refine nx_then_ret (nx_blk_ret (nx_then_ret (nx_then_ret (nx_blk_ret (nx_then_ret ?_)))))
     have hE : plE vl (pl.take i) ⟨pf, pv, pp⟩ = 7 := by rw [hfour, if_pos hO2]
     refine nx_ret1 rfl rfl fun wx hm => ?_
     exact ⟨ret_int (by rw [hpe, hat, if_neg (by rw [hE]; decide), hE]), hm.g⟩
    have h6 : ¬ (0 ≤ firstE [cmpI qf pf, cmpS qv pv, cmpS qp pp]) := by simpa using hh
    clear hh
    refine gw_skip ?_
    have hO2 : plO (pl.take i) ⟨pf, pv, pp⟩ = false := by rw [hO]; exact decide_eq_false h6
    exact nx_meet () hO2 ⟨rfl, rfl, rfl, rfl, rfl, rfl, trivial⟩ (fun _ hm => hm.pick [2, 3] [] [0, 1] rfl rfl)
   have h5 : ¬ (0 < ((i : Nat) : Int)) := by simpa using hh
   clear hh
   refine gw_skip ?_
   obtain rfl : i = 0 := by omega
   exact nx_meet () plO_zero ⟨rfl, rfl, rfl, rfl, rfl, rfl, trivial⟩ (fun _ hm => hm.pick [0, 1] [] [0, 1] rfl rfl)
  intro uu hinv
  replace hinv : plO (pl.take i) ⟨pf, pv, pp⟩ = false := hinv
  refine sr_ ?_
  have hO : plO (pl.take i) ⟨pf, pv, pp⟩ = false := hinv
  have hlast := ord_last hil hO
  refine mv_ rfl ?_
  refine wl_ov (ov_sub rfl rfl (by omega) (by omega)) rfl ?_
  refine sg_ rfl (nn_ (gw_block ?_))
  refine gw_loop (γ := Nat) (fun (j : Nat) => j ≤ i ∧ ∀ t, j ≤ t → t < i → ∀ x, pl[t]? = some x → plTwin ⟨pf, pv, pp⟩ x = false) (fun (j : Nat) => [(1, .pointer (some ⟨g1, 0, none⟩)), (4, .pointer (some ⟨g2, 0, none⟩)), (6, .int .i64 (((j : Nat) : Int) - 1)), (13, .slice (some ⟨bp, op, none⟩) pn pc), (14, .int .i64 ((pn : Nat) : Int)), (15, .int .i64 ((i : Nat) : Int))]) (fun (j : Nat) => fun _ => True) (fun (j : Nat) => [(g2, 143, [.int .i64 pf, .string pv, .string pp]), (g1, 31, [.slice sA sn sc, .slice cA cn cc, .slice vA vn vc, .slice (some ⟨bp, op, none⟩) pn pc])]) (fun (j : Nat) => []) (fun (j : Nat) => [SlOld vhEnc 2 77 w.heap.size none vA vn vl, SlOld plEnc 3 143 w.heap.size none (some ⟨bp, op, none⟩) pn pl]) (fun (j : Nat) => j) i ⟨Nat.le_refl _, fun t h1 h2 => by omega⟩ ⟨rfl, rfl, rfl, rfl, rfl, rfl, trivial⟩ (fun _ hm => hm.pick [0, 1] [] [0, 1] rfl rfl) ?_
  intro j hinv
  replace hinv : j ≤ i ∧ ∀ t, j ≤ t → t < i → ∀ x, pl[t]? = some x → plTwin ⟨pf, pv, pp⟩ x = false := hinv
  refine gw_seq (gw_seq ?_)
  obtain ⟨hji, hno⟩ := hinv
  rcases j with _ | j
  ·refine gd (fun wz => Blk wz g2 143 [.int .i64 pf, .string pv, .string pp] ∧ Blk wz g1 31 [.slice sA sn sc, .slice cA cn cc, .slice vA vn vc, .slice (some ⟨bp, op, none⟩) pn pc] ∧ (SlOld vhEnc 2 77 w.heap.size none vA vn vl) wz ∧ (SlOld plEnc 3 143 w.heap.size none (some ⟨bp, op, none⟩) pn pl) wz ∧ True) mixed (fun _ hm => ⟨hm.bl 0, hm.bl 1, hm.fa 0, hm.fa 1, trivial⟩) fun z => ?_
   refine wt 0 13 1 rfl z (ov_move rfl) ?_
   refine wa_set 64 (v' := .int .i64 (-1)) rfl rfl ?_
   refine wt 1 13 3 rfl z (ov_geq rfl rfl) ?_
   refine wa_set 65 (v' := .bool false) rfl (congrArg Value.bool (by decide)) ?_
   refine wt 2 13 7 rfl z (ov_move rfl) ?_
   refine wtf 3 13 15 rfl rfl rfl z ?_
   refine wtf 4 13 31 rfl rfl rfl z ?_
   refine wtf 5 13 63 rfl rfl rfl z ?_
   refine wtf 6 13 127 rfl rfl rfl z ?_
   refine wtf 7 13 255 rfl rfl rfl z ?_
   refine wtf 8 13 511 rfl rfl rfl z ?_
   refine wtf 9 13 1023 rfl rfl rfl z ?_
   refine wtf 10 13 2047 rfl rfl rfl z ?_
   refine wtf 11 13 4095 rfl rfl rfl z ?_
   refine wt 12 13 8191 rfl z (ov_pick_f rfl rfl) ?_
   refine wa_done (by kernel_rfl) ?_
   refine nx_then (cf_ rfl ?_)
   refine gw_exit ?_
   refine nx_then_exit (nx_then_exit ?_)
   refine nx_blk_here ?_
   refine nx_blk_nrm (nx_then (gw_region (ad_ rfl rfl (mv_ rfl (wl_nil ?_)))))
   have hany := twin_none (p := ⟨pf, pv, pp⟩) hps (by omega) (by omega) hlast hno (.inl rfl)
   have hE : plE vl (pl.take i) ⟨pf, pv, pp⟩ = 0 := by rw [hfour, if_neg (by rw [hO]; decide), if_neg (by rw [hany]; decide)]
   exact nx_round (i + 1) ⟨by omega, by rw [hpe, hat, if_pos hE], psort_next hps hx hO⟩ (by omega) ⟨rfl, rfl, rfl, (some_int (by omega)), trivial⟩ (fun _ hm => hm.pick [1] [] [0, 1] rfl rfl)
  obtain ⟨tx, ht⟩ : ∃ x, pl[j]? = some x := ⟨_, List.getElem?_eq_getElem (by omega)⟩
  obtain ⟨tf, tv, tp⟩ := tx
  refine gd (fun wz => Blk wz g2 143 [.int .i64 pf, .string pv, .string pp] ∧ Blk wz g1 31 [.slice sA sn sc, .slice cA cn cc, .slice vA vn vc, .slice (some ⟨bp, op, none⟩) pn pc] ∧ (SlOld vhEnc 2 77 w.heap.size none vA vn vl) wz ∧ (SlOld plEnc 3 143 w.heap.size none (some ⟨bp, op, none⟩) pn pl) wz ∧ True) mixed (fun _ hm => ⟨hm.bl 0, hm.bl 1, hm.fa 0, hm.fa 1, trivial⟩) fun z => ?_
  refine wt 0 13 1 rfl z (ov_move rfl) ?_
  refine wa_set 64 (v' := .int .i64 ((j : Nat) : Int)) rfl (congrArg (Value.int .i64) (by omega)) ?_
  refine wt 1 13 3 rfl z (ov_geq rfl rfl) ?_
  refine wa_set 65 (v' := .bool true) rfl (congrArg Value.bool (decide_eq_true (by omega))) ?_
  refine wt 2 13 7 rfl z (ov_move rfl) ?_
  refine wto 3 13 15 rfl rfl rfl z (ov_field fo31_3 rfl rfl) ?_
  refine wto 4 13 31 rfl rfl rfl z (ov_load sc29 rfl (fun _ hm => hm.2.1) rfl) ?_
  refine wto 5 13 63 rfl rfl rfl z (ov_move rfl) ?_
  refine wa_set 69 (v' := .int .i64 ((j : Nat) : Int)) rfl (congrArg (Value.int .i64) (by omega)) ?_
  refine wto 6 13 127 rfl rfl rfl z (ov_index (j := j) es29 rfl rfl (by omega)) ?_
  refine wto 7 13 255 rfl rfl rfl z (ov_field fo143_0 rfl rfl) ?_
  refine wto 8 13 511 rfl rfl rfl z (ov_elem1 (k := 0) (v := .int .i64 tf) sc3 rfl (fun _ hm => (hm.2.2.2.1).1) ht rfl rfl) ?_
  refine wto 9 13 1023 rfl rfl rfl z (ov_field fo143_0 rfl rfl) ?_
  refine wto 10 13 2047 rfl rfl rfl z (ov_load sc3 rfl (fun _ hm => hm.1) rfl) ?_
  refine wto 11 13 4095 rfl rfl rfl z (ov_eql rfl rfl) ?_
  refine wt 12 13 8191 rfl z (ov_pick_t rfl rfl) ?_
  refine wa_done (by kernel_rfl) ?_
  refine nx_then ?_
  refine gw_cond rfl (fun hh => ?_) (fun hh => ?_)
  ·have h7 : tf = pf := by simpa using hh
   clear hh
   refine gw_skip (nx_then (gw_seq (gw_block (sr_ (fd_ fo31_3 rfl rfl (lk_ sc29 1 rfl rfl rfl (mv_ rfl ?_)))))))
   refine wl_set 81 (v' := .int .i64 ((j : Nat) : Int)) rfl (congrArg (Value.int .i64) (by omega)) ?_
   refine wl_ov (ov_index (j := j) es29 rfl rfl (by omega)) rfl ?_
   refine wl_ov (ov_elem (vs := [.int .i64 tf, .string tv, .string tp]) rz143 rfl (fun _ hm => (hm.fact 1 rfl).1) ht rfl rfl) rfl ?_
   refine wl_alloc zc143 rfl fun g5 => ?_
   refine wl_stores (cs' := [.int .i64 tf, .string tv, .string tp]) 0 rz143 rfl rfl rfl rfl rfl rfl rfl rfl ?_
   refine nn_ (sr_ (fd_ fo143_1 rfl rfl (lk_ sc9 0 rfl rfl rfl (fd_ fo143_1 rfl rfl (lk_ sc9 1 rfl rfl rfl (wl_ov (ov_seql rfl rfl) rfl (mv_ rfl ?_)))))))
   rcases Bool.eq_false_or_eq_true (tv.toList == pv.toList) with h8 | h8
   ·refine wl_set 89 rfl (congrArg Value.bool h8) ?_
    have htw : plTwin ⟨pf, pv, pp⟩ ⟨tf, tv, tp⟩ = true := by unfold plTwin; rw [decide_eq_true (show (⟨tf, tv, tp⟩ : Pl).fr = (⟨pf, pv, pp⟩ : Pl).fr from h7), h8]; rfl
    refine goff rfl rfl rfl (goff rfl rfl rfl (goff rfl rfl rfl (goff rfl rfl rfl (goff rfl rfl rfl (pt_ rfl rfl (nn_ (ct_ rfl (sr_ (sg_ rfl (nn_ ?_))))))))))
    refine gw_ret ?_
    refine nx_blk_ret (nx_then_ret (nx_then_ret (nx_blk_ret (nx_blk_ret (nx_then_ret (nx_then_ret (nx_blk_ret (nx_then_ret ?_))))))))
    have hany : (pl.take i).any (plTwin ⟨pf, pv, pp⟩) = true := List.any_eq_true.2 ⟨_, List.mem_of_getElem? (i := j) (by rw [List.getElem?_take, if_pos (by omega)]; exact ht), htw⟩
    have hE : plE vl (pl.take i) ⟨pf, pv, pp⟩ = 6 := by rw [hfour, if_neg (by rw [hO]; decide), if_pos hany]
    refine nx_ret1 rfl rfl fun wx hm => ?_
    exact ⟨ret_int (by rw [hpe, hat, if_neg (by rw [hE]; decide), hE]), hm.g⟩
   refine wl_set 89 rfl (congrArg Value.bool h8) ?_
   refine wl_guard_on rfl rfl rfl (fd_ fo143_2 rfl rfl (wl_guard_on rfl rfl rfl (lk_ sc9 0 rfl rfl rfl (wl_guard_on rfl rfl rfl (fd_ fo143_2 rfl rfl (wl_guard_on rfl rfl rfl (lk_ sc9 1 rfl rfl rfl (wl_guard_on rfl rfl rfl (wl_ov (ov_seql rfl rfl) rfl (pf_ rfl rfl (nn_ ?_)))))))))))
   refine gw_cond rfl (fun hh => ?_) (fun hh => ?_)
   ·have h9 : (tp.toList == pp.toList) = true := by simpa using hh
    clear hh
    refine sr_ ?_
    have htw : plTwin ⟨pf, pv, pp⟩ ⟨tf, tv, tp⟩ = true := by unfold plTwin; rw [decide_eq_true (show (⟨tf, tv, tp⟩ : Pl).fr = (⟨pf, pv, pp⟩ : Pl).fr from h7), h8, h9]; rfl
    refine sg_ rfl (nn_ ?_)
    refine gw_ret ?_
    refine nx_blk_ret (nx_then_ret (nx_then_ret (nx_blk_ret (nx_blk_ret (nx_then_ret (nx_then_ret (nx_blk_ret (nx_then_ret ?_))))))))
    have hany : (pl.take i).any (plTwin ⟨pf, pv, pp⟩) = true := List.any_eq_true.2 ⟨_, List.mem_of_getElem? (i := j) (by rw [List.getElem?_take, if_pos (by omega)]; exact ht), htw⟩
    have hE : plE vl (pl.take i) ⟨pf, pv, pp⟩ = 6 := by rw [hfour, if_neg (by rw [hO]; decide), if_pos hany]
    refine nx_ret1 rfl rfl fun wx hm => ?_
    exact ⟨ret_int (by rw [hpe, hat, if_neg (by rw [hE]; decide), hE]), hm.g⟩
   have h9 : (tp.toList == pp.toList) = false := by simpa using hh
   clear hh
   refine gw_skip (nx_blk_nrm (nx_then (gw_region ?_)))
   have htw : plTwin ⟨pf, pv, pp⟩ ⟨tf, tv, tp⟩ = false := by unfold plTwin; rw [decide_eq_true (show (⟨tf, tv, tp⟩ : Pl).fr = (⟨pf, pv, pp⟩ : Pl).fr from h7), h8, h9]; rfl
   refine mv_ rfl ?_
   refine wl_set 77 (v' := .int .i64 ((j : Nat) : Int)) rfl (congrArg (Value.int .i64) (by omega)) ?_
   refine wl_ov (ov_sub rfl rfl (by omega) (by omega)) rfl ?_
   refine sg_ rfl (wl_nil ?_)
   exact nx_round j ⟨by omega, fun t h1 h2 y hy => by
    rcases Nat.eq_or_lt_of_le h1 with rfl | h3
    ·rw [ht] at hy; cases hy; exact htw
    exact hno t h3 h2 y hy⟩ (by omega) ⟨rfl, rfl, rfl, rfl, rfl, rfl, trivial⟩ (fun _ hm => hm.pick [1, 2] [] [0, 1] rfl rfl)
  have h7 : ¬ (tf = pf) := by simpa using hh
  clear hh
  refine gw_exit ?_
  refine nx_then_exit (nx_then_exit ?_)
  refine nx_blk_here ?_
  refine nx_blk_nrm (nx_then (gw_region (ad_ rfl rfl (mv_ rfl (wl_nil ?_)))))
  have hany := twin_none (p := ⟨pf, pv, pp⟩) hps (by omega) (by omega) hlast hno (.inr ⟨_, ht, h7⟩)
  have hE : plE vl (pl.take i) ⟨pf, pv, pp⟩ = 0 := by rw [hfour, if_neg (by rw [hO]; decide), if_neg (by rw [hany]; decide)]
  exact nx_round (i + 1) ⟨by omega, by rw [hpe, hat, if_pos hE], psort_next hps hx hO⟩ (by omega) ⟨rfl, rfl, rfl, (some_int (by omega)), trivial⟩ (fun _ hm => hm.pick [1] [] [0, 1] rfl rfl)
 have hi : ¬ (((i : Nat) : Int) < ((pn : Nat) : Int)) := by simpa using hh
 clear hh
 refine gw_exit ?_
 refine nx_then_exit (nx_then_exit ?_)
 refine nx_blk_here ?_
 refine nx_then (sr_ (sg_ rfl (nn_ ?_)))
 refine gw_ret ?_
 refine nx_ret1 rfl rfl fun wx hm => ?_
 exact ⟨ret_int (by rw [plates_end (by omega) hpe]), hm.g⟩
end Go.Proofs.YtjecbkgjabnmoaaGreatDoor
namespace Go.Proofs.YtjecbkgjabnmoaaGreatDoor
open Go.RowKit
theorem fleet_head {sl : List St} {cl : List Cs} {vl : List Vh} {pl : List Pl} {vn : Nat} (hl : vl.length = vn) (h : firstE [stationsE sl, classesE cl, whenE (decide ((500 : Int) < ((vn : Nat) : Int))) 2] ≠ 0) : fleetE sl cl vl pl = firstE [stationsE sl, classesE cl, whenE (decide ((500 : Int) < ((vn : Nat) : Int))) 2] := by
  unfold fleetE
  by_cases h1 : stationsE sl = 0
  · by_cases h2 : classesE cl = 0
    · by_cases h3 : (500 : Int) < ((vn : Nat) : Int)
      · have h4 : vehsE cl vl = 2 := by unfold vehsE; rw [if_pos (by omega)]
        rw [h1, h2, h4, decide_eq_true h3]; rfl
      · rw [h1, h2, decide_eq_false h3] at h
        exact absurd rfl h
    · simp [firstE, h1, h2]
  · simp [firstE, h1]
theorem fleet_tail {sl : List St} {cl : List Cs} {vl : List Vh} {pl : List Pl} {vn : Nat} (hl : vl.length = vn) (h : firstE [stationsE sl, classesE cl, whenE (decide ((500 : Int) < ((vn : Nat) : Int))) 2] = 0) : stationsE sl = 0 ∧ classesE cl = 0 ∧ vn ≤ 500 ∧ fleetE sl cl vl pl = firstE [scanE (vhE cl) none vl, platesE vl pl] := by
  have hz := fe_all h
  have h1 := hz (stationsE sl) (by simp)
  have h2 := hz (classesE cl) (by simp)
  have h3 := hz (whenE (decide ((500 : Int) < ((vn : Nat) : Int))) 2) (by simp)
  have h4 : ¬ (500 : Int) < ((vn : Nat) : Int) := fun h => by rw [decide_eq_true h] at h3; cases h3
  refine ⟨h1, h2, by omega, ?_⟩
  unfold fleetE vehsE
  rw [h1, h2, if_neg (by omega)]; rfl
theorem fe_left {a b : Int} (h : a ≠ 0) : firstE [a, b] = a := by simp [firstE, h]
theorem fe_right {b : Int} : firstE [0, b] = b := by
  by_cases h : b = 0
  · subst h; rfl
  · simp [firstE, h]
theorem vhE_one {cl : List Cs} {p : Option Vh} {b : Vh} (h : keyB b.key = false) : vhE cl p b = 5 := by unfold vhE; rw [h]; rfl
theorem vhE_two {cl : List Cs} {p : Option Vh} {b : Vh} (h : keyB b.key = true) (h2 : leVh p b = true) : vhE cl p b = 7 := by unfold vhE; rw [h, h2]; rfl
theorem vhE_three {cl : List Cs} {p : Option Vh} {b : Vh} (h : keyB b.key = true) (h2 : leVh p b = false) : vhE cl p b = if ixP (csP b.cls) cl 0 < 0 then 8 else 0 := by unfold vhE; rw [h, h2]; rfl
theorem checkFleet_any (sl : List St) (cl : List Cs) (vl : List Vh) (pl : List Pl) (sA cA vA pA : Option Addr) (sn sc cn cc vn vc pn pc : Nat) (w : World) (hs : SlT stEnc 15 140 w sA sn sl) (hc : SlT csEnc 2 159 w cA cn cl) (hv : SlT vhEnc 2 77 w vA vn vl) (hp : SlT plEnc 3 143 w pA pn pl) (hsok : ∀ x ∈ sl, StOk x) (hcok : ∀ x ∈ cl, CsOk x) (hvok : ∀ x ∈ vl, VhOk x) (hpok : ∀ x ∈ pl, PlOk x) (hsn : sn ≤ 1000) (hcn : cn ≤ 1000) (hvn : vn ≤ 1000) (hpn : pn ≤ 1000) :
  Calls Tryz.prog 23 #[.agg #[.slice sA sn sc, .slice cA cn cc, .slice vA vn vc, .slice pA pn pc]] w (GotE w (fleetE sl cl vl pl)) := by
 refine gw_enter ⟨60, w, none, []⟩ Tryz.func23 rfl Tryz.ntmps23 rfl (mem0 (X := [SlOld stEnc 15 140 w.heap.size none sA sn sl, SlOld csEnc 2 159 w.heap.size none cA cn cl, SlOld vhEnc 2 77 w.heap.size none vA vn vl, SlOld plEnc 3 143 w.heap.size none pA pn pl]) (allF_cons hs.old (allF_cons hc.old (allF_cons hv.old (allF_cons hp.old allF_nil)))) (allL_cons SlOld.lasts (allL_cons SlOld.lasts (allL_cons SlOld.lasts (allL_cons SlOld.lasts allL_nil))))) ?_
 refine sr_ ?_
 have hlen := hv.len
 obtain ⟨SE, hSE⟩ : ∃ z, z = stationsE sl := ⟨_, rfl⟩
 obtain ⟨CE, hCE⟩ : ∃ z, z = classesE cl := ⟨_, rfl⟩
 obtain ⟨FE, hFE⟩ : ∃ z, z = firstE [stationsE sl, classesE cl, whenE (decide ((500 : Int) < ((vn : Nat) : Int))) 2] := ⟨_, rfl⟩
 have hFE2 : FE = firstE [SE, CE, whenE (decide ((500 : Int) < ((vn : Nat) : Int))) 2] := by rw [hFE, hSE, hCE]
 refine wl_box rfl rfl rfl fun g1 => ?_
 refine sg_ rfl (nn_ (gw_seq ?_))
 refine gw_cut (γ := Unit) (I := (fun (uu : Unit) => True)) (S' := (fun (uu : Unit) => [(1, .pointer (some ⟨g1, 0, none⟩)), (2, .int .i64 0), (3, .int .i64 FE)])) (K' := (fun (uu : Unit) => fun _ => True)) (L' := (fun (uu : Unit) => [(g1, 31, [.slice sA sn sc, .slice cA cn cc, .slice vA vn vc, .slice pA pn pc])])) (O' := (fun (uu : Unit) => [])) (X' := (fun (uu : Unit) => [SlOld stEnc 15 140 w.heap.size none sA sn sl, SlOld csEnc 2 159 w.heap.size none cA cn cl, SlOld vhEnc 2 77 w.heap.size none vA vn vl, SlOld plEnc 3 143 w.heap.size none pA pn pl])) ?_ ?_
 ·refine gd (fun wz => Blk wz g1 31 [.slice sA sn sc, .slice cA cn cc, .slice vA vn vc, .slice pA pn pc] ∧ (SlOld stEnc 15 140 w.heap.size none sA sn sl) wz ∧ (SlOld csEnc 2 159 w.heap.size none cA cn cl) wz ∧ (SlOld vhEnc 2 77 w.heap.size none vA vn vl) wz ∧ (SlOld plEnc 3 143 w.heap.size none pA pn pl) wz ∧ True) mixed (fun _ hm => ⟨hm.bl 0, hm.fa 0, hm.fa 1, hm.fa 2, hm.fa 3, trivial⟩) fun z => ?_
  refine wt 0 14 1 rfl z (ov_field fo31_0 rfl rfl) ?_
  refine wt 1 14 3 rfl z (ov_load sc26 rfl (fun _ hm => hm.1) rfl) ?_
  refine wt 3 14 11 rfl z (ov_field fo31_1 rfl rfl) ?_
  refine wt 4 14 27 rfl z (ov_load sc27 rfl (fun _ hm => hm.1) rfl) ?_
  refine wt 6 14 91 rfl z (ov_field fo31_2 rfl rfl) ?_
  refine wt 7 14 219 rfl z (ov_load sc28 rfl (fun _ hm => hm.1) rfl) ?_
  refine wt 8 14 475 rfl z (ov_len es28 rfl) ?_
  refine wt 9 14 987 rfl z (ov_gtr rfl rfl) ?_
  refine wa1 2 rfl ?_
  refine wl_callv (v := .int .i64 SE) rfl cb95 rfl rfl (fun wx hm => (by rw [hSE]; exact checkStations_any sl sA sn sc wx (hm.fact 0 rfl).1 hsok (by omega))) ?_
  refine wl_nil ?_
  refine nw 14 991 (fun _ hm => ⟨hm.bl 0, hm.fa 0, hm.fa 1, hm.fa 2, hm.fa 3, trivial⟩) fun z => ?_
  refine wa1 5 rfl ?_
  refine wl_callv (v := .int .i64 CE) rfl cb96 rfl rfl (fun wx hm => (by rw [hCE]; exact checkClasses_any cl cA cn cc wx (hm.fact 1 rfl).1 hcok (by omega))) ?_
  refine wl_nil ?_
  refine nw 14 1023 (fun _ hm => ⟨hm.bl 0, hm.fa 0, hm.fa 1, hm.fa 2, hm.fa 3, trivial⟩) fun z => ?_
  refine wa1 10 rfl ?_
  refine wl_callw rfl cb79 rfl rfl (fun wx hm => (when_any _ _ wx)) ?_
  refine wl_nil ?_
  refine nw 14 2047 (fun _ hm => ⟨hm.bl 0, hm.fa 0, hm.fa 1, hm.fa 2, hm.fa 3, trivial⟩) fun z => ?_
  refine wa1 11 rfl ?_
  refine wl_buildSlice (e := 35) (cs := [.int .i64 SE, .int .i64 CE, .int .i64 (whenE (decide (500 < ((vn : Nat) : Int))) 2)]) rfl (by kernel_rfl) rfl fun g2 => ?_
  refine wl_nil ?_
  refine nw 14 4095 (fun _ hm => ⟨hm.bl 1, hm.fa 0, hm.fa 1, hm.fa 2, hm.fa 3, trivial⟩) fun z => ?_
  refine wa1 12 rfl ?_
  refine wl_callw rfl cb78 rfl rfl (fun wx hm => (first_any [SE, CE, whenE (decide (500 < ((vn : Nat) : Int))) 2] _ _ _ wx (hm.blkI 0 rfl) (by simp))) ?_
  refine wl_nil ?_
  refine nw 14 8191 (fun _ hm => ⟨hm.bl 1, hm.fa 0, hm.fa 1, hm.fa 2, hm.fa 3, trivial⟩) fun z => ?_
  refine wt 13 14 16383 rfl z (ov_assign rfl) ?_
  refine wa_done (by kernel_rfl) ?_
  exact nx_meet () trivial ⟨rfl, rfl, (some_int hFE2.symm), trivial⟩ (fun _ hm => hm.pick [1] [] [0, 1, 2, 3] rfl rfl)
 intro uu hinv
 replace hinv : True := hinv
 refine sr_ (mv_ rfl (wl_ov (ov_neq rfl rfl) rfl (nn_ ?_)))
 refine gw_cond rfl (fun hh => ?_) (fun hh => ?_)
 ·have h1 : ¬ (FE = 0) := by simpa using hh
  clear hh
  refine sr_ ?_
  have h2 : FE ≠ 0 := by simpa using h1
  have h3 : fleetE sl cl vl pl = FE := by rw [hFE]; exact fleet_head hlen (by rw [← hFE]; exact h2)
  refine mv_ rfl (sg_ rfl (nn_ ?_))
  refine gw_ret ?_
  refine nx_then_ret ?_
  refine nx_ret1 rfl rfl fun wx hm => ?_
  exact ⟨ret_int (by rw [h3]), hm.g⟩
 have h1 : FE = 0 := by simpa using hh
 clear hh
 refine gw_skip (nx_then (gw_seq (sr_ ?_)))
 have h2 : FE = 0 := by simpa using h1
 obtain ⟨_, hcz, hv5, hfl⟩ := fleet_tail (sl := sl) (cl := cl) (pl := pl) hlen (hFE.symm.trans h2)
 refine fd_ fo31_2 rfl rfl (lk_ sc28 0 rfl rfl rfl (wl_ov (ov_len es28 rfl) rfl (mv_ rfl (nn_ (gw_block ?_)))))
 refine gw_loop (γ := Nat) (fun (i : Nat) => i ≤ vn ∧ scanE (vhE cl) none vl = scanE (vhE cl) (prevOf vl i) (vl.drop i)) (fun (i : Nat) => [(1, .pointer (some ⟨g1, 0, none⟩)), (23, .slice vA vn vc), (24, .int .i64 ((vn : Nat) : Int)), (25, .int .i64 ((i : Nat) : Int))]) (fun (i : Nat) => fun _ => True) (fun (i : Nat) => [(g1, 31, [.slice sA sn sc, .slice cA cn cc, .slice vA vn vc, .slice pA pn pc])]) (fun (i : Nat) => []) (fun (i : Nat) => [SlOld stEnc 15 140 w.heap.size none sA sn sl, SlOld csEnc 2 159 w.heap.size none cA cn cl, SlOld vhEnc 2 77 w.heap.size none vA vn vl, SlOld plEnc 3 143 w.heap.size none pA pn pl]) (fun (i : Nat) => vn - i) 0 ⟨Nat.zero_le _, rfl⟩ ⟨rfl, rfl, rfl, rfl, trivial⟩ (fun _ hm => hm.pick [0] [] [0, 1, 2, 3] rfl rfl) ?_
 intro i hinv
 replace hinv : i ≤ vn ∧ scanE (vhE cl) none vl = scanE (vhE cl) (prevOf vl i) (vl.drop i) := hinv
 refine sr_ ?_
 obtain ⟨hi0, hsc⟩ := hinv
 refine wl_ov (ov_lss rfl rfl) rfl (nn_ (gw_seq ?_))
 refine gw_cond rfl (fun hh => ?_) (fun hh => ?_)
 ·have hi : ((i : Nat) : Int) < ((vn : Nat) : Int) := by simpa using hh
  clear hh
  refine gw_skip (nx_then (gw_seq (gw_block (sr_ ?_))))
  obtain ⟨bv, ov, hA, _, _⟩ := hv.get (by omega)
  subst hA
  obtain ⟨x, hx⟩ : ∃ x, vl[i]? = some x := ⟨_, List.getElem?_eq_getElem (by omega)⟩
  obtain ⟨vk, vc2⟩ := x
  have hat := scanE_at (vhE cl) vl i _ hx
  obtain ⟨hvk, hvc2⟩ := hvok _ (List.mem_of_getElem? hx)
  have hvk : vk.size ≤ 1000000 := hvk
  refine mv_ rfl ?_
  refine wl_ov (ov_index (j := i) es28 rfl rfl (by omega)) rfl ?_
  refine wl_ov (ov_elem (vs := [.string vk, .string vc2]) rz77 rfl (fun _ hm => (hm.fact 2 rfl).1) hx rfl rfl) rfl ?_
  refine wl_alloc zc77 rfl fun g3 => ?_
  refine sg_ rfl ?_
  refine wl_stores (cs' := [.string vk, .string vc2]) 0 rz77 rfl rfl rfl rfl rfl rfl rfl rfl ?_
  refine nn_ (gw_block (sr_ (fd_ fo77_0 rfl rfl (lk_ sc9 0 rfl rfl rfl ?_))))
  refine wl_callw rfl cb97 rfl rfl (fun wx hm => (isKey_any _ wx (by omega))) ?_
  refine wl_ov (ov_un_not rfl) rfl (sg_ rfl (nn_ ?_))
  refine gw_cond rfl (fun hh => ?_) (fun hh => ?_)
  ·have h3 : (keyB vk) = false := by simpa using hh
   clear hh
   refine sr_ (sg_ rfl (nn_ ?_))
   refine gw_ret ?_
   refine nx_blk_ret (nx_blk_ret (nx_then_ret (nx_then_ret (nx_blk_ret (nx_then_ret ?_)))))
   have hE : vhE cl (prevOf vl i) ⟨vk, vc2⟩ = 5 := vhE_one (by simpa using h3)
   have hF : scanE (vhE cl) none vl = 5 := by rw [hsc, hat, if_neg (by rw [hE]; decide), hE]
   refine nx_ret1 rfl rfl fun wx hm => ?_
   exact ⟨ret_int (by rw [hfl, hF, fe_left (by decide)]), hm.g⟩
  have h3 : (keyB vk) = true := by simpa using hh
  clear hh
  refine gw_seq ?_
  by_cases h0 : i = 0
  ·have hle : leVh (prevOf vl i) ⟨vk, vc2⟩ = false := by rw [prevOf_zero h0]; rfl
   have h8 := vhE_three (cl := cl) (b := ⟨vk, vc2⟩) (by simpa using h3) hle
   refine gd (fun wz => Blk wz g3 77 [.string vk, .string vc2] ∧ Blk wz g1 31 [.slice sA sn sc, .slice cA cn cc, .slice (some ⟨bv, ov, none⟩) vn vc, .slice pA pn pc] ∧ (SlOld stEnc 15 140 w.heap.size none sA sn sl) wz ∧ (SlOld csEnc 2 159 w.heap.size none cA cn cl) wz ∧ (SlOld vhEnc 2 77 w.heap.size none (some ⟨bv, ov, none⟩) vn vl) wz ∧ (SlOld plEnc 3 143 w.heap.size none pA pn pl) wz ∧ True) mixed (fun _ hm => ⟨hm.bl 0, hm.bl 1, hm.fa 0, hm.fa 1, hm.fa 2, hm.fa 3, trivial⟩) fun z => ?_
   refine wt 0 15 1 rfl z (ov_move rfl) ?_
   refine wt 1 15 3 rfl z (ov_gtr rfl rfl) ?_
   refine wa_set 37 (v' := .bool false) rfl (congrArg Value.bool (decide_eq_false (by omega))) ?_
   refine wt 2 15 7 rfl z (ov_move rfl) ?_
   refine wtf 3 15 15 rfl rfl rfl z ?_
   refine wtf 4 15 31 rfl rfl rfl z ?_
   refine wtf 5 15 63 rfl rfl rfl z ?_
   refine wtf 6 15 127 rfl rfl rfl z ?_
   refine wtf 7 15 255 rfl rfl rfl z ?_
   refine wtf 8 15 511 rfl rfl rfl z ?_
   refine wtf 9 15 1023 rfl rfl rfl z ?_
   refine wtf 10 15 2047 rfl rfl rfl z ?_
   refine wtf 11 15 4095 rfl rfl rfl z ?_
   refine wtf 12 15 8191 rfl rfl rfl z ?_
   refine wt 13 15 16383 rfl z (ov_pick_f rfl rfl) ?_
   refine wt 14 15 32767 rfl z (ov_assign rfl) ?_
   refine wa_done (by kernel_rfl) ?_
   refine nx_then (cf_ rfl (sr_ (fd_ fo31_1 rfl rfl (lk_ sc27 1 rfl rfl rfl (fd_ fo77_1 rfl rfl (lk_ sc9 0 rfl rfl rfl ?_))))))
   refine wl_callv rfl cb98 rfl rfl (fun wx hm => (classAt_any cl cA cn cc vc2 wx (hm.fact 1 rfl).1 (by omega))) ?_
   refine wl_ov (ov_lss rfl rfl) rfl (sg_ rfl (nn_ ?_))
   refine gw_cond rfl (fun hh => ?_) (fun hh => ?_)
   ·have h5 : ixP (csP vc2) cl 0 < 0 := by simpa using hh
    clear hh
    refine sr_ (sg_ rfl (nn_ ?_))
    refine gw_ret ?_
    refine nx_blk_ret (nx_blk_ret (nx_then_ret (nx_then_ret (nx_blk_ret (nx_then_ret ?_)))))
    have hE : vhE cl (prevOf vl i) ⟨vk, vc2⟩ = 8 := by rw [h8, if_pos h5]
    have hF : scanE (vhE cl) none vl = 8 := by rw [hsc, hat, if_neg (by rw [hE]; decide), hE]
    refine nx_ret1 rfl rfl fun wx hm => ?_
    exact ⟨ret_int (by rw [hfl, hF, fe_left (by decide)]), hm.g⟩
   have h5 : ¬ (ixP (csP vc2) cl 0 < 0) := by simpa using hh
   clear hh
   refine gw_skip (nx_blk_nrm (nx_blk_nrm (nx_then (gw_region ?_))))
   have hE : vhE cl (prevOf vl i) ⟨vk, vc2⟩ = 0 := by rw [h8, if_neg h5]
   refine ad_ rfl rfl (mv_ rfl (wl_nil ?_))
   exact nx_round (i + 1) ⟨by omega, by rw [hsc, hat, if_pos hE]⟩ (by omega) ⟨rfl, rfl, rfl, (some_int (by omega)), trivial⟩ (fun _ hm => hm.pick [1] [] [0, 1, 2, 3] rfl rfl)
  obtain ⟨yy, hy⟩ : ∃ x, vl[i - 1]? = some x := ⟨_, List.getElem?_eq_getElem (by omega)⟩
  obtain ⟨uk, uc⟩ := yy
  refine gd (fun wz => Blk wz g3 77 [.string vk, .string vc2] ∧ Blk wz g1 31 [.slice sA sn sc, .slice cA cn cc, .slice (some ⟨bv, ov, none⟩) vn vc, .slice pA pn pc] ∧ (SlOld stEnc 15 140 w.heap.size none sA sn sl) wz ∧ (SlOld csEnc 2 159 w.heap.size none cA cn cl) wz ∧ (SlOld vhEnc 2 77 w.heap.size none (some ⟨bv, ov, none⟩) vn vl) wz ∧ (SlOld plEnc 3 143 w.heap.size none pA pn pl) wz ∧ True) mixed (fun _ hm => ⟨hm.bl 0, hm.bl 1, hm.fa 0, hm.fa 1, hm.fa 2, hm.fa 3, trivial⟩) fun z => ?_
  refine wt 0 15 1 rfl z (ov_move rfl) ?_
  refine wt 1 15 3 rfl z (ov_gtr rfl rfl) ?_
  refine wa_set 37 (v' := .bool true) rfl (congrArg Value.bool (decide_eq_true (by omega))) ?_
  refine wt 2 15 7 rfl z (ov_move rfl) ?_
  refine wto 3 15 15 rfl rfl rfl z (ov_field fo77_0 rfl rfl) ?_
  refine wto 4 15 31 rfl rfl rfl z (ov_load sc9 rfl (fun _ hm => hm.1) rfl) ?_
  refine wto 5 15 63 rfl rfl rfl z (ov_field fo31_2 rfl rfl) ?_
  refine wto 6 15 127 rfl rfl rfl z (ov_load sc28 rfl (fun _ hm => hm.2.1) rfl) ?_
  refine wto 7 15 255 rfl rfl rfl z (ov_move rfl) ?_
  refine wto 8 15 511 rfl rfl rfl z (ov_sub rfl rfl (by omega) (by omega)) ?_
  refine wa_set 44 (v' := .int .i64 (((i - 1) : Nat) : Int)) rfl (congrArg (Value.int .i64) (by omega)) ?_
  refine wto 9 15 1023 rfl rfl rfl z (ov_index (j := (i - 1)) es28 rfl rfl (by omega)) ?_
  refine wto 10 15 2047 rfl rfl rfl z (ov_field fo77_0 rfl rfl) ?_
  refine wto 11 15 4095 rfl rfl rfl z (ov_elem1 (k := 0) (v := .string uk) sc9 rfl (fun _ hm => (hm.2.2.2.2.1).1) hy rfl rfl) ?_
  refine wto 12 15 8191 rfl rfl rfl z (ov_sleq rfl rfl) ?_
  refine wt 13 15 16383 rfl z (ov_pick_t rfl rfl) ?_
  refine wt 14 15 32767 rfl z (ov_assign rfl) ?_
  refine wa_done (by kernel_rfl) ?_
  refine nx_then ?_
  refine gw_cond rfl (fun hh => ?_) (fun hh => ?_)
  ·have h4 : (Op.bytesLess vk.toList uk.toList || vk.toList == uk.toList) = true := by simpa using hh
   clear hh
   refine sr_ ?_
   have hle : leVh (prevOf vl i) ⟨vk, vc2⟩ = true := by rw [prevOf_pos h0 hy]; exact h4
   refine sg_ rfl (nn_ ?_)
   refine gw_ret ?_
   refine nx_blk_ret (nx_blk_ret (nx_then_ret (nx_then_ret (nx_blk_ret (nx_then_ret ?_)))))
   have hE : vhE cl (prevOf vl i) ⟨vk, vc2⟩ = 7 := vhE_two (by simpa using h3) hle
   have hF : scanE (vhE cl) none vl = 7 := by rw [hsc, hat, if_neg (by rw [hE]; decide), hE]
   refine nx_ret1 rfl rfl fun wx hm => ?_
   exact ⟨ret_int (by rw [hfl, hF, fe_left (by decide)]), hm.g⟩
  have h4 : (Op.bytesLess vk.toList uk.toList || vk.toList == uk.toList) = false := by simpa using hh
  clear hh
  refine sr_ ?_
  have hle : leVh (prevOf vl i) ⟨vk, vc2⟩ = false := by rw [prevOf_pos h0 hy]; exact h4
  have h8 := vhE_three (cl := cl) (b := ⟨vk, vc2⟩) (by simpa using h3) hle
  refine fd_ fo31_1 rfl rfl (lk_ sc27 1 rfl rfl rfl (fd_ fo77_1 rfl rfl (lk_ sc9 0 rfl rfl rfl ?_)))
  refine wl_callv rfl cb98 rfl rfl (fun wx hm => (classAt_any cl cA cn cc vc2 wx (hm.fact 1 rfl).1 (by omega))) ?_
  refine wl_ov (ov_lss rfl rfl) rfl (sg_ rfl (nn_ ?_))
  refine gw_cond rfl (fun hh => ?_) (fun hh => ?_)
  ·have h5 : ixP (csP vc2) cl 0 < 0 := by simpa using hh
   clear hh
   refine sr_ (sg_ rfl (nn_ ?_))
   refine gw_ret ?_
   refine nx_blk_ret (nx_blk_ret (nx_then_ret (nx_then_ret (nx_blk_ret (nx_then_ret ?_)))))
   have hE : vhE cl (prevOf vl i) ⟨vk, vc2⟩ = 8 := by rw [h8, if_pos h5]
   have hF : scanE (vhE cl) none vl = 8 := by rw [hsc, hat, if_neg (by rw [hE]; decide), hE]
   refine nx_ret1 rfl rfl fun wx hm => ?_
   exact ⟨ret_int (by rw [hfl, hF, fe_left (by decide)]), hm.g⟩
  have h5 : ¬ (ixP (csP vc2) cl 0 < 0) := by simpa using hh
  clear hh
  refine gw_skip (nx_blk_nrm (nx_blk_nrm (nx_then (gw_region ?_))))
  have hE : vhE cl (prevOf vl i) ⟨vk, vc2⟩ = 0 := by rw [h8, if_neg h5]
  refine ad_ rfl rfl (mv_ rfl (wl_nil ?_))
  exact nx_round (i + 1) ⟨by omega, by rw [hsc, hat, if_pos hE]⟩ (by omega) ⟨rfl, rfl, rfl, (some_int (by omega)), trivial⟩ (fun _ hm => hm.pick [1] [] [0, 1, 2, 3] rfl rfl)
 have hi : ¬ (((i : Nat) : Int) < ((vn : Nat) : Int)) := by simpa using hh
 clear hh
 refine gw_exit ?_
 refine nx_then_exit (nx_then_exit ?_)
 refine nx_blk_here ?_
 refine nx_then (sr_ ?_)
 have hz : scanE (vhE cl) none vl = 0 := by rw [hsc, List.drop_eq_nil_of_le (by omega)]; rfl
 have hrise : Rise vl := (rise_of hz).1
 obtain ⟨PE, hPE⟩ : ∃ z, z = platesE vl pl := ⟨_, rfl⟩
 refine wl_ov (ov_loads rz31 rfl (fun _ hm => hm.blkI 0 rfl) rfl rfl) rfl ?_
 refine wl_callv (v := .int .i64 PE) rfl cb99 rfl rfl (fun wx hm => (by rw [hPE]; exact checkPlates_any vl pl sA cA vA pA sn sc cn cc vn vc pn pc wx (hm.fact 2 rfl).1 (hm.fact 3 rfl).1 (by omega) (by omega) hrise hpok)) ?_
 refine sg_ rfl (nn_ ?_)
 refine gw_ret ?_
 refine nx_ret1 rfl rfl fun wx hm => ?_
 exact ⟨ret_int (by rw [hfl, hz, fe_right, hPE]), hm.g⟩
end Go.Proofs.YtjecbkgjabnmoaaGreatDoor
namespace Go.Proofs.YtjecbkgjabnmoaaGreatDoor
open Go.RowKit
open Go.ChangeMaps (setBlock)
/-- The map at block g holds es. -/
def MapAt (g : Nat) (es : Array MapEntry) (ck : Nat) (w : World) : Prop := w.heap[g]? = some (.map es ck)
theorem MapAt.lasts2 {N : Nat} {row : Option Nat} {Tt : List TypeId} {g : Nat} {es : Array MapEntry} {ck : Nat} : Lasts2 N row Tt (MapAt g es ck) :=
  ⟨fun w w' h hx => (h.block g (Array.getElem?_eq_some_iff.1 hx).1 (by simp)).trans hx,
   fun w w' r T c h1 _ _ h3 hx => (h3.block g (Array.getElem?_eq_some_iff.1 hx).1 (fun e => by
     have e2 : g = r := by injection e
     subst e2
     unfold MapAt at hx
     rw [h1] at hx; cases hx)).trans hx⟩
/-- The map at block g, one of the call's own. -/
def OwnMap (N g : Nat) (es : Array MapEntry) (ck : Nat) (w : World) : Prop := N ≤ g ∧ MapAt g es ck w
theorem OwnMap.lasts2 {N M : Nat} {row : Option Nat} {Tt : List TypeId} {g : Nat} {es : Array MapEntry} {ck : Nat} : Lasts2 N row Tt (OwnMap M g es ck) :=
  ⟨fun w w' h hx => ⟨hx.1, MapAt.lasts2.gr (N := N) (row := row) (Tt := Tt) w w' h hx.2⟩, fun w w' r T c h1 h2 h3 h4 hx => ⟨hx.1, MapAt.lasts2.st w w' r T c h1 h2 h3 h4 hx.2⟩⟩
def mapTy (P : Program) (t : TypeId) : Option (TypeId × TypeId) :=
  match P.underlying t with
  | some (.map k e) => some (k, e)
  | _ => none
theorem mapTy_u {P : Program} {t k e : TypeId} (h : mapTy P t = some (k, e)) : P.underlying t = some (.map k e) := by
  unfold mapTy at h
  cases hu : P.underlying t with
  | none => simp [hu] at h
  | some dd => cases dd <;> simp [hu] at h <;> simp [h]
def strTy (P : Program) (t : TypeId) : Bool :=
  match P.underlying t with
  | some .string => true
  | _ => false
theorem strTy_u {P : Program} {t : TypeId} (h : strTy P t = true) : P.underlying t = some .string := by
  unfold strTy at h
  cases hu : P.underlying t with
  | none => simp [hu] at h
  | some dd => cases dd <;> simp [hu] at h <;> rfl
theorem grow_set {w : World} {g : Nat} {es es' : Array MapEntry} {ck ck' : Nat} (hb : w.heap[g]? = some (.map es ck)) : w.grownBy (setBlock w g (.map es' ck')) (some g) :=
  ⟨rfl, rfl, rfl, by simp [setBlock], fun i _ hi => ChangeMaps.heap_setBlock_other hb _ (fun e => hi (by rw [e]))⟩
section
variable {P : Program} {c : Cx} {ops : Array Oper} {Q : Exit → Act → World → Prop} {rest : List Oper} {S : List (Nat × Value)} {K : World → Prop} {L : List (Nat × TypeId × List Value)} {O : List Own} {X X' : List (World → Prop)} {Z : World → Prop} {nn : Nat}
variable {d : Nat} {ty : TypeId} {pos : String} {aft : Array Edge}
theorem Mem.mapped {w : World} {g : Nat} {es es' : Array MapEntry} {ck ck' : Nat} (h : Mem c K L O X w) (hg : c.w0.heap.size ≤ g) (hb : w.heap[g]? = some (.map es ck)) (hX : ∀ A ∈ X', A (setBlock w g (.map es' ck')) ∧ Lasts2 c.w0.heap.size c.row c.Tt A) : Mem c K L O X' (setBlock w g (.map es' ck')) := by
  have hgr : w.grownBy (setBlock w g (.map es' ck')) (some g) := grow_set hb
  have hne : ∀ (k : Nat) (cs : Array Value) (T : TypeId) (fz : Nat × Nat), w.heap[k]? = some (.cells cs T fz) → k ≠ g := fun k cs T fz hk e => by
    subst e
    rw [hb] at hk; cases hk
  refine ⟨grow_own h.g hgr (fun k e => by cases e; exact hg), h.kk.st _ _ _ hg hgr h.k, fun x hx => ⟨(h.b x hx).1, (h.b x hx).2.grown hgr (fun e => hne _ _ _ _ (h.b x hx).2 (Option.some.inj e))⟩, h.nd, fun s hs => ?_, h.od, h.oo, fun A hA => (hX A hA).1, h.kk, fun A hA => (hX A hA).2, h.rs⟩
  refine (h.o s hs).kept hgr ?_
  cases hv : s.v.ownBlock with
  | none => exact .inl rfl
  | some k =>
    refine .inr (fun e => ?_)
    have e2 : k = g := by injection e
    rcases (h.o s hs).2 with ⟨hn, _⟩ | ⟨g', cap, cur, hn, _, hh, _⟩
    · rw [hn] at hv; cases hv
    · rw [hn] at hv
      have e3 : g' = k := by injection hv
      exact hne _ _ _ _ hh (e3.trans e2)
theorem wl_makeMap {t : TypeId} (hd : Nat.ble (d + 1) c.n = true) (h : ∀ g, WL P c ops Q rest ((d, .map (some g)) :: S) K L O (OwnMap c.w0.heap.size g #[] 0 :: X)) : WL P c ops Q (⟨some d, .makeMap t none, ty, pos, aft, none⟩ :: rest) S K L O X := by
  intro a w ha hm
  refine wpList_plain rfl fun K' hK => ?_
  unfold Oper.wp
  have : (execOp a.eval ⟨some d, .makeMap t none, ty, pos, aft, none⟩).run P w = .ok (.value (.map (some w.heap.size))) (w.alloc (.map #[] 0)) := by
    simp [execOp, Instr.makeMap]
  rw [this]
  exact hK _ _ (h _ _ _ (ha.put hd _) ((hm.grow (grow_alloc (World.grownBy.refl w none) _)).also OwnMap.lasts2 ⟨hm.g.size, (MapKept.heap_alloc w _).1⟩))
theorem check_str {k : TypeId} (hk : strTy P k = true) (b : Bool) (s : ByteArray) (w : World) : (Instr.checkKey b 10000 k (.string s)).run P w = .ok () w := by
  rw [show (10000 : Nat) = 9999 + 1 from rfl]
  unfold Instr.checkKey
  simp [run_underlying (strTy_u hk)]
theorem find_str {k : TypeId} (hk : strTy P k = true) {s : ByteArray} {es : List MapEntry} {r : Option (Nat × Value)} (hf : Instr.findNow .string (.string s) es 0 = some r) (w : World) : (Instr.findKey k (.string s) es).run P w = .ok r w := by
  simp [Instr.findKey, run_underlying (strTy_u hk), hf]
theorem ov_lookup {t k e : TypeId} {x y : Operand} {g : Nat} {es : Array MapEntry} {ck i : Nat} {s : ByteArray} {v : Value} (ht : mapTy P t = some (k, e)) (hk : strTy P k = true) (hx : rd S x = some (.map (some g))) (hy : rd S y = some (.string s)) (hm : ∀ w, Z w → MapAt g es ck w) (hf : Instr.findNow .string (.string s) es.toList 0 = some (some (i, v))) :
    OV P nn S Z ⟨some d, .lookup t x y false, ty, pos, aft, none⟩ v := fun a w ha hz => by
  have hb : w.heap[g]? = some (.map es ck) := hm w hz
  simp [execOp, ha.eval hx, ha.eval hy, Instr.lookup, run_underlying (mapTy_u ht), MapKept.run_getObj_map hb, check_str hk, find_str hk hf, Result.andThen]
theorem ov_lookup0 {t k e : TypeId} {x y : Operand} {g : Nat} {es : Array MapEntry} {ck : Nat} {s : ByteArray} {z : Value} (ht : mapTy P t = some (k, e)) (hk : strTy P k = true) (hzz : (P.info? e).bind (·.zero) = some z) (hx : rd S x = some (.map (some g))) (hy : rd S y = some (.string s)) (hm : ∀ w, Z w → MapAt g es ck w) (hf : Instr.findNow .string (.string s) es.toList 0 = some none) :
    OV P nn S Z ⟨some d, .lookup t x y false, ty, pos, aft, none⟩ z := fun a w ha hz => by
  have hb : w.heap[g]? = some (.map es ck) := hm w hz
  have hzero : (zeroValue e).run P w = .ok z w := by
    cases hi : P.info? e with
    | none => simp [hi] at hzz
    | some inf => simp [zeroValue, typeInfo, hi, (by simpa [hi] using hzz : inf.zero = some z)]
  simp [execOp, ha.eval hx, ha.eval hy, Instr.lookup, run_underlying (mapTy_u ht), MapKept.run_getObj_map hb, check_str hk, find_str hk hf, hzero, Result.andThen]
theorem wl_mapPush {t k e : TypeId} {x y z : Operand} {g : Nat} {es : Array MapEntry} {ck : Nat} {s : ByteArray} {v : Value} (i : Nat) (ht : mapTy P t = some (k, e)) (hk : strTy P k = true) (hx : rd S x = some (.map (some g))) (hy : rd S y = some (.string s)) (hz : rd S z = some v) (hi : X[i]? = some (OwnMap c.w0.heap.size g es ck)) (hf : Instr.findNow .string (.string s) es.toList 0 = some none)
    (hX : ∀ A ∈ X', (∀ w w', c.w0.heap.size ≤ g → w.grownBy w' (some g) → A w → A w') ∧ A ∈ X)
    (h : WL P c ops Q rest S K L O (OwnMap c.w0.heap.size g (es.push ⟨.string s, v, ck⟩) (ck + 1) :: X')) : WL P c ops Q (⟨none, .mapUpdate t x y z, ty, pos, aft, none⟩ :: rest) S K L O X := by
  intro a w ha hm
  refine wpList_plain rfl fun K' hK => ?_
  obtain ⟨hg, hb⟩ := hm.fact i hi
  have hb : w.heap[g]? = some (.map es ck) := hb
  unfold Oper.wp
  have : (execOp a.eval ⟨none, .mapUpdate t x y z, ty, pos, aft, none⟩).run P w = .ok .skip (setBlock w g (.map (es.push ⟨.string s, v, ck⟩) (ck + 1))) := by
    simp [execOp, ha.eval hx, ha.eval hy, ha.eval hz, Instr.mapUpdate, run_underlying (mapTy_u ht), MapKept.run_getObj_map hb, MapKept.run_setObj_map _ hb, check_str hk, find_str hk hf, Result.andThen, setBlock]
  rw [this]
  refine hK _ _ (h _ _ ha (hm.mapped hg hb fun A hA => ?_))
  rcases List.mem_cons.1 hA with rfl | hA
  · exact ⟨⟨hg, ChangeMaps.heap_setBlock_same hb _⟩, OwnMap.lasts2⟩
  · exact ⟨(hX A hA).1 _ _ hg (grow_set hb) (hm.x A (hX A hA).2), hm.l A (hX A hA).2⟩
end
theorem far_nil {N g : Nat} {X : List (World → Prop)} : ∀ A ∈ ([] : List (World → Prop)), (∀ w w', N ≤ g → w.grownBy w' (some g) → A w → A w') ∧ A ∈ X := fun _ h => by cases h
theorem far_cons {N g i : Nat} {X X' : List (World → Prop)} {A0 : World → Prop} (h : ∀ w w', N ≤ g → w.grownBy w' (some g) → A0 w → A0 w') (hi : X[i]? = some A0) (hr : ∀ A ∈ X', (∀ w w', N ≤ g → w.grownBy w' (some g) → A w → A w') ∧ A ∈ X) : ∀ A ∈ A0 :: X', (∀ w w', N ≤ g → w.grownBy w' (some g) → A w → A w') ∧ A ∈ X := fun A hA => by
  rcases List.mem_cons.1 hA with rfl | hA
  · exact ⟨h, List.mem_of_getElem? hi⟩
  · exact hr A hA
theorem BlkOld.far {N g b : Nat} {row : Option Nat} {T : TypeId} {cs : List Value} : ∀ w w' : World, N ≤ g → w.grownBy w' (some g) → BlkOld N row b T cs w → BlkOld N row b T cs w' := fun _ _ h1 h2 ⟨h3, h4⟩ => ⟨h3, h4.grown h2 (fun e => by
  have e2 : b = g := by injection e
  omega)⟩
end Go.Proofs.YtjecbkgjabnmoaaGreatDoor
namespace Go.Proofs.YtjecbkgjabnmoaaGreatDoor
open Go.RowKit Go.MapKept
open Go.ChangeMaps (setBlock)
theorem bytes_ext {a b : ByteArray} (h : a.toList = b.toList) : a = b := by
  rw [ByteArray.toList_eq, ByteArray.toList_eq] at h
  cases a; cases b
  simp only at h
  exact congrArg ByteArray.mk (Array.toList_inj.1 h)
theorem bytes_eqb {a b : ByteArray} : (a.toList == b.toList) = true ↔ a = b :=
  ⟨fun h => bytes_ext (by simpa using h), fun h => by subst h; simp⟩
def fPut {α : Type} (f : ByteArray → Option α) (k : ByteArray) (x : α) : ByteArray → Option α := fun j => if (j.toList == k.toList) = true then some x else f j
def fDel {α : Type} (f : ByteArray → Option α) (k : ByteArray) : ByteArray → Option α := fun j => if (j.toList == k.toList) = true then none else f j
def fNil {α : Type} : ByteArray → Option α := fun _ => none
theorem fPut_same {α : Type} (f : ByteArray → Option α) (k : ByteArray) (x : α) : fPut f k x k = some x := by unfold fPut; rw [if_pos (by simp)]
theorem fPut_other {α : Type} (f : ByteArray → Option α) {k j : ByteArray} (x : α) (h : j ≠ k) : fPut f k x j = f j := by unfold fPut; rw [if_neg (fun e => h (bytes_eqb.1 e))]
theorem fDel_same {α : Type} (f : ByteArray → Option α) (k : ByteArray) : fDel f k k = none := by unfold fDel; rw [if_pos (by simp)]
theorem fDel_other {α : Type} (f : ByteArray → Option α) {k j : ByteArray} (h : j ≠ k) : fDel f k j = f j := by unfold fDel; rw [if_neg (fun e => h (bytes_eqb.1 e))]
/-- What a map's block holds, key by key. -/
def Entries {α : Type} (enc : α → Value) (f : ByteArray → Option α) (es : Array MapEntry) (ck : Nat) : Prop :=
  Stamped es ck ∧ (∀ x ∈ es.toList, IsKey .string x.key) ∧ ∀ k v, (∃ e ∈ es.toList, e.key = .string k ∧ e.val = v) ↔ ∃ x, f k = some x ∧ v = enc x
/-- The map at block g, one of the call's own, has under each key what f says. -/
def MapF {α : Type} (enc : α → Value) (N g : Nat) (f : ByteArray → Option α) (w : World) : Prop :=
  N ≤ g ∧ ∃ es ck, w.heap[g]? = some (.map es ck) ∧ Entries enc f es ck
theorem MapF.lt {α : Type} {enc : α → Value} {N g : Nat} {f : ByteArray → Option α} {w : World} (h : MapF enc N g f w) : g < w.heap.size := by
  obtain ⟨_, es, ck, hb, _⟩ := h
  exact (Array.getElem?_eq_some_iff.1 hb).1
theorem MapF.kept {α : Type} {enc : α → Value} {N g : Nat} {f : ByteArray → Option α} {w w' : World} {row : Option Nat} (h : MapF enc N g f w) (hg : w.grownBy w' row) (hne : some g ≠ row) : MapF enc N g f w' := by
  have hlt := h.lt
  obtain ⟨h0, es, ck, hb, he⟩ := h
  exact ⟨h0, es, ck, (hg.block g hlt hne).trans hb, he⟩
theorem MapF.lower {α : Type} {enc : α → Value} {N M g : Nat} {f : ByteArray → Option α} {w : World} (h : MapF enc N g f w) (hM : M ≤ N) : MapF enc M g f w := ⟨Nat.le_trans hM h.1, h.2⟩
theorem MapF.lasts2 {α : Type} {enc : α → Value} {N M : Nat} {row : Option Nat} {Tt : List TypeId} {g : Nat} {f : ByteArray → Option α} : Lasts2 N row Tt (MapF enc M g f) :=
  ⟨fun w w' h hx => hx.kept h (by simp),
   fun w w' r T c h1 _ _ h3 hx => hx.kept h3 (fun e => by
     have e2 : g = r := by injection e
     subst e2
     obtain ⟨_, es, ck, hb, _⟩ := hx
     rw [h1] at hb; cases hb)⟩
theorem MapF.far {α : Type} {enc : α → Value} {N M g g1 : Nat} {f : ByteArray → Option α} (hne : g1 ≠ g) : ∀ w w' : World, N ≤ g → w.grownBy w' (some g) → MapF enc M g1 f w → MapF enc M g1 f w' :=
  fun _ _ _ hg h => h.kept hg (fun e => hne (by injection e))
theorem SlOld.far {α : Type} {enc : α → List Value} {k N g : Nat} {T : TypeId} {row : Option Nat} {A : Option Addr} {n : Nat} {l : List α} : ∀ w w' : World, N ≤ g → w.grownBy w' (some g) → SlOld enc k T N row A n l w → SlOld enc k T N row A n l w' := fun w w' h1 h2 ⟨h3, h4⟩ => by
  refine ⟨⟨h3.len, fun hn => ?_⟩, h4⟩
  obtain ⟨b, off, cells, fz, e, hh, hr⟩ := h3.at_ hn
  exact ⟨b, off, cells, fz, e, (h2.block b (Array.getElem?_eq_some_iff.1 hh).1 (fun e2 => by
    have e3 : b = g := by injection e2
    obtain ⟨h5, _⟩ := h4 b off e hn
    omega)).trans hh, hr⟩
section
variable {α : Type} {enc : α → Value} {f : ByteArray → Option α} {es : Array MapEntry} {ck : Nat}
theorem Entries.nil : Entries enc fNil #[] 0 := ⟨stamped_empty 0, by simp, fun k v => by simp [fNil]⟩
/-- Where a key is, or that it is not there. -/
theorem Entries.find (h : Entries enc f es ck) (k : ByteArray) : (Instr.findNow .string (.string k) es.toList 0 = some none ∧ f k = none ∧ ∀ x ∈ es.toList, x.key ≠ .string k) ∨ ∃ j e x, Instr.findNow .string (.string k) es.toList 0 = some (some (j, e.val)) ∧ es[j]? = some e ∧ e.key = .string k ∧ f k = some x ∧ e.val = enc x := by
  have hk : IsKey .string (.string k) := trivial
  rcases findNow_spec hk es.toList 0 h.2.1 with ⟨h1, h2⟩ | ⟨j, e, h1, h2, h3⟩
  · left
    refine ⟨h1, ?_, h2⟩
    cases hf : f k with
    | none => rfl
    | some x =>
      obtain ⟨e, he, hek, _⟩ := (h.2.2 k (enc x)).2 ⟨x, hf, rfl⟩
      exact absurd hek (h2 e he)
  · right
    obtain ⟨x, hx, hv⟩ := (h.2.2 k e.val).1 ⟨e, List.mem_of_getElem? h2, h3, rfl⟩
    refine ⟨j, e, x, by simpa using h1, by simpa using h2, h3, hx, hv⟩
theorem Entries.push (h : Entries enc f es ck) {k : ByteArray} (x : α) (hn : ∀ y ∈ es.toList, y.key ≠ .string k) : Entries enc (fPut f k x) (es.push ⟨.string k, enc x, ck⟩) (ck + 1) := by
  refine ⟨stamped_push h.1 hn, fun y hy => ?_, fun j v => ?_⟩
  · simp only [Array.toList_push, List.mem_append, List.mem_singleton] at hy
    rcases hy with hy | rfl
    · exact h.2.1 y hy
    · trivial
  · simp only [Array.toList_push, List.mem_append, List.mem_singleton]
    by_cases hj : j = k
    · subst hj
      rw [fPut_same]
      constructor
      · rintro ⟨e, he | rfl, h1, h2⟩
        · exact absurd h1 (hn e he)
        · exact ⟨x, rfl, h2.symm⟩
      · rintro ⟨y, hy, rfl⟩
        cases hy
        exact ⟨_, .inr rfl, rfl, rfl⟩
    · rw [fPut_other _ _ hj, ← h.2.2 j v]
      constructor
      · rintro ⟨e, he | rfl, h1, h2⟩
        · exact ⟨e, he, h1, h2⟩
        · injection h1 with h1
          exact absurd h1.symm hj
      · rintro ⟨e, he, h1, h2⟩
        exact ⟨e, .inl he, h1, h2⟩
theorem nodup_at {es : Array MapEntry} (h : (es.toList.map (·.key)).Nodup) {i j : Nat} {a b : MapEntry} (ha : es[i]? = some a) (hb : es[j]? = some b) (hk : a.key = b.key) : i = j := by
  have h1 : (es.toList.map (·.key))[i]? = some a.key := by rw [List.getElem?_map]; simp [ha]
  have h2 : (es.toList.map (·.key))[j]? = some a.key := by rw [List.getElem?_map]; simp [hb, hk]
  obtain ⟨hi, e1⟩ := List.getElem?_eq_some_iff.1 h1
  obtain ⟨hj, e2⟩ := List.getElem?_eq_some_iff.1 h2
  have hp := List.pairwise_iff_getElem.1 h
  rcases Nat.lt_trichotomy i j with hlt | rfl | hlt
  · exact absurd (e1.trans e2.symm) (hp i j hi hj hlt)
  · rfl
  · exact absurd (e2.trans e1.symm) (hp j i hj hi hlt)
theorem mem_at {es : Array MapEntry} {e : MapEntry} (h : e ∈ es.toList) : ∃ i : Nat, es[i]? = some e := by
  obtain ⟨i, hi⟩ := List.getElem?_of_mem h
  exact ⟨i, by simpa using hi⟩
theorem Entries.modify (h : Entries enc f es ck) {k : ByteArray} (x : α) {j : Nat} {e : MapEntry} (he : es[j]? = some e) (hk : e.key = .string k) : Entries enc (fPut f k x) (es.modify j fun e => { e with key := .string k, val := enc x }) ck := by
  have hkey : ∀ e', es[j]? = some e' → ({ e' with key := .string k, val := enc x } : MapEntry).key = e'.key := fun e' he' => by rw [he] at he'; cases he'; exact hk.symm
  refine ⟨stamped_modify h.1 _ _ (fun _ _ => rfl) (fun e' _ he' => hkey e' he'), isKey_modify h.2.1 _ _ hkey, fun i v => ?_⟩
  have hat : ∀ q, (es.modify j fun e => { e with key := .string k, val := enc x })[q]? = if j = q then (es[q]?).map (fun e => { e with key := .string k, val := enc x }) else es[q]? := fun q => by rw [Array.getElem?_modify]
  have hmem : ∀ y, y ∈ (es.modify j fun e => { e with key := .string k, val := enc x }).toList ↔ ∃ q, (es.modify j fun e => { e with key := .string k, val := enc x })[q]? = some y := fun y =>
    ⟨fun hy => mem_at hy, fun ⟨q, hq⟩ => by
      have : (es.modify j fun e => { e with key := .string k, val := enc x }).toList[q]? = some y := by rw [Array.getElem?_toList]; exact hq
      exact List.mem_of_getElem? this⟩
  by_cases hi : i = k
  · subst hi
    rw [fPut_same]
    constructor
    · rintro ⟨y, hy, h1, h2⟩
      obtain ⟨q, hq⟩ := (hmem y).1 hy
      rw [hat] at hq
      split at hq
      · rename_i hjq
        subst hjq
        rw [he] at hq
        cases hq
        exact ⟨x, rfl, h2.symm⟩
      · rename_i hjq
        exact absurd (nodup_at h.1.2.2 he hq (hk.trans h1.symm)) hjq
    · rintro ⟨y, hy, rfl⟩
      cases hy
      exact ⟨{ e with key := .string i, val := enc x }, (hmem _).2 ⟨j, by rw [hat, if_pos rfl, he]; rfl⟩, rfl, rfl⟩
  · rw [fPut_other _ _ hi, ← h.2.2 i v]
    constructor
    · rintro ⟨y, hy, h1, h2⟩
      obtain ⟨q, hq⟩ := (hmem y).1 hy
      rw [hat] at hq
      split at hq
      · rename_i hjq
        subst hjq
        rw [he] at hq
        cases hq
        injection h1 with h1
        exact absurd h1.symm hi
      · exact ⟨y, List.mem_of_getElem? (i := q) (by simpa using hq), h1, h2⟩
    · rintro ⟨y, hy, h1, h2⟩
      obtain ⟨q, hq⟩ := mem_at hy
      refine ⟨y, (hmem y).2 ⟨q, ?_⟩, h1, h2⟩
      rw [hat, if_neg (fun e2 => ?_), hq]
      subst e2
      rw [he] at hq
      cases hq
      rw [hk] at h1
      injection h1 with h1
      exact hi h1.symm
theorem Entries.erase (h : Entries enc f es ck) {k : ByteArray} {j : Nat} {e : MapEntry} (he : es[j]? = some e) (hk : e.key = .string k) : Entries enc (fDel f k) (es.eraseIdxIfInBounds j) ck := by
  have hjlt : j < es.size := (Array.getElem?_eq_some_iff.1 he).1
  have hl : (es.eraseIdxIfInBounds j).toList = es.toList.eraseIdx j := by
    unfold Array.eraseIdxIfInBounds
    rw [dif_pos hjlt, Array.toList_eraseIdx]
  have hmem : ∀ y, y ∈ (es.eraseIdxIfInBounds j).toList ↔ ∃ q, q ≠ j ∧ es[q]? = some y := fun y => by
    rw [hl, List.mem_eraseIdx_iff_getElem?]
    simp
  have hsub : ∀ x ∈ (es.eraseIdxIfInBounds j).toList, x ∈ es.toList := fun x hx => by
    rw [hl] at hx
    exact (List.eraseIdx_sublist _ _).subset hx
  refine ⟨stamped_erase h.1 _, fun x hx => h.2.1 x (hsub x hx), fun i v => ?_⟩
  by_cases hi : i = k
  · subst hi
    rw [fDel_same]
    constructor
    · rintro ⟨y, hy, h1, h2⟩
      obtain ⟨q, hq, hy2⟩ := (hmem y).1 hy
      exact absurd (nodup_at h.1.2.2 hy2 he (h1.trans hk.symm)) hq
    · rintro ⟨y, hy, _⟩
      cases hy
  · rw [fDel_other _ hi, ← h.2.2 i v]
    constructor
    · rintro ⟨y, hy, h1, h2⟩
      exact ⟨y, hsub y hy, h1, h2⟩
    · rintro ⟨y, hy, h1, h2⟩
      obtain ⟨q, hq⟩ := mem_at hy
      refine ⟨y, (hmem y).2 ⟨q, fun e2 => ?_, hq⟩, h1, h2⟩
      subst e2
      rw [he] at hq
      cases hq
      rw [hk] at h1
      injection h1 with h1
      exact hi h1.symm
theorem Entries.same (h : Entries enc f es ck) {k : ByteArray} (hn : f k = none) : Entries enc (fDel f k) es ck := by
  have e : fDel f k = f := by
    funext j
    by_cases hj : j = k
    · subst hj; rw [fDel_same, hn]
    · rw [fDel_other _ hj]
  rw [e]; exact h
end
section
variable {P : Program} {c : Cx} {ops : Array Oper} {Q : Exit → Act → World → Prop} {rest : List Oper} {S : List (Nat × Value)} {K : World → Prop} {L : List (Nat × TypeId × List Value)} {O : List Own} {X X' : List (World → Prop)} {Z : World → Prop} {nn : Nat}
variable {d : Nat} {ty : TypeId} {pos : String} {aft : Array Edge} {α : Type} {enc : α → Value} {f : ByteArray → Option α}
theorem ov_lookFok {t k e : TypeId} {x y : Operand} {N g : Nat} {s : ByteArray} (z : α) (ht : mapTy P t = some (k, e)) (hk : strTy P k = true) (hzz : (P.info? e).bind (·.zero) = some (enc z)) (hx : rd S x = some (.map (some g))) (hy : rd S y = some (.string s)) (hm : ∀ w, Z w → MapF enc N g f w) :
    OV P nn S Z ⟨some d, .lookup t x y true, ty, pos, aft, none⟩ (.tuple #[enc ((f s).getD z), .bool (f s).isSome]) := fun a w ha hz => by
  obtain ⟨_, es, ck, hb, he⟩ := hm w hz
  have hzero : (zeroValue e).run P w = .ok (enc z) w := by
    cases hi : P.info? e with
    | none => simp [hi] at hzz
    | some inf => simp [zeroValue, typeInfo, hi, (by simpa [hi] using hzz : inf.zero = some (enc z))]
  rcases he.find s with ⟨hf, hn, _⟩ | ⟨j, en, xv, hf, _, _, hn, hv⟩
  · simp [execOp, ha.eval hx, ha.eval hy, Instr.lookup, run_underlying (mapTy_u ht), MapKept.run_getObj_map hb, check_str hk, find_str hk hf, hzero, hn, Result.andThen]
  · simp [execOp, ha.eval hx, ha.eval hy, Instr.lookup, run_underlying (mapTy_u ht), MapKept.run_getObj_map hb, check_str hk, find_str hk hf, hn, hv, Result.andThen]
theorem wl_makeMapF {t : TypeId} (hd : Nat.ble (d + 1) c.n = true) (h : ∀ g, WL P c ops Q rest ((d, .map (some g)) :: S) K L O (MapF enc c.w0.heap.size g fNil :: X)) : WL P c ops Q (⟨some d, .makeMap t none, ty, pos, aft, none⟩ :: rest) S K L O X := by
  intro a w ha hm
  refine wpList_plain rfl fun K' hK => ?_
  unfold Oper.wp
  have : (execOp a.eval ⟨some d, .makeMap t none, ty, pos, aft, none⟩).run P w = .ok (.value (.map (some w.heap.size))) (w.alloc (.map #[] 0)) := by
    simp [execOp, Instr.makeMap]
  rw [this]
  exact hK _ _ (h _ _ _ (ha.put hd _) ((hm.grow (grow_alloc (World.grownBy.refl w none) _)).also MapF.lasts2 ⟨hm.g.size, _, _, (MapKept.heap_alloc w _).1, Entries.nil⟩))
/-- .. beside another map: the two are two. -/
theorem wl_makeMapN {β : Type} {enc2 : β → Value} {f2 : ByteArray → Option β} {g2 M : Nat} {t : TypeId} (i : Nat) (hi : X[i]? = some (MapF enc2 M g2 f2)) (hd : Nat.ble (d + 1) c.n = true) (h : ∀ g, g2 ≠ g → WL P c ops Q rest ((d, .map (some g)) :: S) K L O (MapF enc c.w0.heap.size g fNil :: X)) : WL P c ops Q (⟨some d, .makeMap t none, ty, pos, aft, none⟩ :: rest) S K L O X := by
  intro a w ha hm
  refine wpList_plain rfl fun K' hK => ?_
  unfold Oper.wp
  have : (execOp a.eval ⟨some d, .makeMap t none, ty, pos, aft, none⟩).run P w = .ok (.value (.map (some w.heap.size))) (w.alloc (.map #[] 0)) := by
    simp [execOp, Instr.makeMap]
  rw [this]
  have hlt : g2 < w.heap.size := MapF.lt (hm.fact i hi)
  exact hK _ _ (h _ (by omega) _ _ (ha.put hd _) ((hm.grow (grow_alloc (World.grownBy.refl w none) _)).also MapF.lasts2 ⟨hm.g.size, _, _, (MapKept.heap_alloc w _).1, Entries.nil⟩))
theorem wl_mapPut {t k e : TypeId} {x y z : Operand} {g : Nat} {s : ByteArray} {v : α} (i : Nat) (ht : mapTy P t = some (k, e)) (hk : strTy P k = true) (hx : rd S x = some (.map (some g))) (hy : rd S y = some (.string s)) (hz : rd S z = some (enc v)) (hi : X[i]? = some (MapF enc c.w0.heap.size g f))
    (hX : ∀ A ∈ X', (∀ w w', c.w0.heap.size ≤ g → w.grownBy w' (some g) → A w → A w') ∧ A ∈ X)
    (h : WL P c ops Q rest S K L O (MapF enc c.w0.heap.size g (fPut f s v) :: X')) : WL P c ops Q (⟨none, .mapUpdate t x y z, ty, pos, aft, none⟩ :: rest) S K L O X := by
  intro a w ha hm
  refine wpList_plain rfl fun K' hK => ?_
  obtain ⟨hg, es, ck, hb, he⟩ := hm.fact i hi
  have hdone : ∀ es' ck', Entries enc (fPut f s v) es' ck' → Mem c K L O (MapF enc c.w0.heap.size g (fPut f s v) :: X') (setBlock w g (.map es' ck')) := fun es' ck' he' => hm.mapped hg hb fun A hA => by
    rcases List.mem_cons.1 hA with rfl | hA
    · exact ⟨⟨hg, _, _, ChangeMaps.heap_setBlock_same hb _, he'⟩, MapF.lasts2⟩
    · exact ⟨(hX A hA).1 _ _ hg (grow_set hb) (hm.x A (hX A hA).2), hm.l A (hX A hA).2⟩
  unfold Oper.wp
  rcases he.find s with ⟨hf, _, hn⟩ | ⟨j, en, xv, hf, hj, hkk, _, _⟩
  · have : (execOp a.eval ⟨none, .mapUpdate t x y z, ty, pos, aft, none⟩).run P w = .ok .skip (setBlock w g (.map (es.push ⟨.string s, enc v, ck⟩) (ck + 1))) := by
      simp [execOp, ha.eval hx, ha.eval hy, ha.eval hz, Instr.mapUpdate, run_underlying (mapTy_u ht), MapKept.run_getObj_map hb, MapKept.run_setObj_map _ hb, check_str hk, find_str hk hf, Result.andThen, setBlock]
    rw [this]
    exact hK _ _ (h _ _ ha (hdone _ _ (he.push v hn)))
  · have : (execOp a.eval ⟨none, .mapUpdate t x y z, ty, pos, aft, none⟩).run P w = .ok .skip (setBlock w g (.map (es.modify j fun e => { e with key := .string s, val := enc v }) ck)) := by
      simp [execOp, ha.eval hx, ha.eval hy, ha.eval hz, Instr.mapUpdate, run_underlying (mapTy_u ht), MapKept.run_getObj_map hb, MapKept.run_setObj_map _ hb, check_str hk, find_str hk hf, hj, hkk, run_keyThatStays (show IsKey .string (.string s) from trivial), Result.andThen, setBlock]
    rw [this]
    exact hK _ _ (h _ _ ha (hdone _ _ (he.modify v hj hkk)))
theorem wl_mapDel {t k e : TypeId} {x y : Operand} {g : Nat} {s : ByteArray} {dst : Option Nat} (i : Nat) (ht : mapTy P t = some (k, e)) (hk : strTy P k = true) (hx : rd S x = some (.map (some g))) (hy : rd S y = some (.string s)) (hdst : dst = none) (hi : X[i]? = some (MapF enc c.w0.heap.size g f))
    (hX : ∀ A ∈ X', (∀ w w', c.w0.heap.size ≤ g → w.grownBy w' (some g) → A w → A w') ∧ A ∈ X)
    (h : WL P c ops Q rest S K L O (MapF enc c.w0.heap.size g (fDel f s) :: X')) : WL P c ops Q (⟨dst, .call ⟨.builtin .delete, #[x, y], #[t, k]⟩, ty, pos, aft, none⟩ :: rest) S K L O X := by
  subst hdst
  intro a w ha hm
  refine wpList_plain rfl fun K' hK => ?_
  obtain ⟨hg, es, ck, hb, he⟩ := hm.fact i hi
  have hdone : ∀ es' ck', Entries enc (fDel f s) es' ck' → Mem c K L O (MapF enc c.w0.heap.size g (fDel f s) :: X') (setBlock w g (.map es' ck')) := fun es' ck' he' => hm.mapped hg hb fun A hA => by
    rcases List.mem_cons.1 hA with rfl | hA
    · exact ⟨⟨hg, _, _, ChangeMaps.heap_setBlock_same hb _, he'⟩, MapF.lasts2⟩
    · exact ⟨(hX A hA).1 _ _ hg (grow_set hb) (hm.x A (hX A hA).2), hm.l A (hX A hA).2⟩
  unfold Oper.wp
  rcases he.find s with ⟨hf, hn0, _⟩ | ⟨j, en, xv, hf, hj, hkk, _, _⟩
  · have : (execOp a.eval ⟨none, .call ⟨.builtin .delete, #[x, y], #[t, k]⟩, ty, pos, aft, none⟩).run P w = .ok (.value (.tuple #[])) (setBlock w g (.map es ck)) := by
      simp [execOp, resolve, invoke, builtin, ha.eval hx, ha.eval hy, Builtin.delete_, run_underlying (mapTy_u ht), MapKept.run_getObj_map hb, MapKept.run_setObj_map _ hb, check_str hk, find_str hk hf, Result.andThen, setBlock]
    rw [this]
    exact hK _ _ (h _ _ ha (hdone _ _ (he.same hn0)))
  · have : (execOp a.eval ⟨none, .call ⟨.builtin .delete, #[x, y], #[t, k]⟩, ty, pos, aft, none⟩).run P w = .ok (.value (.tuple #[])) (setBlock w g (.map (es.eraseIdxIfInBounds j) ck)) := by
      simp [execOp, resolve, invoke, builtin, ha.eval hx, ha.eval hy, Builtin.delete_, run_underlying (mapTy_u ht), MapKept.run_getObj_map hb, MapKept.run_setObj_map _ hb, check_str hk, find_str hk hf, Result.andThen, setBlock]
    rw [this]
    exact hK _ _ (h _ _ ha (hdone _ _ (he.erase hj hkk)))
end
end Go.Proofs.YtjecbkgjabnmoaaGreatDoor
namespace Go.Proofs.YtjecbkgjabnmoaaGreatDoor
open Go.RowKit
abbrev SMap := ByteArray → Option ByteArray
/-- A vehicle gets a plate. -/
def wearG (F G : SMap) (p : Pl) : SMap := match F p.veh with
  | some old => fDel G old
  | none => G
def wearF (F G : SMap) (p : Pl) : SMap := match wearG F G p p.plate with
  | some old => fDel F old
  | none => F
def wear (s : SMap × SMap) (p : Pl) : SMap × SMap := (fPut (wearF s.1 s.2 p) p.veh p.plate, fPut (wearG s.1 s.2 p) p.plate p.veh)
def wornAt (l : List Pl) (at_ : Int) : SMap × SMap := (l.takeWhile fun p => decide (p.fr ≤ at_)).foldl wear (fNil, fNil)
theorem worn_from {l : List Pl} {at_ : Int} {s : SMap × SMap} {i : Nat} {p : Pl} (h : l[i]? = some p) (hp : p.fr ≤ at_) : ((l.drop i).takeWhile fun p => decide (p.fr ≤ at_)).foldl wear s = ((l.drop (i + 1)).takeWhile fun p => decide (p.fr ≤ at_)).foldl wear (wear s p) := by
  obtain ⟨hi, rfl⟩ := List.getElem?_eq_some_iff.1 h
  rw [List.drop_eq_getElem_cons hi, List.takeWhile_cons, if_pos (decide_eq_true hp)]; rfl
theorem worn_stop {l : List Pl} {at_ : Int} {s : SMap × SMap} {i : Nat} {p : Pl} (h : l[i]? = some p) (hp : ¬ p.fr ≤ at_) : ((l.drop i).takeWhile fun p => decide (p.fr ≤ at_)).foldl wear s = s := by
  obtain ⟨hi, rfl⟩ := List.getElem?_eq_some_iff.1 h
  rw [List.drop_eq_getElem_cons hi, List.takeWhile_cons, if_neg (by simpa using hp)]; rfl
theorem worn_end {l : List Pl} {at_ : Int} {s : SMap × SMap} {i : Nat} (h : l.length ≤ i) : ((l.drop i).takeWhile fun p => decide (p.fr ≤ at_)).foldl wear s = s := by
  rw [List.drop_eq_nil_of_le h]; rfl
theorem plates_any (pl : List Pl) (sA cA vA pA : Option Addr) (sn sc cn cc vn vc pn pc : Nat) (mt : Int) (w : World) (hp : SlT plEnc 3 143 w pA pn pl) (hpn : pn ≤ 1000000) :
  Calls Tryz.prog 82 #[.agg #[.slice sA sn sc, .slice cA cn cc, .slice vA vn vc, .slice pA pn pc], .int .i64 mt] w (fun e w' => ∃ g1 g2 : Nat, e = .returned (.tuple #[.map (some g1), .map (some g2)]) ∧ MapF Value.string 0 g1 (wornAt pl mt).1 w' ∧ MapF Value.string 0 g2 (wornAt pl mt).2 w' ∧ w.grownBy w' none) := by
 refine gw_enter ⟨58, w, none, []⟩ Tryz.func82 rfl Tryz.ntmps82 rfl (mem0 (X := [SlOld plEnc 3 143 w.heap.size none pA pn pl]) (allF_cons hp.old allF_nil) (allL_cons SlOld.lasts allL_nil)) ?_
 refine sr_ ?_
 have hlen := hp.len
 obtain ⟨W, hW⟩ : ∃ z, z = wornAt pl mt := ⟨_, rfl⟩
 rw [← hW]
 refine wl_box rfl rfl rfl fun g1 => ?_
 refine sg_ rfl (sg_ rfl (nn_ (sr_ ?_)))
 refine wl_makeMapF (enc := Value.string) rfl fun g2 => ?_
 refine wl_makeMapN (enc := Value.string) 0 rfl rfl fun g3 hne_g3 => ?_
 refine sg_ rfl (sg_ rfl (nn_ (gw_seq (sr_ (fd_ fo31_3 rfl rfl (lk_ sc29 0 rfl rfl rfl (wl_ov (ov_len es29 rfl) rfl (mv_ rfl (nn_ (gw_block ?_))))))))))
 refine gw_loop (γ := Nat × SMap × SMap) (fun gg => gg.1 ≤ pn ∧ ((pl.drop gg.1).takeWhile fun p => decide (p.fr ≤ mt)).foldl wear (gg.2.1, gg.2.2) = W) (fun gg => [(1, .int .i64 mt), (4, .map (some g2)), (5, .map (some g3)), (15, .slice pA pn pc), (16, .int .i64 ((pn : Nat) : Int)), (17, .int .i64 ((gg.1 : Nat) : Int))]) (fun gg => fun _ => True) (fun gg => [(g1, 31, [.slice sA sn sc, .slice cA cn cc, .slice vA vn vc, .slice pA pn pc])]) (fun gg => []) (fun gg => [MapF Value.string w.heap.size g3 (gg.2.2), MapF Value.string w.heap.size g2 (gg.2.1), SlOld plEnc 3 143 w.heap.size none pA pn pl]) (fun gg => pn - gg.1) (0, fNil, fNil) ⟨Nat.zero_le _, hW.symm⟩ ⟨rfl, rfl, rfl, rfl, rfl, rfl, trivial⟩ (fun _ hm => hm.pick [0] [] [0, 1, 2] rfl rfl) ?_
 rintro ⟨i, F, G⟩ hinv
 replace hinv : i ≤ pn ∧ ((pl.drop i).takeWhile fun p => decide (p.fr ≤ mt)).foldl wear (F, G) = W := hinv
 dsimp only
 refine sr_ ?_
 obtain ⟨hi0, hF⟩ := hinv
 refine wl_ov (ov_lss rfl rfl) rfl (nn_ (gw_seq ?_))
 refine gw_cond rfl (fun hh => ?_) (fun hh => ?_)
 ·have hi : ((i : Nat) : Int) < ((pn : Nat) : Int) := by simpa using hh
  clear hh
  refine gw_skip (nx_then (gw_seq (gw_block (sr_ ?_))))
  obtain ⟨bp, op, hA, _, _⟩ := hp.get (by omega)
  subst hA
  obtain ⟨x, hx⟩ : ∃ x, pl[i]? = some x := ⟨_, List.getElem?_eq_getElem (by omega)⟩
  obtain ⟨pf, pv, pp⟩ := x
  refine wl_ov (ov_index (j := i) es29 rfl rfl (by omega)) rfl ?_
  refine wl_ov (ov_elem (vs := [.int .i64 pf, .string pv, .string pp]) rz143 rfl (fun _ hm => (hm.fact 2 rfl).1) hx rfl rfl) rfl ?_
  refine wl_alloc zc143 rfl fun g4 => ?_
  refine wl_stores (cs' := [.int .i64 pf, .string pv, .string pp]) 0 rz143 rfl rfl rfl rfl rfl rfl rfl rfl ?_
  refine nn_ (gw_seq (sr_ (fd_ fo143_0 rfl rfl (lk_ sc3 0 rfl rfl rfl (mv_ rfl ?_)))))
  refine wl_ov (ov_gtr rfl rfl) rfl ?_
  refine nn_ ?_
  refine gw_cond rfl (fun hh => ?_) (fun hh => ?_)
  ·have h1 : mt < pf := by simpa using hh
   clear hh
   refine gw_exit ?_
   refine nx_then_exit ?_
   refine nx_blk_on rfl ?_
   refine nx_then_exit (nx_then_exit ?_)
   refine nx_blk_here ?_
   refine nx_then (sr_ (mv_ rfl (mv_ rfl (sg_ rfl (sg_ rfl (nn_ ?_))))))
   refine gw_ret ?_
   have hFW : (F, G) = W := (worn_stop hx (show ¬ (⟨pf, pv, pp⟩ : Pl).fr ≤ mt by dsimp only; omega)).symm.trans hF
   refine nx_ret2 rfl rfl rfl fun wx hm => ?_
   exact ⟨g2, g3, rfl, (by have h := (hm.fact 1 rfl); rw [← hFW]; exact h.lower (Nat.zero_le _)), (by have h := (hm.fact 0 rfl); rw [← hFW]; exact h.lower (Nat.zero_le _)), hm.g⟩
  have h1 : ¬ (mt < pf) := by simpa using hh
  clear hh
  refine gw_skip (nx_then (gw_seq (sr_ ?_)))
  have hst := (worn_from (s := (F, G)) hx (show (⟨pf, pv, pp⟩ : Pl).fr ≤ mt by dsimp only; omega)).symm.trans hF
  rcases hold : F pv with _ | old
  ·rcases hold2 : (G) pp with _ | old2
   ·refine mv_ rfl (fd_ fo143_1 rfl rfl (lk_ sc9 0 rfl rfl rfl ?_))
    refine wl_ov (ov_lookFok (enc := Value.string) (k := 9) (e := 9) ⟨#[]⟩ (by kernel_rfl) (by kernel_rfl) (by kernel_rfl) rfl rfl (fun _ hm => (hm.fact 1 rfl))) rfl ?_
    refine mv_ rfl (wl_ov (ov_extract rfl rfl) rfl (wl_ov (ov_extract rfl rfl) rfl ?_))
    refine wl_set 31 (v' := .bool false) rfl (congrArg Value.bool (by rw [hold]; rfl)) ?_
    refine sg_ rfl (sg_ rfl (nn_ (sr_ (mv_ rfl (nn_ (cf_ rfl (gw_skip (nx_then (gw_seq (gw_seq ?_))))))))))
    refine gw_region (mv_ rfl (fd_ fo143_2 rfl rfl (lk_ sc9 0 rfl rfl rfl ?_)))
    refine wl_ov (ov_lookFok (enc := Value.string) (k := 9) (e := 9) ⟨#[]⟩ (by kernel_rfl) (by kernel_rfl) (by kernel_rfl) rfl rfl (fun _ hm => (hm.fact 0 rfl))) rfl ?_
    refine mv_ rfl (wl_ov (ov_extract rfl rfl) rfl (wl_ov (ov_extract rfl rfl) rfl ?_))
    refine wl_set 41 (v' := .bool false) rfl (congrArg Value.bool (by rw [hold2]; rfl)) ?_
    refine sg_ rfl (sg_ rfl (nn_ (sr_ (mv_ rfl (nn_ (cf_ rfl (gw_skip (nx_then ?_))))))))
    refine gd (fun wz => Blk wz g4 143 [.int .i64 pf, .string pv, .string pp] ∧ Blk wz g1 31 [.slice sA sn sc, .slice cA cn cc, .slice vA vn vc, .slice (some ⟨bp, op, none⟩) pn pc] ∧ (SlOld plEnc 3 143 w.heap.size none (some ⟨bp, op, none⟩) pn pl) wz ∧ True) mixed (fun _ hm => ⟨hm.bl 0, hm.bl 1, hm.fa 2, trivial⟩) fun z => ?_
    refine wt 0 12 1 rfl z (ov_move rfl) ?_
    refine wt 1 12 3 rfl z (ov_field fo143_1 rfl rfl) ?_
    refine wt 2 12 7 rfl z (ov_load sc9 rfl (fun _ hm => hm.1) rfl) ?_
    refine wt 3 12 15 rfl z (ov_move rfl) ?_
    refine wt 4 12 31 rfl z (ov_field fo143_2 rfl rfl) ?_
    refine wt 5 12 63 rfl z (ov_load sc9 rfl (fun _ hm => hm.1) rfl) ?_
    refine wt 6 12 127 rfl z (ov_field fo143_2 rfl rfl) ?_
    refine wt 7 12 255 rfl z (ov_load sc9 rfl (fun _ hm => hm.1) rfl) ?_
    refine wt 8 12 511 rfl z (ov_field fo143_1 rfl rfl) ?_
    refine wt 9 12 1023 rfl z (ov_load sc9 rfl (fun _ hm => hm.1) rfl) ?_
    refine wa1 10 rfl ?_
    refine wl_mapPut (enc := Value.string) (v := pp) (k := 9) (e := 9) (X' := [MapF Value.string w.heap.size g3 (G), SlOld plEnc 3 143 w.heap.size none (some ⟨bp, op, none⟩) pn pl]) 1 (by kernel_rfl) (by kernel_rfl) rfl rfl rfl rfl (far_cons (i := 0) (MapF.far hne_g3.symm) rfl (far_cons (i := 2) SlOld.far rfl far_nil)) ?_
    refine wl_nil ?_
    refine nw 12 2047 (fun _ hm => ⟨hm.bl 0, hm.bl 1, hm.fa 2, trivial⟩) fun z => ?_
    refine wa1 11 rfl ?_
    refine wl_mapPut (enc := Value.string) (v := pv) (k := 9) (e := 9) (X' := [MapF Value.string w.heap.size g2 (fPut (F) pv pp), SlOld plEnc 3 143 w.heap.size none (some ⟨bp, op, none⟩) pn pl]) 1 (by kernel_rfl) (by kernel_rfl) rfl rfl rfl rfl (far_cons (i := 0) (MapF.far hne_g3) rfl (far_cons (i := 2) SlOld.far rfl far_nil)) ?_
    refine wl_nil ?_
    refine nw 12 4095 (fun _ hm => ⟨hm.bl 0, hm.bl 1, hm.fa 2, trivial⟩) fun z => ?_
    refine wa_done (by kernel_rfl) ?_
    refine nx_blk_nrm (nx_then (gw_region (ad_ rfl rfl (mv_ rfl (wl_nil ?_)))))
    have hwr : wear (F, G) ⟨pf, pv, pp⟩ = (fPut (F) pv pp, fPut (G) pp pv) := by unfold wear wearF wearG; simp only [hold, hold2]
    exact nx_round (i + 1, fPut (F) pv pp, fPut (G) pp pv) ⟨by dsimp only; omega, by rw [← hwr]; exact hst⟩ (by dsimp only; omega) ⟨rfl, rfl, rfl, rfl, rfl, (some_int (by omega)), trivial⟩ (fun _ hm => hm.pick [1] [] [0, 1, 2] rfl rfl)
   refine mv_ rfl (fd_ fo143_1 rfl rfl (lk_ sc9 0 rfl rfl rfl ?_))
   refine wl_ov (ov_lookFok (enc := Value.string) (k := 9) (e := 9) ⟨#[]⟩ (by kernel_rfl) (by kernel_rfl) (by kernel_rfl) rfl rfl (fun _ hm => (hm.fact 1 rfl))) rfl ?_
   refine mv_ rfl (wl_ov (ov_extract rfl rfl) rfl (wl_ov (ov_extract rfl rfl) rfl ?_))
   refine wl_set 31 (v' := .bool false) rfl (congrArg Value.bool (by rw [hold]; rfl)) ?_
   refine sg_ rfl (sg_ rfl (nn_ (sr_ (mv_ rfl (nn_ (cf_ rfl (gw_skip (nx_then (gw_seq (gw_seq ?_))))))))))
   refine gw_region (mv_ rfl (fd_ fo143_2 rfl rfl (lk_ sc9 0 rfl rfl rfl ?_)))
   refine wl_ov (ov_lookFok (enc := Value.string) (k := 9) (e := 9) ⟨#[]⟩ (by kernel_rfl) (by kernel_rfl) (by kernel_rfl) rfl rfl (fun _ hm => (hm.fact 0 rfl))) rfl ?_
   refine mv_ rfl (wl_ov (ov_extract rfl rfl) rfl ?_)
   refine wl_set 40 (v' := .string old2) rfl (congrArg Value.string (by rw [hold2]; rfl)) ?_
   refine wl_ov (ov_extract rfl rfl) rfl ?_
   refine wl_set 41 (v' := .bool true) rfl (congrArg Value.bool (by rw [hold2]; rfl)) ?_
   refine sg_ rfl (sg_ rfl (nn_ (sr_ (mv_ rfl (nn_ (ct_ rfl (gw_region (mv_ rfl (mv_ rfl ?_)))))))))
   refine wl_mapDel (enc := Value.string) (k := 9) (e := 9) (X' := [MapF Value.string w.heap.size g3 (G), SlOld plEnc 3 143 w.heap.size none (some ⟨bp, op, none⟩) pn pl]) 1 (by kernel_rfl) (by kernel_rfl) rfl rfl rfl rfl (far_cons (i := 0) (MapF.far hne_g3.symm) rfl (far_cons (i := 2) SlOld.far rfl far_nil)) ?_
   refine nn_ ?_
   refine gd (fun wz => Blk wz g4 143 [.int .i64 pf, .string pv, .string pp] ∧ Blk wz g1 31 [.slice sA sn sc, .slice cA cn cc, .slice vA vn vc, .slice (some ⟨bp, op, none⟩) pn pc] ∧ (SlOld plEnc 3 143 w.heap.size none (some ⟨bp, op, none⟩) pn pl) wz ∧ True) mixed (fun _ hm => ⟨hm.bl 0, hm.bl 1, hm.fa 2, trivial⟩) fun z => ?_
   refine wt 0 12 1 rfl z (ov_move rfl) ?_
   refine wt 1 12 3 rfl z (ov_field fo143_1 rfl rfl) ?_
   refine wt 2 12 7 rfl z (ov_load sc9 rfl (fun _ hm => hm.1) rfl) ?_
   refine wt 3 12 15 rfl z (ov_move rfl) ?_
   refine wt 4 12 31 rfl z (ov_field fo143_2 rfl rfl) ?_
   refine wt 5 12 63 rfl z (ov_load sc9 rfl (fun _ hm => hm.1) rfl) ?_
   refine wt 6 12 127 rfl z (ov_field fo143_2 rfl rfl) ?_
   refine wt 7 12 255 rfl z (ov_load sc9 rfl (fun _ hm => hm.1) rfl) ?_
   refine wt 8 12 511 rfl z (ov_field fo143_1 rfl rfl) ?_
   refine wt 9 12 1023 rfl z (ov_load sc9 rfl (fun _ hm => hm.1) rfl) ?_
   refine wa1 10 rfl ?_
   refine wl_mapPut (enc := Value.string) (v := pp) (k := 9) (e := 9) (X' := [MapF Value.string w.heap.size g3 (G), SlOld plEnc 3 143 w.heap.size none (some ⟨bp, op, none⟩) pn pl]) 0 (by kernel_rfl) (by kernel_rfl) rfl rfl rfl rfl (far_cons (i := 1) (MapF.far hne_g3.symm) rfl (far_cons (i := 2) SlOld.far rfl far_nil)) ?_
   refine wl_nil ?_
   refine nw 12 2047 (fun _ hm => ⟨hm.bl 0, hm.bl 1, hm.fa 2, trivial⟩) fun z => ?_
   refine wa1 11 rfl ?_
   refine wl_mapPut (enc := Value.string) (v := pv) (k := 9) (e := 9) (X' := [MapF Value.string w.heap.size g2 (fPut (fDel (F) old2) pv pp), SlOld plEnc 3 143 w.heap.size none (some ⟨bp, op, none⟩) pn pl]) 1 (by kernel_rfl) (by kernel_rfl) rfl rfl rfl rfl (far_cons (i := 0) (MapF.far hne_g3) rfl (far_cons (i := 2) SlOld.far rfl far_nil)) ?_
   refine wl_nil ?_
   refine nw 12 4095 (fun _ hm => ⟨hm.bl 0, hm.bl 1, hm.fa 2, trivial⟩) fun z => ?_
   refine wa_done (by kernel_rfl) ?_
   refine nx_blk_nrm (nx_then (gw_region (ad_ rfl rfl (mv_ rfl (wl_nil ?_)))))
   have hwr : wear (F, G) ⟨pf, pv, pp⟩ = (fPut (fDel (F) old2) pv pp, fPut (G) pp pv) := by unfold wear wearF wearG; simp only [hold, hold2]
   exact nx_round (i + 1, fPut (fDel (F) old2) pv pp, fPut (G) pp pv) ⟨by dsimp only; omega, by rw [← hwr]; exact hst⟩ (by dsimp only; omega) ⟨rfl, rfl, rfl, rfl, rfl, (some_int (by omega)), trivial⟩ (fun _ hm => hm.pick [1] [] [0, 1, 2] rfl rfl)
  rcases hold2 : (fDel (G) old) pp with _ | old2
  ·refine mv_ rfl (fd_ fo143_1 rfl rfl (lk_ sc9 0 rfl rfl rfl ?_))
   refine wl_ov (ov_lookFok (enc := Value.string) (k := 9) (e := 9) ⟨#[]⟩ (by kernel_rfl) (by kernel_rfl) (by kernel_rfl) rfl rfl (fun _ hm => (hm.fact 1 rfl))) rfl ?_
   refine mv_ rfl (wl_ov (ov_extract rfl rfl) rfl ?_)
   refine wl_set 30 (v' := .string old) rfl (congrArg Value.string (by rw [hold]; rfl)) ?_
   refine wl_ov (ov_extract rfl rfl) rfl ?_
   refine wl_set 31 (v' := .bool true) rfl (congrArg Value.bool (by rw [hold]; rfl)) ?_
   refine sg_ rfl (sg_ rfl (nn_ (sr_ (mv_ rfl (nn_ (ct_ rfl (gw_region (mv_ rfl (mv_ rfl ?_)))))))))
   refine wl_mapDel (enc := Value.string) (k := 9) (e := 9) (X' := [MapF Value.string w.heap.size g2 (F), SlOld plEnc 3 143 w.heap.size none (some ⟨bp, op, none⟩) pn pl]) 0 (by kernel_rfl) (by kernel_rfl) rfl rfl rfl rfl (far_cons (i := 1) (MapF.far hne_g3) rfl (far_cons (i := 2) SlOld.far rfl far_nil)) ?_
   refine nn_ (gw_seq (sr_ (mv_ rfl (fd_ fo143_2 rfl rfl (lk_ sc9 0 rfl rfl rfl ?_)))))
   refine wl_ov (ov_lookFok (enc := Value.string) (k := 9) (e := 9) ⟨#[]⟩ (by kernel_rfl) (by kernel_rfl) (by kernel_rfl) rfl rfl (fun _ hm => (hm.fact 0 rfl))) rfl ?_
   refine mv_ rfl (wl_ov (ov_extract rfl rfl) rfl (wl_ov (ov_extract rfl rfl) rfl ?_))
   refine wl_set 41 (v' := .bool false) rfl (congrArg Value.bool (by rw [hold2]; rfl)) ?_
   refine sg_ rfl (sg_ rfl (nn_ (sr_ (mv_ rfl (nn_ (cf_ rfl (gw_skip (nx_then ?_))))))))
   refine gd (fun wz => Blk wz g4 143 [.int .i64 pf, .string pv, .string pp] ∧ Blk wz g1 31 [.slice sA sn sc, .slice cA cn cc, .slice vA vn vc, .slice (some ⟨bp, op, none⟩) pn pc] ∧ (SlOld plEnc 3 143 w.heap.size none (some ⟨bp, op, none⟩) pn pl) wz ∧ True) mixed (fun _ hm => ⟨hm.bl 0, hm.bl 1, hm.fa 2, trivial⟩) fun z => ?_
   refine wt 0 12 1 rfl z (ov_move rfl) ?_
   refine wt 1 12 3 rfl z (ov_field fo143_1 rfl rfl) ?_
   refine wt 2 12 7 rfl z (ov_load sc9 rfl (fun _ hm => hm.1) rfl) ?_
   refine wt 3 12 15 rfl z (ov_move rfl) ?_
   refine wt 4 12 31 rfl z (ov_field fo143_2 rfl rfl) ?_
   refine wt 5 12 63 rfl z (ov_load sc9 rfl (fun _ hm => hm.1) rfl) ?_
   refine wt 6 12 127 rfl z (ov_field fo143_2 rfl rfl) ?_
   refine wt 7 12 255 rfl z (ov_load sc9 rfl (fun _ hm => hm.1) rfl) ?_
   refine wt 8 12 511 rfl z (ov_field fo143_1 rfl rfl) ?_
   refine wt 9 12 1023 rfl z (ov_load sc9 rfl (fun _ hm => hm.1) rfl) ?_
   refine wa1 10 rfl ?_
   refine wl_mapPut (enc := Value.string) (v := pp) (k := 9) (e := 9) (X' := [MapF Value.string w.heap.size g3 (fDel (G) old), SlOld plEnc 3 143 w.heap.size none (some ⟨bp, op, none⟩) pn pl]) 1 (by kernel_rfl) (by kernel_rfl) rfl rfl rfl rfl (far_cons (i := 0) (MapF.far hne_g3.symm) rfl (far_cons (i := 2) SlOld.far rfl far_nil)) ?_
   refine wl_nil ?_
   refine nw 12 2047 (fun _ hm => ⟨hm.bl 0, hm.bl 1, hm.fa 2, trivial⟩) fun z => ?_
   refine wa1 11 rfl ?_
   refine wl_mapPut (enc := Value.string) (v := pv) (k := 9) (e := 9) (X' := [MapF Value.string w.heap.size g2 (fPut (F) pv pp), SlOld plEnc 3 143 w.heap.size none (some ⟨bp, op, none⟩) pn pl]) 1 (by kernel_rfl) (by kernel_rfl) rfl rfl rfl rfl (far_cons (i := 0) (MapF.far hne_g3) rfl (far_cons (i := 2) SlOld.far rfl far_nil)) ?_
   refine wl_nil ?_
   refine nw 12 4095 (fun _ hm => ⟨hm.bl 0, hm.bl 1, hm.fa 2, trivial⟩) fun z => ?_
   refine wa_done (by kernel_rfl) ?_
   refine nx_blk_nrm (nx_then (gw_region (ad_ rfl rfl (mv_ rfl (wl_nil ?_)))))
   have hwr : wear (F, G) ⟨pf, pv, pp⟩ = (fPut (F) pv pp, fPut (fDel (G) old) pp pv) := by unfold wear wearF wearG; simp only [hold, hold2]
   exact nx_round (i + 1, fPut (F) pv pp, fPut (fDel (G) old) pp pv) ⟨by dsimp only; omega, by rw [← hwr]; exact hst⟩ (by dsimp only; omega) ⟨rfl, rfl, rfl, rfl, rfl, (some_int (by omega)), trivial⟩ (fun _ hm => hm.pick [1] [] [0, 1, 2] rfl rfl)
  refine mv_ rfl (fd_ fo143_1 rfl rfl (lk_ sc9 0 rfl rfl rfl ?_))
  refine wl_ov (ov_lookFok (enc := Value.string) (k := 9) (e := 9) ⟨#[]⟩ (by kernel_rfl) (by kernel_rfl) (by kernel_rfl) rfl rfl (fun _ hm => (hm.fact 1 rfl))) rfl ?_
  refine mv_ rfl (wl_ov (ov_extract rfl rfl) rfl ?_)
  refine wl_set 30 (v' := .string old) rfl (congrArg Value.string (by rw [hold]; rfl)) ?_
  refine wl_ov (ov_extract rfl rfl) rfl ?_
  refine wl_set 31 (v' := .bool true) rfl (congrArg Value.bool (by rw [hold]; rfl)) ?_
  refine sg_ rfl (sg_ rfl (nn_ (sr_ (mv_ rfl (nn_ (ct_ rfl (gw_region (mv_ rfl (mv_ rfl ?_)))))))))
  refine wl_mapDel (enc := Value.string) (k := 9) (e := 9) (X' := [MapF Value.string w.heap.size g2 (F), SlOld plEnc 3 143 w.heap.size none (some ⟨bp, op, none⟩) pn pl]) 0 (by kernel_rfl) (by kernel_rfl) rfl rfl rfl rfl (far_cons (i := 1) (MapF.far hne_g3) rfl (far_cons (i := 2) SlOld.far rfl far_nil)) ?_
  refine nn_ (gw_seq (sr_ (mv_ rfl (fd_ fo143_2 rfl rfl (lk_ sc9 0 rfl rfl rfl ?_)))))
  refine wl_ov (ov_lookFok (enc := Value.string) (k := 9) (e := 9) ⟨#[]⟩ (by kernel_rfl) (by kernel_rfl) (by kernel_rfl) rfl rfl (fun _ hm => (hm.fact 0 rfl))) rfl ?_
  refine mv_ rfl (wl_ov (ov_extract rfl rfl) rfl ?_)
  refine wl_set 40 (v' := .string old2) rfl (congrArg Value.string (by rw [hold2]; rfl)) ?_
  refine wl_ov (ov_extract rfl rfl) rfl ?_
  refine wl_set 41 (v' := .bool true) rfl (congrArg Value.bool (by rw [hold2]; rfl)) ?_
  refine sg_ rfl (sg_ rfl (nn_ (sr_ (mv_ rfl (nn_ (ct_ rfl (gw_region (mv_ rfl (mv_ rfl ?_)))))))))
  refine wl_mapDel (enc := Value.string) (k := 9) (e := 9) (X' := [MapF Value.string w.heap.size g3 (fDel (G) old), SlOld plEnc 3 143 w.heap.size none (some ⟨bp, op, none⟩) pn pl]) 1 (by kernel_rfl) (by kernel_rfl) rfl rfl rfl rfl (far_cons (i := 0) (MapF.far hne_g3.symm) rfl (far_cons (i := 2) SlOld.far rfl far_nil)) ?_
  refine nn_ ?_
  refine gd (fun wz => Blk wz g4 143 [.int .i64 pf, .string pv, .string pp] ∧ Blk wz g1 31 [.slice sA sn sc, .slice cA cn cc, .slice vA vn vc, .slice (some ⟨bp, op, none⟩) pn pc] ∧ (SlOld plEnc 3 143 w.heap.size none (some ⟨bp, op, none⟩) pn pl) wz ∧ True) mixed (fun _ hm => ⟨hm.bl 0, hm.bl 1, hm.fa 2, trivial⟩) fun z => ?_
  refine wt 0 12 1 rfl z (ov_move rfl) ?_
  refine wt 1 12 3 rfl z (ov_field fo143_1 rfl rfl) ?_
  refine wt 2 12 7 rfl z (ov_load sc9 rfl (fun _ hm => hm.1) rfl) ?_
  refine wt 3 12 15 rfl z (ov_move rfl) ?_
  refine wt 4 12 31 rfl z (ov_field fo143_2 rfl rfl) ?_
  refine wt 5 12 63 rfl z (ov_load sc9 rfl (fun _ hm => hm.1) rfl) ?_
  refine wt 6 12 127 rfl z (ov_field fo143_2 rfl rfl) ?_
  refine wt 7 12 255 rfl z (ov_load sc9 rfl (fun _ hm => hm.1) rfl) ?_
  refine wt 8 12 511 rfl z (ov_field fo143_1 rfl rfl) ?_
  refine wt 9 12 1023 rfl z (ov_load sc9 rfl (fun _ hm => hm.1) rfl) ?_
  refine wa1 10 rfl ?_
  refine wl_mapPut (enc := Value.string) (v := pp) (k := 9) (e := 9) (X' := [MapF Value.string w.heap.size g3 (fDel (G) old), SlOld plEnc 3 143 w.heap.size none (some ⟨bp, op, none⟩) pn pl]) 0 (by kernel_rfl) (by kernel_rfl) rfl rfl rfl rfl (far_cons (i := 1) (MapF.far hne_g3.symm) rfl (far_cons (i := 2) SlOld.far rfl far_nil)) ?_
  refine wl_nil ?_
  refine nw 12 2047 (fun _ hm => ⟨hm.bl 0, hm.bl 1, hm.fa 2, trivial⟩) fun z => ?_
  refine wa1 11 rfl ?_
  refine wl_mapPut (enc := Value.string) (v := pv) (k := 9) (e := 9) (X' := [MapF Value.string w.heap.size g2 (fPut (fDel (F) old2) pv pp), SlOld plEnc 3 143 w.heap.size none (some ⟨bp, op, none⟩) pn pl]) 1 (by kernel_rfl) (by kernel_rfl) rfl rfl rfl rfl (far_cons (i := 0) (MapF.far hne_g3) rfl (far_cons (i := 2) SlOld.far rfl far_nil)) ?_
  refine wl_nil ?_
  refine nw 12 4095 (fun _ hm => ⟨hm.bl 0, hm.bl 1, hm.fa 2, trivial⟩) fun z => ?_
  refine wa_done (by kernel_rfl) ?_
  refine nx_blk_nrm (nx_then (gw_region (ad_ rfl rfl (mv_ rfl (wl_nil ?_)))))
  have hwr : wear (F, G) ⟨pf, pv, pp⟩ = (fPut (fDel (F) old2) pv pp, fPut (fDel (G) old) pp pv) := by unfold wear wearF wearG; simp only [hold, hold2]
  exact nx_round (i + 1, fPut (fDel (F) old2) pv pp, fPut (fDel (G) old) pp pv) ⟨by dsimp only; omega, by rw [← hwr]; exact hst⟩ (by dsimp only; omega) ⟨rfl, rfl, rfl, rfl, rfl, (some_int (by omega)), trivial⟩ (fun _ hm => hm.pick [1] [] [0, 1, 2] rfl rfl)
 have hi : ¬ (((i : Nat) : Int) < ((pn : Nat) : Int)) := by simpa using hh
 clear hh
 refine gw_exit ?_
 refine nx_then_exit (nx_then_exit ?_)
 refine nx_blk_here ?_
 refine nx_then (sr_ (mv_ rfl (mv_ rfl (sg_ rfl (sg_ rfl (nn_ ?_))))))
 refine gw_ret ?_
 have hFW : (F, G) = W := (worn_end (by omega)).symm.trans hF
 refine nx_ret2 rfl rfl rfl fun wx hm => ?_
 exact ⟨g2, g3, rfl, (by have h := (hm.fact 1 rfl); rw [← hFW]; exact h.lower (Nat.zero_le _)), (by have h := (hm.fact 0 rfl); rw [← hFW]; exact h.lower (Nat.zero_le _)), hm.g⟩
end Go.Proofs.YtjecbkgjabnmoaaGreatDoor
namespace Go.Proofs.YtjecbkgjabnmoaaGreatDoor
open Go.RowKit
/-- Two maps say one relation, one each way. -/
def Graph (F G : SMap) (R : ByteArray → ByteArray → Prop) : Prop := (∀ v q, F v = some q ↔ R v q) ∧ ∀ v q, G q = some v ↔ R v q
theorem graph_wear {F G : SMap} {R : ByteArray → ByteArray → Prop} (p : Pl) (h : Graph F G R) : Graph (wear (F, G) p).1 (wear (F, G) p).2 fun v q => (v = p.veh ∧ q = p.plate) ∨ (R v q ∧ v ≠ p.veh ∧ q ≠ p.plate) := by
  obtain ⟨hF, hG⟩ := h
  have hG1 : ∀ v q, q ≠ p.plate → (wearG F G p q = some v ↔ R v q ∧ v ≠ p.veh) := fun v q hq => by
    unfold wearG
    cases ho : F p.veh with
    | none =>
      refine ⟨fun h => ⟨(hG v q).1 h, fun e => ?_⟩, fun h => (hG v q).2 h.1⟩
      subst e
      rw [(hF _ _).2 ((hG _ _).1 h)] at ho; cases ho
    | some old =>
      have hr := (hF _ _).1 ho
      by_cases hqo : q = old
      · subst hqo
        simp only [fDel_same]
        refine ⟨(fun h => by cases h), fun ⟨h1, h2⟩ => absurd ?_ h2⟩
        have e1 := (hG _ _).2 h1
        rw [(hG _ _).2 hr] at e1
        injection e1 with e1
        exact e1.symm
      · simp only [fDel_other _ hqo]
        refine ⟨fun h => ⟨(hG v q).1 h, fun e => ?_⟩, fun h => (hG v q).2 h.1⟩
        subst e
        have e1 := (hF _ _).2 ((hG _ _).1 h)
        rw [ho] at e1
        injection e1 with e1
        exact hqo e1.symm
  have hGp : ∀ v, wearG F G p p.plate = some v → R v p.plate := fun v hv => by
    unfold wearG at hv
    cases ho : F p.veh with
    | none => simp only [ho] at hv; exact (hG _ _).1 hv
    | some old =>
      simp only [ho] at hv
      by_cases hqo : p.plate = old
      · rw [hqo, fDel_same] at hv; cases hv
      · rw [fDel_other _ hqo] at hv; exact (hG _ _).1 hv
  have hGn : ∀ v, R v p.plate → v ≠ p.veh → wearG F G p p.plate = some v := fun v hv hne => by
    unfold wearG
    cases ho : F p.veh with
    | none => exact (hG _ _).2 hv
    | some old =>
      have hr := (hF _ _).1 ho
      by_cases hqo : p.plate = old
      · exfalso
        subst hqo
        have e1 := (hG _ _).2 hv
        rw [(hG _ _).2 hr] at e1
        injection e1 with e1
        exact hne e1.symm
      · simp only [fDel_other _ hqo]; exact (hG _ _).2 hv
  have hF1 : ∀ v q, v ≠ p.veh → (wearF F G p v = some q ↔ R v q ∧ q ≠ p.plate) := fun v q hv => by
    unfold wearF
    cases ho : wearG F G p p.plate with
    | none =>
      refine ⟨fun h => ⟨(hF v q).1 h, fun e => ?_⟩, fun h => (hF v q).2 h.1⟩
      subst e
      rw [hGn v ((hF _ _).1 h) hv] at ho; cases ho
    | some old =>
      have hr := hGp old ho
      by_cases hvo : v = old
      · subst hvo
        simp only [fDel_same]
        refine ⟨(fun h => by cases h), fun ⟨h1, h2⟩ => absurd ?_ h2⟩
        have e1 := (hF _ _).2 h1
        rw [(hF _ _).2 hr] at e1
        injection e1 with e1
        exact e1.symm
      · simp only [fDel_other _ hvo]
        refine ⟨fun h => ⟨(hF v q).1 h, fun e => ?_⟩, fun h => (hF v q).2 h.1⟩
        subst e
        have e1 := hGn v ((hF _ _).1 h) hv
        rw [ho] at e1
        injection e1 with e1
        exact hvo e1.symm
  refine ⟨fun v q => ?_, fun v q => ?_⟩
  · show fPut (wearF F G p) p.veh p.plate v = some q ↔ _
    by_cases hv : v = p.veh
    · subst hv
      rw [fPut_same]
      exact ⟨fun h => by injection h with h; exact .inl ⟨rfl, h.symm⟩, fun h => by
        rcases h with ⟨_, rfl⟩ | ⟨_, h2, _⟩
        · rfl
        · exact absurd rfl h2⟩
    · rw [fPut_other _ _ hv, hF1 v q hv]
      exact ⟨fun h => .inr ⟨h.1, hv, h.2⟩, fun h => by
        rcases h with ⟨h1, _⟩ | ⟨h1, _, h3⟩
        · exact absurd h1 hv
        · exact ⟨h1, h3⟩⟩
  · show fPut (wearG F G p) p.plate p.veh q = some v ↔ _
    by_cases hq : q = p.plate
    · subst hq
      rw [fPut_same]
      exact ⟨fun h => by injection h with h; exact .inl ⟨h.symm, rfl⟩, fun h => by
        rcases h with ⟨rfl, _⟩ | ⟨_, _, h3⟩
        · rfl
        · exact absurd rfl h3⟩
    · rw [fPut_other _ _ hq, hG1 v q hq]
      exact ⟨fun h => .inr ⟨h.1, h.2, hq⟩, fun h => by
        rcases h with ⟨_, h1⟩ | ⟨h1, h2, _⟩
        · exact absurd h1 hq
        · exact ⟨h1, h2⟩⟩
/-- A plate of a list that no later one takes away. -/
def LiveR (e : List Pl) (v q : ByteArray) : Prop := ∃ (i : Nat) (p : Pl), e[i]? = some p ∧ p.veh = v ∧ p.plate = q ∧ ∀ (j : Nat) (o : Pl), i < j → e[j]? = some o → o.veh ≠ p.veh ∧ o.plate ≠ p.plate
theorem live_snoc {e : List Pl} {p : Pl} {v q : ByteArray} : LiveR (e ++ [p]) v q ↔ (v = p.veh ∧ q = p.plate) ∨ (LiveR e v q ∧ v ≠ p.veh ∧ q ≠ p.plate) := by
  constructor
  · rintro ⟨i, x, hx, rfl, rfl, hl⟩
    rcases Nat.lt_or_ge i e.length with h1 | h1
    · right
      rw [List.getElem?_append_left h1] at hx
      have hp := hl e.length p h1 (by simp)
      refine ⟨⟨i, x, hx, rfl, rfl, fun j o hj ho => hl j o hj ?_⟩, fun h => hp.1 h.symm, fun h => hp.2 h.symm⟩
      rw [List.getElem?_append_left (List.getElem?_eq_some_iff.1 ho).1]; exact ho
    · left
      rw [List.getElem?_append_right h1] at hx
      have : i - e.length = 0 := by
        have := (List.getElem?_eq_some_iff.1 hx).1
        simpa using this
      rw [this] at hx
      simp at hx
      subst hx
      exact ⟨rfl, rfl⟩
  · rintro (⟨rfl, rfl⟩ | ⟨⟨i, x, hx, rfl, rfl, hl⟩, h1, h2⟩)
    · refine ⟨e.length, p, by simp, rfl, rfl, fun j o hj ho => ?_⟩
      rw [List.getElem?_append_right (by omega)] at ho
      have := (List.getElem?_eq_some_iff.1 ho).1
      simp at this; omega
    · have hi := (List.getElem?_eq_some_iff.1 hx).1
      refine ⟨i, x, by rw [List.getElem?_append_left hi]; exact hx, rfl, rfl, fun j o hj ho => ?_⟩
      rcases Nat.lt_or_ge j e.length with h3 | h3
      · rw [List.getElem?_append_left h3] at ho
        exact hl j o hj ho
      · rw [List.getElem?_append_right h3] at ho
        have h4 : j - e.length = 0 := by
          have := (List.getElem?_eq_some_iff.1 ho).1
          simpa using this
        rw [h4] at ho
        simp at ho
        subst ho
        exact ⟨fun h => h1 h.symm, fun h => h2 h.symm⟩
theorem graph_fold : ∀ (r e : List Pl) (F G : SMap), Graph F G (LiveR e) → Graph (r.foldl wear (F, G)).1 (r.foldl wear (F, G)).2 (LiveR (e ++ r))
  | [], e, F, G, h => by simpa using h
  | p :: r, e, F, G, h => by
    rw [List.foldl_cons]
    have hw := graph_wear p h
    have hs : Graph (wear (F, G) p).1 (wear (F, G) p).2 (LiveR (e ++ [p])) := ⟨fun v q => (hw.1 v q).trans live_snoc.symm, fun v q => (hw.2 v q).trans live_snoc.symm⟩
    have ih := graph_fold r (e ++ [p]) _ _ hs
    rw [List.append_assoc] at ih
    exact ih
theorem worn_graph (l : List Pl) (at_ : Int) : Graph (wornAt l at_).1 (wornAt l at_).2 (LiveR (l.takeWhile fun p => decide (p.fr ≤ at_))) := by
  have h0 : Graph fNil fNil (LiveR []) := ⟨fun v q => ⟨fun h => (by cases h), fun ⟨i, p, h, _⟩ => by simp at h⟩, fun v q => ⟨fun h => (by cases h), fun ⟨i, p, h, _⟩ => by simp at h⟩⟩
  have h := graph_fold (l.takeWhile fun p => decide (p.fr ≤ at_)) [] fNil fNil h0
  rw [List.nil_append] at h
  exact h
end Go.Proofs.YtjecbkgjabnmoaaGreatDoor
namespace Go.Proofs.YtjecbkgjabnmoaaGreatDoor
open Go.RowKit
theorem plG_zero {vs : List Vh} : ∀ {r pre : List Pl}, plG vs pre r = 0 → ∀ (i : Nat) (p : Pl), r[i]? = some p → plE vs (pre ++ r.take i) p = 0
  | [], _, _, i, p, hp => by simp at hp
  | b :: r, pre, h, i, p, hp => by
    unfold plG at h
    by_cases hb : plE vs pre b = 0
    · rw [if_pos hb] at h
      cases i with
      | zero =>
        simp at hp
        subst hp
        simpa using hb
      | succ i =>
        have ih := plG_zero h i p (by simpa using hp)
        rw [List.append_assoc] at ih
        simpa using ih
    · rw [if_neg hb] at h
      exact absurd h hb
theorem plE_ok {vs : List Vh} {pre : List Pl} {p : Pl} (h : plE vs pre p = 0) : plO pre p = false ∧ pre.any (plTwin p) = false := by
  cases h1 : inB p.fr 0 5761439 with
  | false => rw [plE_one h1] at h; cases h
  | true =>
    by_cases h2 : ixP (vhP p.veh) vs 0 < 0
    · rw [plE_two h1 h2] at h; cases h
    · cases h3 : plateB p.plate with
      | false => rw [plE_three h1 h2 h3] at h; cases h
      | true =>
        rw [plE_four h1 h2 h3] at h
        cases h4 : plO pre p with
        | true => rw [h4, if_pos rfl] at h; cases h
        | false =>
          rw [h4, if_neg (by decide)] at h
          cases h5 : pre.any (plTwin p) with
          | true => rw [h5, if_pos rfl] at h; cases h
          | false => exact ⟨rfl, rfl⟩
theorem plates_ok {vs : List Vh} {l : List Pl} (h : platesE vs l = 0) : PSort l ∧ ∀ (i j : Nat) (x y : Pl), i < j → l[i]? = some x → l[j]? = some y → x.fr = y.fr → x.veh ≠ y.veh ∧ x.plate ≠ y.plate := by
  have hz : ∀ (i : Nat) (p : Pl), l[i]? = some p → plO (l.take i) p = false ∧ (l.take i).any (plTwin p) = false := fun i p hp => by
    unfold platesE at h
    split at h
    · cases h
    · have := plG_zero h i p hp
      rw [List.nil_append] at this
      exact plE_ok this
  refine ⟨?_, fun i j x y hij hx hy hfr => ?_⟩
  · have : ∀ i, i ≤ l.length → PSort (l.take i) := fun i => by
      induction i with
      | zero => intro _; exact List.Pairwise.nil
      | succ i ih =>
        intro hi
        obtain ⟨p, hp⟩ : ∃ p, l[i]? = some p := ⟨_, List.getElem?_eq_getElem (by omega)⟩
        exact psort_next (ih (by omega)) hp (hz i p hp).1
    have h2 := this l.length (Nat.le_refl _)
    rwa [List.take_length] at h2
  · have h2 := (hz j y hy).2
    rw [List.any_eq_false] at h2
    have h3 := h2 x (List.mem_of_getElem? (i := i) (by rw [List.getElem?_take, if_pos hij]; exact hx))
    unfold plTwin at h3
    rw [decide_eq_true hfr] at h3
    simp at h3
    exact ⟨fun e => h3.1 (by rw [e]), fun e => h3.2 (by rw [e])⟩
def early (l : List Pl) (at_ : Int) : List Pl := l.filter fun p => !decide (at_ < p.fr)
def taken (e : List Pl) (p : Pl) : Bool := e.any fun o => decide (p.fr < o.fr) && (o.veh.toList == p.veh.toList || o.plate.toList == p.plate.toList)
def wornR (e : List Pl) : List Pl := e.filter fun p => !taken e p
theorem early_take {l : List Pl} {at_ : Int} : PSort l → early l at_ = l.takeWhile fun p => decide (p.fr ≤ at_) := by
  unfold early
  induction l with
  | nil => intro _; rfl
  | cons p r ih =>
    intro h
    unfold PSort at h
    rw [List.pairwise_cons] at h
    by_cases hp : p.fr ≤ at_
    · rw [List.filter_cons_of_pos (by simp; omega), List.takeWhile_cons_of_pos (by simpa using hp), ih h.2]
    · rw [List.takeWhile_cons_of_neg (by simpa using hp), List.filter_eq_nil_iff.2 fun x hx => ?_]
      rcases List.mem_cons.1 hx with rfl | hx
      · simp; omega
      · have := h.1 x hx
        simp; omega
/-- What a list must be that it says who wears what. -/
def Apart (e : List Pl) : Prop := PSort e ∧ ∀ (i j : Nat) (x y : Pl), i < j → e[i]? = some x → e[j]? = some y → x.fr = y.fr → x.veh ≠ y.veh ∧ x.plate ≠ y.plate
theorem apart_take {l : List Pl} {at_ : Int} (h : Apart l) : Apart (l.takeWhile fun p => decide (p.fr ≤ at_)) := by
  have hp : (l.takeWhile fun p => decide (p.fr ≤ at_)) <+: l := List.takeWhile_prefix _
  have hat : ∀ (i : Nat) (x : Pl), (l.takeWhile fun p => decide (p.fr ≤ at_))[i]? = some x → l[i]? = some x := fun i x hx => by
    obtain ⟨t, ht⟩ := hp
    rw [← ht, List.getElem?_append_left (List.getElem?_eq_some_iff.1 hx).1]; exact hx
  exact ⟨h.1.sublist hp.sublist, fun i j x y hij hx hy => h.2 i j x y hij (hat i x hx) (hat j y hy)⟩
theorem live_worn {e : List Pl} (h : Apart e) {v q : ByteArray} : LiveR e v q ↔ ∃ p ∈ wornR e, p.veh = v ∧ p.plate = q := by
  constructor
  · rintro ⟨i, p, hp, rfl, rfl, hl⟩
    refine ⟨p, List.mem_filter.2 ⟨List.mem_of_getElem? hp, ?_⟩, rfl, rfl⟩
    have : taken e p = false := by
      unfold taken
      rw [List.any_eq_false]
      intro o ho hc
      obtain ⟨j, hj⟩ := List.getElem?_of_mem ho
      simp only [Bool.and_eq_true, Bool.or_eq_true, decide_eq_true_eq] at hc
      rcases Nat.lt_or_ge i j with h1 | h1
      · have h2 := hl j o h1 hj
        rcases hc.2 with h3 | h3
        · exact h2.1 (bytes_eqb.1 h3)
        · exact h2.2 (bytes_eqb.1 h3)
      · have := psort_at h.1 h1 hj hp
        omega
    rw [this]; rfl
  · rintro ⟨p, hp, rfl, rfl⟩
    obtain ⟨h1, h2⟩ := List.mem_filter.1 hp
    obtain ⟨i, hi⟩ := List.getElem?_of_mem h1
    refine ⟨i, p, hi, rfl, rfl, fun j o hj ho => ?_⟩
    have h3 : taken e p = false := by simpa using h2
    unfold taken at h3
    rw [List.any_eq_false] at h3
    have h4 := h3 o (List.mem_of_getElem? ho)
    have h5 := psort_at h.1 (Nat.le_of_lt hj) hi ho
    rcases Int.lt_or_eq_of_le h5 with h6 | h6
    · rw [decide_eq_true h6] at h4
      simp at h4
      exact ⟨fun e => h4.1 (by rw [e]), fun e => h4.2 (by rw [e])⟩
    · have := h.2 i j p o hj hi ho h6
      exact ⟨fun e => this.1 e.symm, fun e => this.2 e.symm⟩
theorem plateAt_eq {vs : List Vh} {l : List Pl} {at_ : Int} {v : ByteArray} (h : platesE vs l = 0) : (wornAt l at_).1 v = ((wornR (early l at_)).find? fun p => p.veh.toList == v.toList).map (·.plate) := by
  have hok : Apart l := plates_ok h
  rw [early_take hok.1]
  have hg := (worn_graph l at_).1 v
  have hl := fun q => live_worn (apart_take (at_ := at_) hok) (v := v) (q := q)
  cases hf : (wornR (l.takeWhile fun p => decide (p.fr ≤ at_))).find? fun p => p.veh.toList == v.toList with
  | none =>
    cases hF : (wornAt l at_).1 v with
    | none => rfl
    | some q =>
      obtain ⟨p, hp, hv, _⟩ := (hl q).1 ((hg q).1 hF)
      have := List.find?_eq_none.1 hf p hp
      rw [hv] at this
      simp at this
  | some p =>
    have hp := List.mem_of_find?_eq_some hf
    have hv := List.find?_some hf
    exact (hg p.plate).2 ((hl p.plate).2 ⟨p, hp, bytes_eqb.1 hv, rfl⟩)
theorem wearerAt_eq {vs : List Vh} {l : List Pl} {at_ : Int} {q : ByteArray} (h : platesE vs l = 0) : (wornAt l at_).2 q = ((wornR (early l at_)).find? fun p => p.plate.toList == q.toList).map (·.veh) := by
  have hok : Apart l := plates_ok h
  rw [early_take hok.1]
  have hg := fun v => (worn_graph l at_).2 v q
  have hl := fun v => live_worn (apart_take (at_ := at_) hok) (v := v) (q := q)
  cases hf : (wornR (l.takeWhile fun p => decide (p.fr ≤ at_))).find? fun p => p.plate.toList == q.toList with
  | none =>
    cases hF : (wornAt l at_).2 q with
    | none => rfl
    | some v =>
      obtain ⟨p, hp, _, hq⟩ := (hl v).1 ((hg v).1 hF)
      have := List.find?_eq_none.1 hf p hp
      rw [hq] at this
      simp at this
  | some p =>
    have hp := List.mem_of_find?_eq_some hf
    have hv := List.find?_some hf
    exact (hg p.veh).2 ((hl p.veh).2 ⟨p, hp, rfl, bytes_eqb.1 hv⟩)
end Go.Proofs.YtjecbkgjabnmoaaGreatDoor
namespace Go.Proofs.YtjecbkgjabnmoaaGreatDoor
open Go.RowKit
theorem isBelow_lt {n v : Int} (h : IsBelow n v) (hn : 1 ≤ n) : 0 ≤ v ∧ v < n := by unfold IsBelow at h; omega
set_option maxHeartbeats 400000 in
theorem range_any (lo hi : Int) (w : World) (B sb m : Nat) (hS : Strm 25 w B sb m) (hm : m ≤ 1000000000000) (h1 : -4611686018427387904 ≤ lo) (h2 : hi ≤ 4611686018427387902) (h3 : lo ≤ 4611686018427387902) (h4 : -4611686018427387904 ≤ hi) :
    Calls Tryz.prog 28 #[.pointer (some ⟨sb, 0, none⟩), .int .i64 lo, .int .i64 hi] w (GotInt 25 w B sb (m + 1) (fun v => lo ≤ v ∧ (v ≤ hi ∨ v = lo))) := by
  by_cases hlt : hi < lo
  · go_enter Tryz.func28, Tryz.ntmps28
    go_wp2_with fail
    go_ret
    exact ⟨lo, ⟨by omega, .inr rfl⟩, rfl, hS.more (by omega), World.grownBy.refl _ _⟩
  · go_enter Tryz.func28, Tryz.ntmps28
    go_wp2_with fail
    refine (next_any _ _ B sb m hS hm (by omega) (by omega)).mono ?_
    rintro e w1 ⟨v, hv, rfl, hS1, hg1⟩
    have hv := isBelow_lt hv (by omega)
    go_wp2_with fail
    go_ret
    exact ⟨lo + v, ⟨by omega, .inl (by omega)⟩, rfl, hS1, hg1⟩
set_option maxHeartbeats 400000 in
theorem flip_any (n : Int) (w : World) (B sb m : Nat) (hS : Strm 25 w B sb m) (hm : m ≤ 1000000000000) (hn1 : -9223372036854775808 ≤ n) (hn2 : n ≤ 9223372036854775807) :
    Calls Tryz.prog 53 #[.pointer (some ⟨sb, 0, none⟩), .int .i64 n] w (GotBool 25 w B sb (m + 1)) := by
  go_enter Tryz.func53, Tryz.ntmps53
  go_wp2_with fail
  refine (next_any _ _ B sb m hS hm hn1 hn2).mono ?_
  rintro e w1 ⟨v, hv, rfl, hS1, hg1⟩
  go_wp2_with fail
  go_ret
  exact ⟨_, rfl, hS1, hg1⟩
set_option maxHeartbeats 400000 in
theorem pick_any (xs : List Int) (g c : Nat) (T : TypeId) (w : World) (B sb m : Nat) (hS : Strm 25 w B sb m) (hm : m ≤ 1000000000000) (hx : 0 < xs.length) (hx2 : xs.length ≤ 1000000) (hg : Blk w g T (xs.map (Value.int .i64))) (hne : g ≠ sb) :
    Calls Tryz.prog 14 #[.pointer (some ⟨sb, 0, none⟩), .slice (some ⟨g, 0, none⟩) xs.length c] w (GotInt 25 w B sb (m + 1) (fun v => v ∈ xs)) := by
  obtain ⟨n, hn⟩ : ∃ n, n = xs.length := ⟨_, rfl⟩
  rw [← hn] at hx hx2 ⊢
  have Hn := Lib.hid hn; clear hn
  go_enter Tryz.func14, Tryz.ntmps14
  go_wp2_with fail
  refine (next_any _ _ B sb m hS hm (by omega) (by omega)).mono ?_
  rintro e w1 ⟨v, hv, rfl, hS1, hg1⟩
  have hv := isBelow_lt hv (by omega)
  obtain ⟨i, rfl⟩ := Int.eq_ofNat_of_zero_le hv.1
  have hi : i < n := by omega
  have hgb := hg.grown hg1 (by simpa using hne)
  obtain ⟨x, hx⟩ : ∃ x, xs[i]? = some x := ⟨_, List.getElem?_eq_getElem (by have := Hn.out; omega)⟩
  have hc : w1.cell? ⟨g, i, none⟩ = some (.int .i64 x) := hgb.cell_of (by simp [hx])
  have hmem : x ∈ xs := List.mem_of_getElem? hx
  clear hx hgb
  go_wp2_with fail
  go_ret
  exact ⟨x, hmem, rfl, hS1, hg1⟩
set_option maxHeartbeats 400000 in
theorem some_any (xs : List ByteArray) (g c : Nat) (T : TypeId) (w : World) (B sb m : Nat) (hS : Strm 25 w B sb m) (hm : m ≤ 1000000000000) (hx : 0 < xs.length) (hx2 : xs.length ≤ 1000000) (hg : Blk w g T (xs.map Value.string)) (hne : g ≠ sb) :
    Calls Tryz.prog 43 #[.pointer (some ⟨sb, 0, none⟩), .slice (some ⟨g, 0, none⟩) xs.length c] w (GotStr 25 w B sb (m + 1) (fun v => v ∈ xs)) := by
  obtain ⟨n, hn⟩ : ∃ n, n = xs.length := ⟨_, rfl⟩
  rw [← hn] at hx hx2 ⊢
  have Hn := Lib.hid hn; clear hn
  go_enter Tryz.func43, Tryz.ntmps43
  go_wp2_with fail
  refine (next_any _ _ B sb m hS hm (by omega) (by omega)).mono ?_
  rintro e w1 ⟨v, hv, rfl, hS1, hg1⟩
  have hv := isBelow_lt hv (by omega)
  obtain ⟨i, rfl⟩ := Int.eq_ofNat_of_zero_le hv.1
  have hi : i < n := by omega
  have hgb := hg.grown hg1 (by simpa using hne)
  obtain ⟨x, hx⟩ : ∃ x, xs[i]? = some x := ⟨_, List.getElem?_eq_getElem (by have := Hn.out; omega)⟩
  have hc : w1.cell? ⟨g, i, none⟩ = some (.string x) := hgb.cell_of (by simp [hx])
  have hmem : x ∈ xs := List.mem_of_getElem? hx
  clear hx hgb
  go_wp2_with fail
  go_ret
  exact ⟨x, hmem, rfl, hS1, hg1⟩
set_option maxHeartbeats 400000 in
theorem odd_any (lo hi : Int) (w : World) (B sb m : Nat) (hS : Strm 25 w B sb m) (hm : m ≤ 900000000000) (h1 : -1000000000000000 ≤ lo) (h2 : hi ≤ 1000000000000000) (h3 : lo ≤ hi) :
    Calls Tryz.prog 77 #[.pointer (some ⟨sb, 0, none⟩), .int .i64 lo, .int .i64 hi] w (GotInt 25 w B sb (m + 2) (fun v => -2000000000000000 ≤ v ∧ v ≤ 2000000000000000)) := by
  go_enter Tryz.func77, Tryz.ntmps77
  go_wp2_with fail
  refine (flip_any _ _ B sb m hS (by omega) (by omega) (by omega)).mono ?_
  rintro e w1 ⟨b, rfl, hS1, hg1⟩
  rcases b with _ | _
  · go_wp2_with fail
    refine (range_any _ _ _ B sb (m + 1) hS1 (by omega) (by omega) (by omega) (by omega) (by omega)).mono ?_
    rintro e w2 ⟨v, hv, rfl, hS2, hg2⟩
    go_wp2_with fail
    go_ret
    exact ⟨v, by omega, rfl, hS2, grow_trans hg1 hg2⟩
  · go_wp2_with fail
    refine (pick_any [lo - 1, hi + 1, lo, hi, -1099511627776, 1099511627776] _ _ _ _ B sb (m + 1) (hS1.alloc _) (by omega) (by simp) (by simp) (Blk.new _ _ _) (by have := hS1.lt; omega)).mono ?_
    rintro e w2 ⟨v, hv, rfl, hS2, hg2⟩
    go_wp2_with fail
    go_ret
    refine ⟨v, by simp at hv; omega, rfl, hS2, grow_trans hg1 (grow_trans (grow_alloc (World.grownBy.refl _ _) _) hg2)⟩
end Go.Proofs.YtjecbkgjabnmoaaGreatDoor
namespace Go.Proofs.YtjecbkgjabnmoaaGreatDoor
open Go.RowKit
theorem list14 (hs : List Int) (h : hs.length = 14) : ∃ a0 a1 a2 a3 a4 a5 a6 a7 a8 a9 a10 a11 a12 a13, hs = [a0, a1, a2, a3, a4, a5, a6, a7, a8, a9, a10, a11, a12, a13] := by
  match hs, h with
  | [a0, a1, a2, a3, a4, a5, a6, a7, a8, a9, a10, a11, a12, a13], _ => exact ⟨a0, a1, a2, a3, a4, a5, a6, a7, a8, a9, a10, a11, a12, a13, rfl⟩
def hourFr (hs : List Int) (d : Int) : Int := d * 1440 + frAt hs (d % 7).toNat
def hourTo (hs : List Int) (d : Int) : Int := d * 1440 + toAt hs (d % 7).toNat
theorem stEnc_len {s : St} (h : StOk s) : (stEnc s).length = 15 := st_len _ _ h.1
end Go.Proofs.YtjecbkgjabnmoaaGreatDoor
namespace Go.Proofs.YtjecbkgjabnmoaaGreatDoor
open Go.RowKit
/-- The next opening from day d on; n days are left. -/
def nextFrom (hs : List Int) (at_ : Int) : Nat → Int → Option Int
  | 0, _ => none
  | n + 1, d => if max at_ (hourFr hs d) < hourTo hs d then some (max at_ (hourFr hs d)) else nextFrom hs at_ n (d + 1)
end Go.Proofs.YtjecbkgjabnmoaaGreatDoor
namespace Go.Proofs.YtjecbkgjabnmoaaGreatDoor
def frD (hs : List Int) (d : Int) : Int := frAt hs (d % 7).toNat
def toD (hs : List Int) (d : Int) : Int := toAt hs (d % 7).toNat
theorem hourFr_eq (hs : List Int) (d : Int) : hourFr hs d = d * 1440 + frD hs d := rfl
theorem hourTo_eq (hs : List Int) (d : Int) : hourTo hs d = d * 1440 + toD hs d := rfl
section
variable {hs : List Int} {at_ : Int}
theorem never (h : ∀ e, ¬ frD hs e < toD hs e) : ∀ (n : Nat) (d : Int), nextFrom hs at_ n d = none
  | 0, _ => rfl
  | n + 1, d => by
    have h1 := h d
    rw [nextFrom, if_neg (by rw [hourFr_eq, hourTo_eq]; omega)]
    exact never h n (d + 1)
end
end Go.Proofs.YtjecbkgjabnmoaaGreatDoor
