/- Several texts as one: Cl Gb Fl Fv Fq Ci Hd Rt Fm By Rs Ss1 Rt2 Bg -/
import Derived.Test.YtempjmpfdniecaaGreatDoorN7a
import Derived.Deep.RegionHeld3
import Derived.Test.YtempjmpfdniecaaGreatDoorProg
import Derived.Ground.NamesProg
import Derived.Shelf.Sort.Plain
set_option maxRecDepth 100000
set_option maxHeartbeats 4000000
namespace Go.Proofs.YtempjmpfdniecaaGreatDoor
open Go.RowKit
theorem prevCs_le {l : List Cs} {k : Nat} {b : Cs} (h : keyB b.key = true) : leB b.key (prevCs l k) = leCs (prevOf l k) b := by
  unfold prevCs leCs
  cases prevOf l k with
  | none => exact key_low h
  | some q => rfl
theorem cls_scan {l : List Cs} {v : Int} (h30 : ¬ 30 < l.length) (h : scanE csE none l = v) (hv : v ≠ 0) : classesE l = v := by
  unfold classesE
  rw [if_neg h30, if_pos (by rw [h]; exact hv), h]
theorem cls_up {l : List Cs} (h30 : ¬ 30 < l.length) (h : scanE csE none l = 0) (hu : l.any (upB l) = true) : classesE l = 8 := by
  unfold classesE
  rw [if_neg h30, if_neg (by rw [h]; decide), if_pos hu]
theorem cls_loop {l : List Cs} (h30 : ¬ 30 < l.length) (h : scanE csE none l = 0) (hu : l.any (upB l) = false) : classesE l = if loopB l l.length = true then 14 else 0 := by
  unfold classesE
  rw [if_neg h30, if_neg (by rw [h]; decide), if_neg (by rw [hu]; decide)]
theorem any_at {α : Type} {p : α → Bool} {l : List α} {k : Nat} {x : α} (h : l[k]? = some x) : (l.drop k).any p = (p x || (l.drop (k + 1)).any p) := by
  obtain ⟨hk, rfl⟩ := List.getElem?_eq_some_iff.1 h
  rw [List.drop_eq_getElem_cons hk, List.any_cons]
theorem any_end {α : Type} {p : α → Bool} {l : List α} {k : Nat} (h : l.length ≤ k) : (l.drop k).any p = false := by rw [List.drop_eq_nil_of_le h]; rfl
theorem sg_one : ∀ (x : ByteArray), ∀ v ∈ sgEnc x, v.oneCell' = true := fun x v hv => by
  simp only [sgEnc, List.mem_singleton] at hv
  subst hv; rfl
theorem path_more {l : List Cs} {n i : Nat} {k : ByteArray} (h : emptyS (upOf l k) = false) (hi : i < n) : pathN l (n - i) k = upOf l k :: pathN l (n - (i + 1)) (upOf l k) := by
  rw [show n - i = (n - (i + 1)) + 1 by omega]
  show (if emptyS (upOf l k) = true then [] else _) = _
  rw [if_neg (by rw [h]; decide)]
theorem path_stop {l : List Cs} {n : Nat} {k : ByteArray} (h : emptyS (upOf l k) = true) : pathN l n k = [] := by
  cases n with
  | zero => rfl
  | succ n =>
    show (if emptyS (upOf l k) = true then [] else _) = _
    rw [if_pos h]
def keysE (l : List Cs) (ks : List ByteArray) : Int := if classesE l ≠ 0 then classesE l else if ks.any (fun k => decide (ixP (csP k) l 0 < 0)) = true then 8 else 0
def stepsV (l : List Cs) (a b : ByteArray) : Int := if a.toList = b.toList then 0 else if ixP (fun y => b.toList == y.toList) (pathN l l.length a) 0 < 0 then -1 else ixP (fun y => b.toList == y.toList) (pathN l l.length a) 0 + 1
theorem pred_classAt_1_lot (ke : ByteArray) (up : ByteArray) (gk : Nat) (k : ByteArray) (w : World) (hk : Blk w gk 9 [.string k]) :
  Calls Tryz.prog 273 #[.agg #[.string ke, .string up], .pointer (some ⟨gk, 0, none⟩)] w (fun e w' => e = .returned (.bool (csP k ⟨ke, up⟩)) ∧ w.grownBy w' none) := by
 refine gw_enter ⟨8, w, none, []⟩ Tryz.func273 rfl Tryz.ntmps273 rfl (mem0 (X := [BlkOld w.heap.size none gk 9 [.string k]]) (allF_cons hk.old allF_nil) (allL_cons BlkOld.lasts allL_nil)) ?_
 refine sr_ ?_
 refine wl_box rfl rfl rfl fun g1 => ?_
 refine sg_ rfl (nn_ (sr_ (fd_ fo158_0 rfl rfl (lk_ sc9 0 rfl rfl rfl ?_))))
 refine wl_ov (ov_load (v := .string k) sc9 rfl (fun _ hm => (hm.fact 0 rfl).2) rfl) rfl ?_
 refine wl_ov (ov_seql rfl rfl) rfl (sg_ rfl (nn_ ?_))
 refine gw_ret ?_
 refine nx_ret1 rfl rfl fun wx hm => ?_
 exact ⟨rfl, hm.g⟩
theorem index_classAt_1_lot (l : List Cs) (A : Option Addr) (n c0 : Nat) (gk : Nat) (k : ByteArray) (w : World) (hl : SlT csEnc 2 158 w A n l) (hn : n ≤ 1000000) (hk : Blk w gk 9 [.string k]) :
  Calls Tryz.prog 235 #[.slice A n c0, .func (.func 273) #[] #[.pointer (some ⟨gk, 0, none⟩)]] w (GotE w (ixP (csP k) l 0)) := by
 refine gw_enter ⟨19, w, none, []⟩ Tryz.func235 rfl Tryz.ntmps235 rfl (mem0 (X := [SlOld csEnc 2 158 w.heap.size none A n l, BlkOld w.heap.size none gk 9 [.string k]]) (allF_cons hl.old (allF_cons hk.old allF_nil)) (allL_cons SlOld.lasts (allL_cons BlkOld.lasts allL_nil))) ?_
 refine sr_ ?_
 have hlen := hl.len
 refine sg_ rfl (nn_ (gw_seq (sr_ (mv_ rfl (wl_ov (ov_len es58 rfl) rfl (mv_ rfl (nn_ (gw_block ?_))))))))
 refine gw_loop (γ := Nat) (fun (i : Nat) => i ≤ n ∧ ixP (csP k) l 0 = ixP (csP k) (l.drop i) i) (fun (i : Nat) => [(0, .slice A n c0), (1, .func (.func 273) #[] #[.pointer (some ⟨gk, 0, none⟩)]), (7, .int .i64 ((n : Nat) : Int)), (8, .int .i64 ((i : Nat) : Int))]) (fun (i : Nat) => fun _ => True) (fun (i : Nat) => []) (fun (i : Nat) => []) (fun (i : Nat) => [SlOld csEnc 2 158 w.heap.size none A n l, BlkOld w.heap.size none gk 9 [.string k]]) (fun (i : Nat) => n - i) 0 ⟨Nat.zero_le _, rfl⟩ ⟨rfl, rfl, rfl, rfl, trivial⟩ (fun _ hm => hm.pick [] [] [0, 1] rfl rfl) ?_
 intro i hinv
 replace hinv : i ≤ n ∧ ixP (csP k) l 0 = ixP (csP k) (l.drop i) i := hinv
 refine sr_ (wl_ov (ov_lss rfl rfl) rfl (nn_ (gw_seq ?_)))
 refine gw_cond rfl (fun hh => ?_) (fun hh => ?_)
 ·have hi : ((i : Nat) : Int) < ((n : Nat) : Int) := by simpa using hh
  clear hh
  refine gw_skip (nx_then (gw_seq (gw_block (sr_ ?_))))
  obtain ⟨b, off, hA, _, _⟩ := hl.get (by omega)
  subst hA
  obtain ⟨x, hx⟩ : ∃ x, l[i]? = some x := ⟨_, List.getElem?_eq_getElem (by omega)⟩
  obtain ⟨ke, up⟩ := x
  have hat := ixP_at (p := csP k) hx
  refine mv_ rfl (sg_ rfl (nn_ (sr_ (mv_ rfl (mv_ rfl (mv_ rfl ?_))))))
  refine wl_ov (ov_index (j := i) es58 rfl rfl (by omega)) rfl ?_
  refine wl_ov (ov_elem (vs := [.string ke, .string up]) rz158 rfl (fun _ hm => (hm.fact 0 rfl).1) hx rfl rfl) rfl ?_
  refine wl_callv rfl cb273 rfl rfl (fun wx hm => (pred_classAt_1_lot ke up gk k wx (hm.fact 1 rfl).2)) ?_
  refine nn_ ?_
  refine gw_cond rfl (fun hh => ?_) (fun hh => ?_)
  ·have hq : (csP k ⟨ke, up⟩) = true := by simpa using hh
   clear hh
   refine sr_ (mv_ rfl (sg_ rfl (nn_ ?_)))
   refine gw_ret ?_
   refine nx_blk_ret (nx_then_ret (nx_then_ret (nx_blk_ret (nx_then_ret ?_))))
   refine nx_ret1 rfl rfl fun wx hm => ?_
   exact ⟨ret_int (by rw [hinv.2, hat, if_pos hq]), hm.g⟩
  have hq : (csP k ⟨ke, up⟩) = false := by simpa using hh
  clear hh
  refine gw_skip (nx_blk_nrm (nx_then (gw_region (ad_ rfl rfl (mv_ rfl (wl_nil ?_))))))
  exact nx_round (i + 1) ⟨by omega, by rw [hinv.2, hat, if_neg (by rw [hq]; decide)]⟩ (by omega) ⟨rfl, rfl, rfl, (some_int (by omega)), trivial⟩ (fun _ hm => hm.pick [] [] [0, 1] rfl rfl)
 have hi : ¬ (((i : Nat) : Int) < ((n : Nat) : Int)) := by simpa using hh
 clear hh
 refine gw_exit ?_
 refine nx_then_exit (nx_then_exit ?_)
 refine nx_blk_here ?_
 refine nx_then (sr_ (sg_ rfl ?_))
 refine wl_set 4 (v' := .int .i64 (-1)) rfl rfl ?_
 refine nn_ ?_
 refine gw_ret ?_
 refine nx_ret1 rfl rfl fun wx hm => ?_
 exact ⟨ret_int (by rw [hinv.2, List.drop_eq_nil_of_le (by omega)]; rfl), hm.g⟩
theorem classAt_any (l : List Cs) (A : Option Addr) (n c0 : Nat) (k : ByteArray) (w : World) (hl : SlT csEnc 2 158 w A n l) (hn : n ≤ 1000000) :
  Calls Tryz.prog 209 #[.slice A n c0, .string k] w (GotE w (ixP (csP k) l 0)) := by
 refine gw_enter ⟨8, w, none, []⟩ Tryz.func209 rfl Tryz.ntmps209 rfl (mem0 (X := [SlOld csEnc 2 158 w.heap.size none A n l]) (allF_cons hl.old allF_nil) (allL_cons SlOld.lasts allL_nil)) ?_
 refine sr_ ?_
 refine wl_box rfl rfl rfl fun g1 => ?_
 refine sg_ rfl (nn_ (sr_ (mv_ rfl (wl_ov (ov_makeFunc rfl rfl) rfl ?_))))
 refine wl_callv rfl cb235 rfl rfl (fun wx hm => (index_classAt_1_lot l A n c0 _ k wx (hm.fact 0 rfl).1 hn (hm.blkI 0 rfl))) ?_
 refine sg_ rfl (nn_ ?_)
 refine gw_ret ?_
 refine nx_ret1 rfl rfl fun wx hm => ?_
 exact ⟨rfl, hm.g⟩
theorem pred_ClassAt_1_rentref1 (ke : ByteArray) (up : ByteArray) (gk : Nat) (k : ByteArray) (w : World) (hk : Blk w gk 9 [.string k]) :
  Calls Tryz.prog 236 #[.agg #[.string ke, .string up], .pointer (some ⟨gk, 0, none⟩)] w (fun e w' => e = .returned (.bool (csP k ⟨ke, up⟩)) ∧ w.grownBy w' none) := by
 refine gw_enter ⟨8, w, none, []⟩ Tryz.func236 rfl Tryz.ntmps236 rfl (mem0 (X := [BlkOld w.heap.size none gk 9 [.string k]]) (allF_cons hk.old allF_nil) (allL_cons BlkOld.lasts allL_nil)) ?_
 refine sr_ ?_
 refine wl_box rfl rfl rfl fun g1 => ?_
 refine sg_ rfl (nn_ (sr_ (fd_ fo158_0 rfl rfl (lk_ sc9 0 rfl rfl rfl ?_))))
 refine wl_ov (ov_load (v := .string k) sc9 rfl (fun _ hm => (hm.fact 0 rfl).2) rfl) rfl ?_
 refine wl_ov (ov_seql rfl rfl) rfl (sg_ rfl (nn_ ?_))
 refine gw_ret ?_
 refine nx_ret1 rfl rfl fun wx hm => ?_
 exact ⟨rfl, hm.g⟩
theorem index_ClassAt_1_rentref1 (l : List Cs) (A : Option Addr) (n c0 : Nat) (gk : Nat) (k : ByteArray) (w : World) (hl : SlT csEnc 2 158 w A n l) (hn : n ≤ 1000000) (hk : Blk w gk 9 [.string k]) :
  Calls Tryz.prog 235 #[.slice A n c0, .func (.func 236) #[] #[.pointer (some ⟨gk, 0, none⟩)]] w (GotE w (ixP (csP k) l 0)) := by
 refine gw_enter ⟨19, w, none, []⟩ Tryz.func235 rfl Tryz.ntmps235 rfl (mem0 (X := [SlOld csEnc 2 158 w.heap.size none A n l, BlkOld w.heap.size none gk 9 [.string k]]) (allF_cons hl.old (allF_cons hk.old allF_nil)) (allL_cons SlOld.lasts (allL_cons BlkOld.lasts allL_nil))) ?_
 refine sr_ ?_
 have hlen := hl.len
 refine sg_ rfl (nn_ (gw_seq (sr_ (mv_ rfl (wl_ov (ov_len es58 rfl) rfl (mv_ rfl (nn_ (gw_block ?_))))))))
 refine gw_loop (γ := Nat) (fun (i : Nat) => i ≤ n ∧ ixP (csP k) l 0 = ixP (csP k) (l.drop i) i) (fun (i : Nat) => [(0, .slice A n c0), (1, .func (.func 236) #[] #[.pointer (some ⟨gk, 0, none⟩)]), (7, .int .i64 ((n : Nat) : Int)), (8, .int .i64 ((i : Nat) : Int))]) (fun (i : Nat) => fun _ => True) (fun (i : Nat) => []) (fun (i : Nat) => []) (fun (i : Nat) => [SlOld csEnc 2 158 w.heap.size none A n l, BlkOld w.heap.size none gk 9 [.string k]]) (fun (i : Nat) => n - i) 0 ⟨Nat.zero_le _, rfl⟩ ⟨rfl, rfl, rfl, rfl, trivial⟩ (fun _ hm => hm.pick [] [] [0, 1] rfl rfl) ?_
 intro i hinv
 replace hinv : i ≤ n ∧ ixP (csP k) l 0 = ixP (csP k) (l.drop i) i := hinv
 refine sr_ (wl_ov (ov_lss rfl rfl) rfl (nn_ (gw_seq ?_)))
 refine gw_cond rfl (fun hh => ?_) (fun hh => ?_)
 ·have hi : ((i : Nat) : Int) < ((n : Nat) : Int) := by simpa using hh
  clear hh
  refine gw_skip (nx_then (gw_seq (gw_block (sr_ ?_))))
  obtain ⟨b, off, hA, _, _⟩ := hl.get (by omega)
  subst hA
  obtain ⟨x, hx⟩ : ∃ x, l[i]? = some x := ⟨_, List.getElem?_eq_getElem (by omega)⟩
  obtain ⟨ke, up⟩ := x
  have hat := ixP_at (p := csP k) hx
  refine mv_ rfl (sg_ rfl (nn_ (sr_ (mv_ rfl (mv_ rfl (mv_ rfl ?_))))))
  refine wl_ov (ov_index (j := i) es58 rfl rfl (by omega)) rfl ?_
  refine wl_ov (ov_elem (vs := [.string ke, .string up]) rz158 rfl (fun _ hm => (hm.fact 0 rfl).1) hx rfl rfl) rfl ?_
  refine wl_callv rfl cb236 rfl rfl (fun wx hm => (pred_ClassAt_1_rentref1 ke up gk k wx (hm.fact 1 rfl).2)) ?_
  refine nn_ ?_
  refine gw_cond rfl (fun hh => ?_) (fun hh => ?_)
  ·have hq : (csP k ⟨ke, up⟩) = true := by simpa using hh
   clear hh
   refine sr_ (mv_ rfl (sg_ rfl (nn_ ?_)))
   refine gw_ret ?_
   refine nx_blk_ret (nx_then_ret (nx_then_ret (nx_blk_ret (nx_then_ret ?_))))
   refine nx_ret1 rfl rfl fun wx hm => ?_
   exact ⟨ret_int (by rw [hinv.2, hat, if_pos hq]), hm.g⟩
  have hq : (csP k ⟨ke, up⟩) = false := by simpa using hh
  clear hh
  refine gw_skip (nx_blk_nrm (nx_then (gw_region (ad_ rfl rfl (mv_ rfl (wl_nil ?_))))))
  exact nx_round (i + 1) ⟨by omega, by rw [hinv.2, hat, if_neg (by rw [hq]; decide)]⟩ (by omega) ⟨rfl, rfl, rfl, (some_int (by omega)), trivial⟩ (fun _ hm => hm.pick [] [] [0, 1] rfl rfl)
 have hi : ¬ (((i : Nat) : Int) < ((n : Nat) : Int)) := by simpa using hh
 clear hh
 refine gw_exit ?_
 refine nx_then_exit (nx_then_exit ?_)
 refine nx_blk_here ?_
 refine nx_then (sr_ (sg_ rfl ?_))
 refine wl_set 4 (v' := .int .i64 (-1)) rfl rfl ?_
 refine nn_ ?_
 refine gw_ret ?_
 refine nx_ret1 rfl rfl fun wx hm => ?_
 exact ⟨ret_int (by rw [hinv.2, List.drop_eq_nil_of_le (by omega)]; rfl), hm.g⟩
theorem rClassAt_any (l : List Cs) (A : Option Addr) (n c0 : Nat) (k : ByteArray) (w : World) (hl : SlT csEnc 2 158 w A n l) (hn : n ≤ 1000000) :
  Calls Tryz.prog 153 #[.slice A n c0, .string k] w (GotE w (ixP (csP k) l 0)) := by
 refine gw_enter ⟨8, w, none, []⟩ Tryz.func153 rfl Tryz.ntmps153 rfl (mem0 (X := [SlOld csEnc 2 158 w.heap.size none A n l]) (allF_cons hl.old allF_nil) (allL_cons SlOld.lasts allL_nil)) ?_
 refine sr_ ?_
 refine wl_box rfl rfl rfl fun g1 => ?_
 refine sg_ rfl (nn_ (sr_ (mv_ rfl (wl_ov (ov_makeFunc rfl rfl) rfl ?_))))
 refine wl_callv rfl cb235 rfl rfl (fun wx hm => (index_ClassAt_1_rentref1 l A n c0 _ k wx (hm.fact 0 rfl).1 hn (hm.blkI 0 rfl))) ?_
 refine sg_ rfl (nn_ ?_)
 refine gw_ret ?_
 refine nx_ret1 rfl rfl fun wx hm => ?_
 exact ⟨rfl, hm.g⟩
theorem index_str (ks : List ByteArray) (A1 : Option Addr) (n1 c1 : Nat) (k : ByteArray) (w : World) (hs : SlT sgEnc 1 9 w A1 n1 ks) (hn : n1 ≤ 1000000) :
  Calls Tryz.prog 119 #[.slice A1 n1 c1, .string k] w (GotE w (ixP (fun y => k.toList == y.toList) ks 0)) := by
 refine gw_enter ⟨19, w, none, []⟩ Tryz.func119 rfl Tryz.ntmps119 rfl (mem0 (X := [SlOld sgEnc 1 9 w.heap.size none A1 n1 ks]) (allF_cons hs.old allF_nil) (allL_cons SlOld.lasts allL_nil)) ?_
 refine sr_ ?_
 have hlen := hs.len
 refine sg_ rfl (nn_ (gw_seq (sr_ (mv_ rfl (wl_ov (ov_len es103 rfl) rfl (mv_ rfl (nn_ (gw_block ?_))))))))
 refine gw_loop (γ := Nat) (fun (i : Nat) => i ≤ n1 ∧ ixP (fun y => k.toList == y.toList) ks 0 = ixP (fun y => k.toList == y.toList) (ks.drop i) i) (fun (i : Nat) => [(0, .slice A1 n1 c1), (1, .string k), (7, .int .i64 ((n1 : Nat) : Int)), (8, .int .i64 ((i : Nat) : Int))]) (fun (i : Nat) => fun _ => True) (fun (i : Nat) => []) (fun (i : Nat) => []) (fun (i : Nat) => [SlOld sgEnc 1 9 w.heap.size none A1 n1 ks]) (fun (i : Nat) => n1 - i) 0 ⟨Nat.zero_le _, rfl⟩ ⟨rfl, rfl, rfl, rfl, trivial⟩ (fun _ hm => hm.pick [] [] [0] rfl rfl) ?_
 intro i hinv
 replace hinv : i ≤ n1 ∧ ixP (fun y => k.toList == y.toList) ks 0 = ixP (fun y => k.toList == y.toList) (ks.drop i) i := hinv
 refine sr_ (wl_ov (ov_lss rfl rfl) rfl (nn_ (gw_seq ?_)))
 refine gw_cond rfl (fun hh => ?_) (fun hh => ?_)
 ·have hi : ((i : Nat) : Int) < ((n1 : Nat) : Int) := by simpa using hh
  clear hh
  refine gw_skip (nx_then (gw_seq (gw_block (sr_ ?_))))
  obtain ⟨b, off, hA, _, _⟩ := hs.get (by omega)
  subst hA
  obtain ⟨z0, hx⟩ : ∃ x, ks[i]? = some x := ⟨_, List.getElem?_eq_getElem (by omega)⟩
  have hat := ixP_at (p := (fun y => k.toList == y.toList)) hx
  refine mv_ rfl (sg_ rfl (nn_ (sr_ (mv_ rfl (mv_ rfl (mv_ rfl ?_))))))
  refine wl_ov (ov_index (j := i) es103 rfl rfl (by omega)) rfl ?_
  refine wl_ov (ov_elem1 (k := 0) (v := .string z0) sc9 rfl (fun _ hm => (hm.fact 0 rfl).1) hx rfl rfl) rfl ?_
  refine wl_ov (ov_seql rfl rfl) rfl (nn_ ?_)
  refine gw_cond rfl (fun hh => ?_) (fun hh => ?_)
  ·have hq : (k.toList == z0.toList) = true := by simpa using hh
   clear hh
   refine sr_ (mv_ rfl (sg_ rfl (nn_ ?_)))
   refine gw_ret ?_
   refine nx_blk_ret (nx_then_ret (nx_then_ret (nx_blk_ret (nx_then_ret ?_))))
   refine nx_ret1 rfl rfl fun wx hm => ?_
   exact ⟨ret_int (by rw [hinv.2, hat, if_pos hq]), hm.g⟩
  have hq : (k.toList == z0.toList) = false := by simpa using hh
  clear hh
  refine gw_skip (nx_blk_nrm (nx_then (gw_region (ad_ rfl rfl (mv_ rfl (wl_nil ?_))))))
  exact nx_round (i + 1) ⟨by omega, by rw [hinv.2, hat, if_neg (by rw [hq]; decide)]⟩ (by omega) ⟨rfl, rfl, rfl, (some_int (by omega)), trivial⟩ (fun _ hm => hm.pick [] [] [0] rfl rfl)
 have hi : ¬ (((i : Nat) : Int) < ((n1 : Nat) : Int)) := by simpa using hh
 clear hh
 refine gw_exit ?_
 refine nx_then_exit (nx_then_exit ?_)
 refine nx_blk_here ?_
 refine nx_then (sr_ (sg_ rfl ?_))
 refine wl_set 4 (v' := .int .i64 (-1)) rfl rfl ?_
 refine nn_ ?_
 refine gw_ret ?_
 refine nx_ret1 rfl rfl fun wx hm => ?_
 exact ⟨ret_int (by rw [hinv.2, List.drop_eq_nil_of_le (by omega)]; rfl), hm.g⟩
theorem contains_str (ks : List ByteArray) (A1 : Option Addr) (n1 c1 : Nat) (k : ByteArray) (w : World) (hs : SlT sgEnc 1 9 w A1 n1 ks) (hn : n1 ≤ 1000000) :
  Calls Tryz.prog 180 #[.slice A1 n1 c1, .string k] w (fun e w' => e = .returned (.bool (inK k ks)) ∧ w.grownBy w' none) := by
 refine gw_enter ⟨9, w, none, []⟩ Tryz.func180 rfl Tryz.ntmps180 rfl (mem0 (X := [SlOld sgEnc 1 9 w.heap.size none A1 n1 ks]) (allF_cons hs.old allF_nil) (allL_cons SlOld.lasts allL_nil)) ?_
 refine sr_ (sg_ rfl (nn_ (sr_ (mv_ rfl (mv_ rfl ?_)))))
 refine wl_callv rfl cb119 rfl rfl (fun wx hm => (index_str ks A1 n1 c1 k wx (hm.fact 0 rfl).1 hn)) ?_
 refine wl_ov (ov_geq rfl rfl) rfl ?_
 refine sg_ rfl (nn_ ?_)
 refine gw_ret ?_
 refine nx_ret1 rfl rfl fun wx hm => ?_
 exact ⟨by unfold inK; rw [← ix_any], hm.g⟩
theorem above_any (l : List Cs) (A : Option Addr) (n c : Nat) (k0 : ByteArray) (w : World) (hl : SlT csEnc 2 158 w A n l) (hc : Closed l) (hk0 : 0 ≤ ixP (csP k0) l 0) (hn : n ≤ 1000000) :
  Calls Tryz.prog 239 #[.slice A n c, .string k0] w (fun e w' => ∃ (A2 : Option Addr) (n2 c2 : Nat), e = .returned (.slice A2 n2 c2) ∧ w'.ownsRow w.heap.size 9 1 (.slice A2 n2 c2) n2 ((pathN l n k0).flatMap sgEnc) ∧ (pathN l n k0).length = n2 ∧ w.grownBy w' none) := by
 refine gw_enter ⟨25, w, none, []⟩ Tryz.func239 rfl Tryz.ntmps239 rfl (mem0 (X := [SlOld csEnc 2 158 w.heap.size none A n l]) (allF_cons hl.old allF_nil) (allL_cons SlOld.lasts allL_nil)) ?_
 refine sr_ ?_
 have hlen := hl.len
 refine sg_ rfl (nn_ (sr_ (sg_ rfl (nn_ (gw_seq (sr_ (mv_ rfl (wl_ov (ov_len es58 rfl) rfl (mv_ rfl ?_)))))))))
 refine nn_ (gw_block ?_)
 refine gw_nilOwn 9 1 ?_
 refine gw_loop (γ := Nat × ByteArray × Value × List ByteArray × List Value) (fun g => g.1 ≤ n ∧ 0 ≤ ixP (csP g.2.1) l 0 ∧ g.2.2.2.1.length = g.1 ∧ g.2.2.2.1 ++ pathN l (n - g.1) g.2.1 = pathN l n k0 ∧ g.2.2.2.2 = g.2.2.2.1.flatMap sgEnc) (fun g => [(0, .slice A n c), (1, .string g.2.1), (4, .slice none 0 0), (5, g.2.2.1), (7, .int .i64 ((n : Nat) : Int)), (8, .int .i64 ((g.1 : Nat) : Int))]) (fun g => fun _ => True) (fun g => []) (fun g => [⟨g.2.2.1, 9, 1, g.1, g.2.2.2.2⟩]) (fun g => [SlOld csEnc 2 158 w.heap.size none A n l]) (fun g => n - g.1) (0, k0, .slice none 0 0, [], []) ⟨Nat.zero_le _, hk0, rfl, rfl, rfl⟩ ⟨rfl, rfl, rfl, rfl, rfl, rfl, trivial⟩ (fun _ hm => hm.pick [] [0] [0] rfl rfl) ?_
 rintro ⟨i, k, v, done, xs⟩ hinv
 replace hinv : i ≤ n ∧ 0 ≤ ixP (csP k) l 0 ∧ done.length = i ∧ done ++ pathN l (n - i) k = pathN l n k0 ∧ xs = done.flatMap sgEnc := hinv
 dsimp only
 refine sr_ ?_
 obtain ⟨hi0, hik, hdl, hdp, rfl⟩ := hinv
 refine wl_ov (ov_lss rfl rfl) rfl (nn_ (gw_seq ?_))
 refine gw_cond rfl (fun hh => ?_) (fun hh => ?_)
 ·have hi : ((i : Nat) : Int) < ((n : Nat) : Int) := by simpa using hh
  clear hh
  refine gw_skip (nx_then (gw_seq (gw_block (sr_ ?_))))
  obtain ⟨b, off, hA, _, _⟩ := hl.get (by omega)
  subst hA
  refine mv_ rfl (mv_ rfl (mv_ rfl ?_))
  obtain ⟨x, hx, hxl, hxk⟩ := ix_key hik
  obtain ⟨j, hj⟩ := Int.eq_ofNat_of_zero_le hik
  have hjx : (ixP (csP k) l 0).toNat = j := by omega
  rw [hjx] at hx
  have hup := upOf_at hj hx
  have hjn : j < n := by have := (List.getElem?_eq_some_iff.1 hx).1; omega
  obtain ⟨ke, up⟩ := x
  have hup : upOf l k = up := hup
  have hcl := hc ⟨ke, up⟩ hxl
  have hcl : emptyS up = false → 0 ≤ ixP (csP up) l 0 := hcl
  refine wl_callv (v := .int .i64 ((j : Nat) : Int)) rfl cb209 rfl rfl (fun wx hm => (by rw [← hj]; exact classAt_any l _ n c k wx (hm.fact 0 rfl).1 hn)) ?_
  refine wl_ov (ov_index (j := j) es58 rfl rfl (by omega)) rfl ?_
  refine fd_ fo158_1 rfl rfl ?_
  refine wl_ov (ov_elem1 (k := 1) (v := .string up) sc9 rfl (fun _ hm => (hm.fact 0 rfl).1) hx rfl rfl) rfl ?_
  refine sg_ rfl (nn_ (gw_seq (sr_ (mv_ rfl (wl_ov (ov_seql rfl rfl) rfl (nn_ ?_))))))
  refine gw_cond rfl (fun hh => ?_) (fun hh => ?_)
  ·have hq : (up.toList == (⟨#[]⟩ : ByteArray).toList) = true := by simpa using hh
   clear hh
   refine gw_exit ?_
   refine nx_then_exit ?_
   refine nx_blk_on rfl ?_
   refine nx_then_exit (nx_then_exit ?_)
   refine nx_blk_here ?_
   refine nx_then (sr_ ?_)
   refine wl_look (R := ∃ A cc, v = .slice A i cc) (fun wx hm => own_slice (hm.ownI 0 rfl)) ?_
   rintro ⟨A2, c2, rfl⟩
   refine mv_ rfl (sg_ rfl (nn_ ?_))
   refine gw_ret ?_
   have hall : done = pathN l n k0 := by rw [← hdp, path_stop (by rw [hup]; unfold emptyS; exact hq), List.append_nil]
   refine nx_ret1 rfl rfl fun wx hm => ?_
   exact ⟨A2, i, c2, rfl, by rw [← hall]; exact hm.ownI 0 rfl, by rw [← hall]; exact hdl, hm.g⟩
  have hq : (up.toList == (⟨#[]⟩ : ByteArray).toList) = false := by simpa using hh
  clear hh
  refine gw_skip (nx_then (gw_region (mv_ rfl (mv_ rfl ?_))))
  refine wl_buildSlice (e := 9) (cs := [.string up]) rfl (by kernel_rfl) rfl fun g1 => ?_
  refine wl_append (news := [.string up]) 0 0 ap103 rfl rfl rfl rfl rfl rfl rfl (by omega) (by unfold maxLen; omega) rfl rfl fun v2 hv2 => ?_
  refine sg_ rfl (wl_nil (nx_blk_nrm (nx_then (gw_region (ad_ rfl rfl (mv_ rfl (wl_nil ?_)))))))
  have hue : emptyS (upOf l k) = false := by rw [hup]; unfold emptyS; exact hq
  have hpm := path_more hue (show i < n by omega)
  rw [hup] at hpm hue
  exact nx_round (i + 1, up, v2, done ++ [up], done.flatMap sgEnc ++ ([.string up] : List Value)) ⟨by dsimp only; omega, hcl hue, by simp [hdl], by dsimp only; rw [← hdp, hpm, List.append_assoc]; rfl, by simp [sgEnc]⟩ (by dsimp only; omega) ⟨rfl, rfl, rfl, rfl, rfl, (some_int (by omega)), trivial⟩ (fun _ hm => hm.pick [] [0] [0] rfl rfl)
 have hi : ¬ (((i : Nat) : Int) < ((n : Nat) : Int)) := by simpa using hh
 clear hh
 refine gw_exit ?_
 refine nx_then_exit (nx_then_exit ?_)
 refine nx_blk_here ?_
 refine nx_then (sr_ ?_)
 refine wl_look (R := ∃ A cc, v = .slice A i cc) (fun wx hm => own_slice (hm.ownI 0 rfl)) ?_
 rintro ⟨A2, c2, rfl⟩
 refine mv_ rfl (sg_ rfl (nn_ ?_))
 refine gw_ret ?_
 have hin : i = n := by omega
 have hall : done = pathN l n k0 := by rw [← hdp, hin, Nat.sub_self]; exact (List.append_nil _).symm
 refine nx_ret1 rfl rfl fun wx hm => ?_
 exact ⟨A2, i, c2, rfl, by rw [← hall]; exact hm.ownI 0 rfl, by rw [← hall]; exact hdl, hm.g⟩
theorem ups_any (l : List Cs) (A : Option Addr) (n c : Nat) (k0 : ByteArray) (w : World) (hl : SlT csEnc 2 158 w A n l) (hok : ∀ x ∈ l, CsOk x) (hn : n ≤ 1000000) :
  Calls Tryz.prog 222 #[.slice A n c, .string k0] w (fun e w' => ∃ (A2 : Option Addr) (n2 c2 : Nat), e = .returned (.slice A2 n2 c2) ∧ w'.ownsRow w.heap.size 9 1 (.slice A2 n2 c2) n2 ((pathN l (n + 1) k0).flatMap sgEnc) ∧ (pathN l (n + 1) k0).length = n2 ∧ w.grownBy w' none) := by
 refine gw_enter ⟨43, w, none, []⟩ Tryz.func222 rfl Tryz.ntmps222 rfl (mem0 (X := [SlOld csEnc 2 158 w.heap.size none A n l]) (allF_cons hl.old allF_nil) (allL_cons SlOld.lasts allL_nil)) ?_
 refine sr_ ?_
 have hlen := hl.len
 refine sg_ rfl (nn_ (sr_ (sg_ rfl (nn_ (gw_seq (sr_ (mv_ rfl (mv_ rfl ?_))))))))
 refine wl_callv rfl cb153 rfl rfl (fun wx hm => (rClassAt_any l A n c k0 wx (hm.fact 0 rfl).1 hn)) ?_
 refine sg_ rfl (nn_ (gw_block ?_))
 refine gw_nilOwn 9 1 ?_
 refine gw_loop (γ := Nat × ByteArray × Value × List ByteArray × List Value) (fun g => g.1 ≤ n + 1 ∧ g.2.2.2.1.length = g.1 ∧ g.2.2.2.1 ++ pathN l (n + 1 - g.1) g.2.1 = pathN l (n + 1) k0 ∧ g.2.2.2.2 = g.2.2.2.1.flatMap sgEnc) (fun g => [(0, .slice A n c), (4, .slice none 0 0), (5, g.2.2.1), (6, .int .i64 (ixP (csP g.2.1) l 0))]) (fun g => fun _ => True) (fun g => []) (fun g => [⟨g.2.2.1, 9, 1, g.1, g.2.2.2.2⟩]) (fun g => [SlOld csEnc 2 158 w.heap.size none A n l]) (fun g => n + 1 - g.1) (0, k0, .slice none 0 0, [], []) ⟨Nat.zero_le _, rfl, rfl, rfl⟩ ⟨rfl, rfl, rfl, rfl, trivial⟩ (fun _ hm => hm.pick [] [0] [0] rfl rfl) ?_
 rintro ⟨i, k, v, done, xs⟩ hinv
 replace hinv : i ≤ n + 1 ∧ done.length = i ∧ done ++ pathN l (n + 1 - i) k = pathN l (n + 1) k0 ∧ xs = done.flatMap sgEnc := hinv
 dsimp only
 refine gw_seq (sr_ ?_)
 obtain ⟨hi0, hdl, hdp, rfl⟩ := hinv
 refine wl_look (R := ∃ A cc, v = .slice A i cc) (fun wx hm => own_slice (hm.ownI 0 rfl)) ?_
 rintro ⟨A2, c2, rfl⟩
 refine mv_ rfl ?_
 refine wl_ov (ov_geq rfl rfl) rfl ?_
 refine mv_ rfl ?_
 rcases Bool.eq_false_or_eq_true (decide (0 ≤ ixP (csP k) l 0)) with hik | hik
 ·refine wl_set 12 rfl (congrArg Value.bool hik) ?_
  have hik := of_decide_eq_true hik
  obtain ⟨x, hx, hxl, hxk⟩ := ix_key hik
  obtain ⟨j, hj⟩ := Int.eq_ofNat_of_zero_le hik
  have hjx : (ixP (csP k) l 0).toNat = j := by omega
  rw [hjx] at hx
  have hup := upOf_at hj hx
  have hjn : j < n := by have := (List.getElem?_eq_some_iff.1 hx).1; omega
  obtain ⟨ke, up⟩ := x
  have hup : upOf l k = up := hup
  have hsz := (hok _ hxl).2
  have hsz : up.size ≤ 1000000 := hsz
  obtain ⟨b, off, hA, _, _⟩ := hl.get (by omega)
  subst hA
  refine wl_set 6 (v' := .int .i64 ((j : Nat) : Int)) rfl (congrArg (Value.int .i64) hj) ?_
  refine wl_guard_on rfl rfl rfl (mv_ rfl (wl_guard_on rfl rfl rfl (mv_ rfl (wl_guard_on rfl rfl rfl ?_))))
  refine wl_ov (ov_index (j := j) es58 rfl rfl (by omega)) rfl ?_
  refine wl_guard_on rfl rfl rfl (fd_ fo158_1 rfl rfl (wl_guard_on rfl rfl rfl ?_))
  refine wl_ov (ov_elem1 (k := 1) (v := .string up) sc9 rfl (fun _ hm => (hm.fact 0 rfl).1) hx rfl rfl) rfl ?_
  refine wl_guard_on rfl rfl rfl (wl_ov (ov_sneq rfl rfl) rfl (pt_ rfl rfl (mv_ rfl ?_)))
  rcases Bool.eq_false_or_eq_true (!(up.toList == (⟨#[]⟩ : ByteArray).toList)) with hq | hq
  ·refine wl_set 20 rfl (congrArg Value.bool hq) ?_
   have hue : emptyS (upOf l k) = false := by rw [hup]; unfold emptyS; simpa only [Bool.not_eq_true'] using hq
   refine wl_guard_on rfl rfl rfl (mv_ rfl (wl_guard_on rfl rfl rfl (wl_ov (ov_len es103 rfl) rfl (wl_guard_on rfl rfl rfl (mv_ rfl (wl_guard_on rfl rfl rfl (wl_ov (ov_len es58 rfl) rfl (wl_guard_on rfl rfl rfl (wl_ov (ov_leq rfl rfl) rfl (pt_ rfl rfl (nn_ ?_)))))))))))
   refine gw_cond rfl (fun hh => ?_) (fun hh => ?_)
   ·have hcnt : ((i : Nat) : Int) ≤ ((n : Nat) : Int) := by simpa using hh
    clear hh
    refine gw_skip (nx_then (gw_seq (gw_block (gw_region (mv_ rfl (mv_ rfl (mv_ rfl ?_)))))))
    refine wl_ov (ov_index (j := j) es58 rfl rfl (by omega)) rfl ?_
    refine fd_ fo158_1 rfl rfl ?_
    refine wl_ov (ov_elem1 (k := 1) (v := .string up) sc9 rfl (fun _ hm => (hm.fact 0 rfl).1) hx rfl rfl) rfl ?_
    refine wl_buildSlice (e := 9) (cs := [.string up]) rfl (by kernel_rfl) rfl fun g1 => ?_
    refine wl_append (news := [.string up]) 0 0 ap103 rfl rfl rfl rfl rfl rfl rfl (by omega) (by unfold maxLen; omega) rfl rfl fun v2 hv2 => ?_
    refine sg_ rfl (wl_nil (nx_blk_nrm (nx_then (gw_region (mv_ rfl (mv_ rfl (mv_ rfl ?_)))))))
    refine wl_ov (ov_index (j := j) es58 rfl rfl (by omega)) rfl ?_
    refine fd_ fo158_1 rfl rfl ?_
    refine wl_ov (ov_elem1 (k := 1) (v := .string up) sc9 rfl (fun _ hm => (hm.fact 0 rfl).1) hx rfl rfl) rfl ?_
    refine wl_callv rfl cb153 rfl rfl (fun wx hm => (rClassAt_any l _ n c up wx (hm.fact 0 rfl).1 hn)) ?_
    refine sg_ rfl (wl_nil ?_)
    have hpm := path_more hue (show i < n + 1 by omega)
    rw [hup] at hpm
    exact nx_round (i + 1, up, v2, done ++ [up], done.flatMap sgEnc ++ ([.string up] : List Value)) ⟨by dsimp only; omega, by simp [hdl], by dsimp only; rw [← hdp, hpm, List.append_assoc]; rfl, by simp [sgEnc]⟩ (by dsimp only; omega) ⟨rfl, rfl, rfl, rfl, trivial⟩ (fun _ hm => hm.pick [] [0] [0] rfl rfl)
   have hcnt : ¬ (((i : Nat) : Int) ≤ ((n : Nat) : Int)) := by simpa using hh
   clear hh
   refine gw_exit ?_
   refine nx_then_exit (nx_then_exit ?_)
   refine nx_blk_here ?_
   refine nx_then (sr_ (mv_ rfl (sg_ rfl (nn_ ?_))))
   refine gw_ret ?_
   have hin : i = n + 1 := by omega
   have hall : done = pathN l (n + 1) k0 := by rw [← hdp, hin, Nat.sub_self]; exact (List.append_nil _).symm
   refine nx_ret1 rfl rfl fun wx hm => ?_
   exact ⟨A2, i, c2, rfl, by rw [← hall]; exact hm.ownI 0 rfl, by rw [← hall]; exact hdl, hm.g⟩
  refine wl_set 20 rfl (congrArg Value.bool hq) ?_
  refine goff rfl rfl rfl (goff rfl rfl rfl (goff rfl rfl rfl (goff rfl rfl rfl (goff rfl rfl rfl (pf_ rfl rfl (nn_ (cf_ rfl ?_)))))))
  refine gw_exit ?_
  refine nx_then_exit (nx_then_exit ?_)
  refine nx_blk_here ?_
  refine nx_then (sr_ (mv_ rfl (sg_ rfl (nn_ ?_))))
  refine gw_ret ?_
  have hall : done = pathN l (n + 1) k0 := by rw [← hdp, path_stop (by rw [hup]; unfold emptyS; simpa only [Bool.not_eq_false'] using hq), List.append_nil]
  refine nx_ret1 rfl rfl fun wx hm => ?_
  exact ⟨A2, i, c2, rfl, by rw [← hall]; exact hm.ownI 0 rfl, by rw [← hall]; exact hdl, hm.g⟩
 refine wl_set 12 rfl (congrArg Value.bool hik) ?_
 refine goff rfl rfl rfl (goff rfl rfl rfl (goff rfl rfl rfl (goff rfl rfl rfl (goff rfl rfl rfl (goff rfl rfl rfl (pf_ rfl rfl (mv_ rfl (goff rfl rfl rfl (goff rfl rfl rfl (goff rfl rfl rfl (goff rfl rfl rfl (goff rfl rfl rfl (pf_ rfl rfl ?_)))))))))))))
 refine nn_ (cf_ rfl ?_)
 refine gw_exit ?_
 refine nx_then_exit (nx_then_exit ?_)
 refine nx_blk_here ?_
 refine nx_then (sr_ (mv_ rfl (sg_ rfl (nn_ ?_))))
 refine gw_ret ?_
 have hik := of_decide_eq_false hik
 have hall : done = pathN l (n + 1) k0 := by rw [← hdp, path_stop (upOf_no (by omega)), List.append_nil]
 refine nx_ret1 rfl rfl fun wx hm => ?_
 exact ⟨A2, i, c2, rfl, by rw [← hall]; exact hm.ownI 0 rfl, by rw [← hall]; exact hdl, hm.g⟩
theorem checkClasses_any (l : List Cs) (A : Option Addr) (n c : Nat) (w : World) (hl : SlT csEnc 2 158 w A n l) (hok : ∀ x ∈ l, CsOk x) (hn : n ≤ 1000000) :
  Calls Tryz.prog 208 #[.slice A n c] w (GotE w (classesE l)) := by
 refine gw_enter ⟨80, w, none, []⟩ Tryz.func208 rfl Tryz.ntmps208 rfl (mem0 (X := [SlOld csEnc 2 158 w.heap.size none A n l]) (allF_cons hl.old allF_nil) (allL_cons SlOld.lasts allL_nil)) ?_
 refine sr_ ?_
 have hlen := hl.len
 refine sg_ rfl (nn_ (gw_seq (sr_ (mv_ rfl (wl_ov (ov_len es58 rfl) rfl ?_)))))
 refine wl_ov (ov_gtr rfl rfl) rfl ?_
 refine nn_ ?_
 refine gw_cond rfl (fun hh => ?_) (fun hh => ?_)
 ·have h1 : 30 < ((n : Nat) : Int) := by simpa using hh
  clear hh
  refine sr_ (sg_ rfl (nn_ ?_))
  refine gw_ret ?_
  refine nx_then_ret ?_
  refine nx_ret1 rfl rfl fun wx hm => ?_
  exact ⟨ret_int (by unfold classesE; rw [if_pos (by omega)]), hm.g⟩
 have h1 : ¬ (30 < ((n : Nat) : Int)) := by simpa using hh
 clear hh
 refine gw_skip (nx_then (gw_seq (sr_ ?_)))
 have h30 : ¬ 30 < l.length := by omega
 refine mv_ rfl (wl_ov (ov_len es58 rfl) rfl (mv_ rfl (nn_ (gw_block ?_))))
 refine gw_loop (γ := Nat) (fun (k : Nat) => k ≤ n ∧ scanE csE none l = scanE csE (prevOf l k) (l.drop k)) (fun (k : Nat) => [(0, .slice A n c), (12, .slice A n c), (13, .int .i64 ((n : Nat) : Int)), (14, .int .i64 ((k : Nat) : Int))]) (fun (k : Nat) => fun _ => True) (fun (k : Nat) => []) (fun (k : Nat) => []) (fun (k : Nat) => [SlOld csEnc 2 158 w.heap.size none A n l]) (fun (k : Nat) => n - k) 0 ⟨Nat.zero_le _, rfl⟩ ⟨rfl, rfl, rfl, rfl, trivial⟩ (fun _ hm => hm.pick [] [] [0] rfl rfl) ?_
 intro k hinv
 replace hinv : k ≤ n ∧ scanE csE none l = scanE csE (prevOf l k) (l.drop k) := hinv
 refine sr_ (wl_ov (ov_lss rfl rfl) rfl (nn_ (gw_seq ?_)))
 refine gw_cond rfl (fun hh => ?_) (fun hh => ?_)
 ·have hk : ((k : Nat) : Int) < ((n : Nat) : Int) := by simpa using hh
  clear hh
  refine gw_skip (nx_then (gw_seq (gw_block (sr_ ?_))))
  obtain ⟨b, off, hA, _, _⟩ := hl.get (by omega)
  subst hA
  obtain ⟨x, hx⟩ : ∃ x, l[k]? = some x := ⟨_, List.getElem?_eq_getElem (by omega)⟩
  obtain ⟨ke, up⟩ := x
  have hat := scanE_at csE l k _ hx
  have hk1 : ke.size ≤ 1000000 := (hok _ (List.mem_of_getElem? hx)).1
  have hk2 : up.size ≤ 1000000 := (hok _ (List.mem_of_getElem? hx)).2
  refine mv_ rfl ?_
  refine wl_ov (ov_index (j := k) es58 rfl rfl (by omega)) rfl ?_
  refine wl_ov (ov_elem (vs := [.string ke, .string up]) rz158 rfl (fun _ hm => (hm.fact 0 rfl).1) hx rfl rfl) rfl ?_
  refine wl_alloc zc158 rfl fun g1 => ?_
  refine sg_ rfl ?_
  refine wl_stores (cs' := [.string ke, .string up]) 0 rz158 rfl rfl rfl rfl rfl rfl rfl rfl ?_
  refine nn_ (gw_block (sr_ (fd_ fo158_0 rfl rfl (lk_ sc9 0 rfl rfl rfl ?_))))
  refine wl_callw rfl cb69 rfl rfl (fun wx hm => (isKey_any _ wx (by omega))) ?_
  refine wl_ov (ov_un_not rfl) rfl (sg_ rfl (nn_ ?_))
  refine gw_cond rfl (fun hh => ?_) (fun hh => ?_)
  ·have h2 : (keyB ke) = false := by simpa using hh
   clear hh
   refine sr_ (sg_ rfl (nn_ ?_))
   refine gw_ret ?_
   refine nx_blk_ret (nx_blk_ret (nx_then_ret (nx_then_ret (nx_blk_ret (nx_then_ret ?_)))))
   have hE : csE (prevOf l k) ⟨ke, up⟩ = 5 := by unfold csE; simp [h2]
   refine nx_ret1 rfl rfl fun wx hm => ?_
   exact ⟨ret_int (by rw [cls_scan h30 (v := 5) (by rw [hinv.2, hat, if_neg (by rw [hE]; decide), hE]) (by decide)]), hm.g⟩
  have h2 : (keyB ke) = true := by simpa using hh
  clear hh
  refine gw_seq ?_
  by_cases hk0 : k = 0
  ·have hO : leCs (prevOf l k) ⟨ke, up⟩ = false := by rw [prevOf_zero hk0]; rfl
   refine gd (fun wz => Blk wz g1 158 [.string ke, .string up] ∧ (SlOld csEnc 2 158 w.heap.size none (some ⟨b, off, none⟩) n l) wz ∧ True) mixed (fun _ hm => ⟨hm.bl 0, hm.fa 0, trivial⟩) fun z => ?_
   refine wt 0 14 1 rfl z (ov_move rfl) ?_
   refine wt 1 14 3 rfl z (ov_gtr rfl rfl) ?_
   refine wa_set 26 (v' := .bool false) rfl (congrArg Value.bool (decide_eq_false (by omega))) ?_
   refine wt 2 14 7 rfl z (ov_move rfl) ?_
   refine wtf 3 14 15 rfl rfl rfl z ?_
   refine wtf 4 14 31 rfl rfl rfl z ?_
   refine wtf 5 14 63 rfl rfl rfl z ?_
   refine wtf 6 14 127 rfl rfl rfl z ?_
   refine wtf 7 14 255 rfl rfl rfl z ?_
   refine wtf 8 14 511 rfl rfl rfl z ?_
   refine wtf 9 14 1023 rfl rfl rfl z ?_
   refine wtf 10 14 2047 rfl rfl rfl z ?_
   refine wtf 11 14 4095 rfl rfl rfl z ?_
   refine wt 12 14 8191 rfl z (ov_pick_f rfl rfl) ?_
   refine wt 13 14 16383 rfl z (ov_assign rfl) ?_
   refine wa_done (by kernel_rfl) ?_
   refine nx_then (cf_ rfl (sr_ (fd_ fo158_1 rfl rfl (lk_ sc9 0 rfl rfl rfl (wl_ov (ov_sneq rfl rfl) rfl (mv_ rfl ?_))))))
   rcases Bool.eq_false_or_eq_true (!(up.toList == (⟨#[]⟩ : ByteArray).toList)) with h31 | h31
   ·refine wl_set 42 rfl (congrArg Value.bool h31) ?_
    have h31 : emptyS up = false := by unfold emptyS; simpa only [Bool.not_eq_true'] using h31
    refine wl_guard_on rfl rfl rfl (fd_ fo158_1 rfl rfl (wl_guard_on rfl rfl rfl (lk_ sc9 0 rfl rfl rfl (wl_guard_on rfl rfl rfl ?_))))
    refine wl_callw rfl cb69 rfl rfl (fun wx hm => (isKey_any _ wx (by omega))) ?_
    refine wl_guard_on rfl rfl rfl (wl_ov (ov_un_not rfl) rfl (pt_ rfl rfl (sg_ rfl (nn_ ?_))))
    refine gw_cond rfl (fun hh => ?_) (fun hh => ?_)
    ·have h32 : (keyB up) = false := by simpa using hh
     clear hh
     refine sr_ (sg_ rfl (nn_ ?_))
     refine gw_ret ?_
     refine nx_blk_ret (nx_blk_ret (nx_then_ret (nx_then_ret (nx_blk_ret (nx_then_ret ?_)))))
     have hE : csE (prevOf l k) ⟨ke, up⟩ = 5 := by unfold csE; simp [h2, hO, h31, h32]
     refine nx_ret1 rfl rfl fun wx hm => ?_
     exact ⟨ret_int (by rw [cls_scan h30 (v := 5) (by rw [hinv.2, hat, if_neg (by rw [hE]; decide), hE]) (by decide)]), hm.g⟩
    have h32 : (keyB up) = true := by simpa using hh
    clear hh
    refine gw_skip (nx_blk_nrm (nx_blk_nrm (nx_then (gw_region ?_))))
    have hE : csE (prevOf l k) ⟨ke, up⟩ = 0 := by unfold csE; simp [h2, hO, h31, h32]
    refine ad_ rfl rfl (mv_ rfl (wl_nil ?_))
    exact nx_round (k + 1) ⟨by omega, by rw [hinv.2, hat, if_pos hE]⟩ (by omega) ⟨rfl, rfl, rfl, (some_int (by omega)), trivial⟩ (fun _ hm => hm.pick [] [] [0] rfl rfl)
   refine wl_set 42 rfl (congrArg Value.bool h31) ?_
   have h31 : emptyS up = true := by unfold emptyS; simpa only [Bool.not_eq_false'] using h31
   have hE : csE (prevOf l k) ⟨ke, up⟩ = 0 := by unfold csE; simp [h2, hO, h31]
   refine goff rfl rfl rfl (goff rfl rfl rfl (goff rfl rfl rfl (goff rfl rfl rfl (pf_ rfl rfl (sg_ rfl (nn_ (cf_ rfl (gw_skip (nx_blk_nrm (nx_blk_nrm (nx_then (gw_region ?_))))))))))))
   refine ad_ rfl rfl (mv_ rfl (wl_nil ?_))
   exact nx_round (k + 1) ⟨by omega, by rw [hinv.2, hat, if_pos hE]⟩ (by omega) ⟨rfl, rfl, rfl, (some_int (by omega)), trivial⟩ (fun _ hm => hm.pick [] [] [0] rfl rfl)
  obtain ⟨y, hy⟩ : ∃ x, l[k - 1]? = some x := ⟨_, List.getElem?_eq_getElem (by omega)⟩
  obtain ⟨p0, p1⟩ := y
  refine gd (fun wz => Blk wz g1 158 [.string ke, .string up] ∧ (SlOld csEnc 2 158 w.heap.size none (some ⟨b, off, none⟩) n l) wz ∧ True) mixed (fun _ hm => ⟨hm.bl 0, hm.fa 0, trivial⟩) fun z => ?_
  refine wt 0 14 1 rfl z (ov_move rfl) ?_
  refine wt 1 14 3 rfl z (ov_gtr rfl rfl) ?_
  refine wa_set 26 (v' := .bool true) rfl (congrArg Value.bool (decide_eq_true (by omega))) ?_
  refine wt 2 14 7 rfl z (ov_move rfl) ?_
  refine wto 3 14 15 rfl rfl rfl z (ov_field fo158_0 rfl rfl) ?_
  refine wto 4 14 31 rfl rfl rfl z (ov_load sc9 rfl (fun _ hm => hm.1) rfl) ?_
  refine wto 5 14 63 rfl rfl rfl z (ov_move rfl) ?_
  refine wto 6 14 127 rfl rfl rfl z (ov_move rfl) ?_
  refine wto 7 14 255 rfl rfl rfl z (ov_sub rfl rfl (by omega) (by omega)) ?_
  refine wa_set 32 (v' := .int .i64 ((k - 1 : Nat) : Int)) rfl (congrArg (Value.int .i64) (by omega)) ?_
  refine wto 8 14 511 rfl rfl rfl z (ov_index (j := k - 1) es58 rfl rfl (by omega)) ?_
  refine wto 9 14 1023 rfl rfl rfl z (ov_field fo158_0 rfl rfl) ?_
  refine wto 10 14 2047 rfl rfl rfl z (ov_elem1 (k := 0) (v := .string p0) sc9 rfl (fun _ hm => (hm.2.1).1) hy rfl rfl) ?_
  refine wto 11 14 4095 rfl rfl rfl z (ov_sleq rfl rfl) ?_
  refine wt 12 14 8191 rfl z (ov_pick_t rfl rfl) ?_
  refine wt 13 14 16383 rfl z (ov_assign rfl) ?_
  refine wa_done (by kernel_rfl) ?_
  refine nx_then ?_
  refine gw_cond rfl (fun hh => ?_) (fun hh => ?_)
  ·have h9 : (Op.bytesLess ke.toList p0.toList || ke.toList == p0.toList) = true := by simpa using hh
   clear hh
   refine sr_ ?_
   have hO : leCs (prevOf l k) ⟨ke, up⟩ = true := by rw [prevOf_pos hk0 hy]; exact h9
   refine sg_ rfl (nn_ ?_)
   refine gw_ret ?_
   refine nx_blk_ret (nx_blk_ret (nx_then_ret (nx_then_ret (nx_blk_ret (nx_then_ret ?_)))))
   have hE : csE (prevOf l k) ⟨ke, up⟩ = 7 := by unfold csE; simp [h2, hO]
   refine nx_ret1 rfl rfl fun wx hm => ?_
   exact ⟨ret_int (by rw [cls_scan h30 (v := 7) (by rw [hinv.2, hat, if_neg (by rw [hE]; decide), hE]) (by decide)]), hm.g⟩
  have h9 : (Op.bytesLess ke.toList p0.toList || ke.toList == p0.toList) = false := by simpa using hh
  clear hh
  refine sr_ ?_
  have hO : leCs (prevOf l k) ⟨ke, up⟩ = false := by rw [prevOf_pos hk0 hy]; exact h9
  refine fd_ fo158_1 rfl rfl (lk_ sc9 0 rfl rfl rfl (wl_ov (ov_sneq rfl rfl) rfl (mv_ rfl ?_)))
  rcases Bool.eq_false_or_eq_true (!(up.toList == (⟨#[]⟩ : ByteArray).toList)) with h31 | h31
  ·refine wl_set 42 rfl (congrArg Value.bool h31) ?_
   have h31 : emptyS up = false := by unfold emptyS; simpa only [Bool.not_eq_true'] using h31
   refine wl_guard_on rfl rfl rfl (fd_ fo158_1 rfl rfl (wl_guard_on rfl rfl rfl (lk_ sc9 0 rfl rfl rfl (wl_guard_on rfl rfl rfl ?_))))
   refine wl_callw rfl cb69 rfl rfl (fun wx hm => (isKey_any _ wx (by omega))) ?_
   refine wl_guard_on rfl rfl rfl (wl_ov (ov_un_not rfl) rfl (pt_ rfl rfl (sg_ rfl (nn_ ?_))))
   refine gw_cond rfl (fun hh => ?_) (fun hh => ?_)
   ·have h32 : (keyB up) = false := by simpa using hh
    clear hh
    refine sr_ (sg_ rfl (nn_ ?_))
    refine gw_ret ?_
    refine nx_blk_ret (nx_blk_ret (nx_then_ret (nx_then_ret (nx_blk_ret (nx_then_ret ?_)))))
    have hE : csE (prevOf l k) ⟨ke, up⟩ = 5 := by unfold csE; simp [h2, hO, h31, h32]
    refine nx_ret1 rfl rfl fun wx hm => ?_
    exact ⟨ret_int (by rw [cls_scan h30 (v := 5) (by rw [hinv.2, hat, if_neg (by rw [hE]; decide), hE]) (by decide)]), hm.g⟩
   have h32 : (keyB up) = true := by simpa using hh
   clear hh
   refine gw_skip (nx_blk_nrm (nx_blk_nrm (nx_then (gw_region ?_))))
   have hE : csE (prevOf l k) ⟨ke, up⟩ = 0 := by unfold csE; simp [h2, hO, h31, h32]
   refine ad_ rfl rfl (mv_ rfl (wl_nil ?_))
   exact nx_round (k + 1) ⟨by omega, by rw [hinv.2, hat, if_pos hE]⟩ (by omega) ⟨rfl, rfl, rfl, (some_int (by omega)), trivial⟩ (fun _ hm => hm.pick [] [] [0] rfl rfl)
  refine wl_set 42 rfl (congrArg Value.bool h31) ?_
  have h31 : emptyS up = true := by unfold emptyS; simpa only [Bool.not_eq_false'] using h31
  have hE : csE (prevOf l k) ⟨ke, up⟩ = 0 := by unfold csE; simp [h2, hO, h31]
  refine goff rfl rfl rfl (goff rfl rfl rfl (goff rfl rfl rfl (goff rfl rfl rfl (pf_ rfl rfl (sg_ rfl (nn_ (cf_ rfl (gw_skip (nx_blk_nrm (nx_blk_nrm (nx_then (gw_region ?_))))))))))))
  refine ad_ rfl rfl (mv_ rfl (wl_nil ?_))
  exact nx_round (k + 1) ⟨by omega, by rw [hinv.2, hat, if_pos hE]⟩ (by omega) ⟨rfl, rfl, rfl, (some_int (by omega)), trivial⟩ (fun _ hm => hm.pick [] [] [0] rfl rfl)
 have hk : ¬ (((k : Nat) : Int) < ((n : Nat) : Int)) := by simpa using hh
 clear hh
 refine gw_exit ?_
 refine nx_then_exit (nx_then_exit ?_)
 refine nx_blk_here ?_
 refine nx_then (gw_seq (sr_ ?_))
 have hsc : scanE csE none l = 0 := by rw [hinv.2, scanE_end _ _ _ _ (by omega)]
 clear hinv hk
 refine mv_ rfl (wl_ov (ov_len es58 rfl) rfl (mv_ rfl (nn_ (gw_block ?_))))
 refine gw_loop (γ := Nat) (fun (k2 : Nat) => k2 ≤ n ∧ l.any (upB l) = (l.drop k2).any (upB l)) (fun (k2 : Nat) => [(0, .slice A n c), (49, .slice A n c), (50, .int .i64 ((n : Nat) : Int)), (51, .int .i64 ((k2 : Nat) : Int))]) (fun (k2 : Nat) => fun _ => True) (fun (k2 : Nat) => []) (fun (k2 : Nat) => []) (fun (k2 : Nat) => [SlOld csEnc 2 158 w.heap.size none A n l]) (fun (k2 : Nat) => n - k2) 0 ⟨Nat.zero_le _, rfl⟩ ⟨rfl, rfl, rfl, rfl, trivial⟩ (fun _ hm => hm.pick [] [] [0] rfl rfl) ?_
 intro k2 hinv
 replace hinv : k2 ≤ n ∧ l.any (upB l) = (l.drop k2).any (upB l) := hinv
 refine sr_ (wl_ov (ov_lss rfl rfl) rfl (nn_ (gw_seq ?_)))
 refine gw_cond rfl (fun hh => ?_) (fun hh => ?_)
 ·have hk : ((k2 : Nat) : Int) < ((n : Nat) : Int) := by simpa using hh
  clear hh
  refine gw_skip (nx_then (gw_seq (gw_block (sr_ ?_))))
  obtain ⟨b, off, hA, _, _⟩ := hl.get (by omega)
  subst hA
  obtain ⟨x, hx⟩ : ∃ x, l[k2]? = some x := ⟨_, List.getElem?_eq_getElem (by omega)⟩
  obtain ⟨ke, up⟩ := x
  have hat := any_at (p := upB l) hx
  have hk2 : up.size ≤ 1000000 := (hok _ (List.mem_of_getElem? hx)).2
  refine wl_ov (ov_index (j := k2) es58 rfl rfl (by omega)) rfl ?_
  refine wl_ov (ov_elem (vs := [.string ke, .string up]) rz158 rfl (fun _ hm => (hm.fact 0 rfl).1) hx rfl rfl) rfl ?_
  refine wl_alloc zc158 rfl fun g2 => ?_
  refine wl_stores (cs' := [.string ke, .string up]) 0 rz158 rfl rfl rfl rfl rfl rfl rfl rfl ?_
  refine nn_ (sr_ (fd_ fo158_1 rfl rfl (lk_ sc9 0 rfl rfl rfl (wl_ov (ov_sneq rfl rfl) rfl (mv_ rfl ?_)))))
  rcases Bool.eq_false_or_eq_true (!(up.toList == (⟨#[]⟩ : ByteArray).toList)) with h31 | h31
  ·refine wl_set 58 rfl (congrArg Value.bool h31) ?_
   have h31 : emptyS up = false := by unfold emptyS; simpa only [Bool.not_eq_true'] using h31
   refine wl_guard_on rfl rfl rfl (mv_ rfl (wl_guard_on rfl rfl rfl (fd_ fo158_1 rfl rfl (wl_guard_on rfl rfl rfl (lk_ sc9 0 rfl rfl rfl (wl_guard_on rfl rfl rfl ?_))))))
   refine wl_callv rfl cb209 rfl rfl (fun wx hm => (classAt_any l _ n c up wx (hm.fact 0 rfl).1 (by omega))) ?_
   refine wl_guard_on rfl rfl rfl (wl_ov (ov_lss rfl rfl) rfl (pt_ rfl rfl (nn_ ?_)))
   refine gw_cond rfl (fun hh => ?_) (fun hh => ?_)
   ·have h32 : ixP (csP up) l 0 < 0 := by simpa using hh
    clear hh
    refine sr_ (sg_ rfl (nn_ ?_))
    refine gw_ret ?_
    refine nx_blk_ret (nx_then_ret (nx_then_ret (nx_blk_ret (nx_then_ret ?_))))
    have hE : upB l ⟨ke, up⟩ = true := by unfold upB; simp [h31, h32]
    refine nx_ret1 rfl rfl fun wx hm => ?_
    exact ⟨ret_int (by rw [cls_up h30 hsc (by rw [hinv.2, hat, hE]; rfl)]), hm.g⟩
   have h32 : ¬ (ixP (csP up) l 0 < 0) := by simpa using hh
   clear hh
   refine gw_skip (nx_blk_nrm (nx_then (gw_region ?_)))
   have hE : upB l ⟨ke, up⟩ = false := by unfold upB; simp [h31]; omega
   refine ad_ rfl rfl (mv_ rfl (wl_nil ?_))
   exact nx_round (k2 + 1) ⟨by omega, by rw [hinv.2, hat, hE]; rfl⟩ (by omega) ⟨rfl, rfl, rfl, (some_int (by omega)), trivial⟩ (fun _ hm => hm.pick [] [] [0] rfl rfl)
  refine wl_set 58 rfl (congrArg Value.bool h31) ?_
  have h31 : emptyS up = true := by unfold emptyS; simpa only [Bool.not_eq_false'] using h31
  have hE : upB l ⟨ke, up⟩ = false := by unfold upB; simp [h31]
  refine goff rfl rfl rfl (goff rfl rfl rfl (goff rfl rfl rfl (goff rfl rfl rfl (goff rfl rfl rfl (pf_ rfl rfl (nn_ (cf_ rfl (gw_skip (nx_blk_nrm (nx_then (gw_region (ad_ rfl rfl ?_))))))))))))
  refine mv_ rfl (wl_nil ?_)
  exact nx_round (k2 + 1) ⟨by omega, by rw [hinv.2, hat, hE]; rfl⟩ (by omega) ⟨rfl, rfl, rfl, (some_int (by omega)), trivial⟩ (fun _ hm => hm.pick [] [] [0] rfl rfl)
 have hk : ¬ (((k2 : Nat) : Int) < ((n : Nat) : Int)) := by simpa using hh
 clear hh
 refine gw_exit ?_
 refine nx_then_exit (nx_then_exit ?_)
 refine nx_blk_here ?_
 refine nx_then (gw_seq (sr_ ?_))
 have hup : l.any (upB l) = false := by rw [hinv.2, any_end (by omega)]
 clear hinv hk
 have hcl := closed_of hup
 have hlo := cls_loop h30 hsc hup
 refine mv_ rfl (wl_ov (ov_len es58 rfl) rfl (mv_ rfl (nn_ (gw_block ?_))))
 refine gw_loop (γ := Nat) (fun (k3 : Nat) => k3 ≤ n ∧ l.any (fun x => inK x.key (pathN l (n) x.key)) = (l.drop k3).any (fun x => inK x.key (pathN l (n) x.key))) (fun (k3 : Nat) => [(0, .slice A n c), (66, .slice A n c), (67, .int .i64 ((n : Nat) : Int)), (68, .int .i64 ((k3 : Nat) : Int))]) (fun (k3 : Nat) => fun _ => True) (fun (k3 : Nat) => []) (fun (k3 : Nat) => []) (fun (k3 : Nat) => [SlOld csEnc 2 158 w.heap.size none A n l]) (fun (k3 : Nat) => n - k3) 0 ⟨Nat.zero_le _, rfl⟩ ⟨rfl, rfl, rfl, rfl, trivial⟩ (fun _ hm => hm.pick [] [] [0] rfl rfl) ?_
 intro k3 hinv
 replace hinv : k3 ≤ n ∧ l.any (fun x => inK x.key (pathN l (n) x.key)) = (l.drop k3).any (fun x => inK x.key (pathN l (n) x.key)) := hinv
 refine sr_ ?_
 have hlo2 : classesE l = if l.any (fun x => inK x.key (pathN l (n) x.key)) = true then 14 else 0 := by rw [hlo]; unfold loopB; rw [hlen]
 refine wl_ov (ov_lss rfl rfl) rfl (nn_ (gw_seq ?_))
 refine gw_cond rfl (fun hh => ?_) (fun hh => ?_)
 ·have hk : ((k3 : Nat) : Int) < ((n : Nat) : Int) := by simpa using hh
  clear hh
  refine gw_skip (nx_then (gw_seq (gw_block (sr_ ?_))))
  obtain ⟨b, off, hA, _, _⟩ := hl.get (by omega)
  subst hA
  obtain ⟨x, hx⟩ : ∃ x, l[k3]? = some x := ⟨_, List.getElem?_eq_getElem (by omega)⟩
  obtain ⟨ke, up⟩ := x
  have hat := any_at (p := (fun x => inK x.key (pathN l (n) x.key))) hx
  have hk2 : ke.size ≤ 1000000 := (hok _ (List.mem_of_getElem? hx)).1
  have hix : 0 ≤ ixP (csP ke) l 0 := by
   rcases ixP_spec (p := csP ke) l 0 with ⟨_, h⟩ | ⟨j, x, h, _⟩
   ·have := h _ (List.mem_of_getElem? hx)
    simp [csP] at this
   omega
  refine wl_ov (ov_index (j := k3) es58 rfl rfl (by omega)) rfl ?_
  refine wl_ov (ov_elem (vs := [.string ke, .string up]) rz158 rfl (fun _ hm => (hm.fact 0 rfl).1) hx rfl rfl) rfl ?_
  refine wl_alloc zc158 rfl fun g3 => ?_
  refine wl_stores (cs' := [.string ke, .string up]) 0 rz158 rfl rfl rfl rfl rfl rfl rfl rfl ?_
  refine nn_ (gw_seq ?_)
  refine gd (fun wz => Blk wz g3 158 [.string ke, .string up] ∧ (SlOld csEnc 2 158 w.heap.size none (some ⟨b, off, none⟩) n l) wz ∧ True) mixed (fun _ hm => ⟨hm.bl 0, hm.fa 0, trivial⟩) fun z => ?_
  refine wt 0 7 1 rfl z (ov_move rfl) ?_
  refine wt 1 7 3 rfl z (ov_field fo158_0 rfl rfl) ?_
  refine wt 2 7 7 rfl z (ov_load sc9 rfl (fun _ hm => hm.1) rfl) ?_
  refine wt 4 7 23 rfl z (ov_field fo158_0 rfl rfl) ?_
  refine wt 5 7 55 rfl z (ov_load sc9 rfl (fun _ hm => hm.1) rfl) ?_
  refine wa1 3 rfl ?_
  refine wl_callgo (γ := Option Addr × Nat × Nat) (val := (fun g => .slice g.1 g.2.1 g.2.2)) (φ := (fun g => (pathN l (n) ke).length = g.2.1)) (fun g => ⟨.slice g.1 g.2.1 g.2.2, 9, 1, g.2.1, (pathN l (n) ke).flatMap sgEnc⟩) rfl cb239 rfl rfl (fun wx hm => (above_any l _ n c ke wx (hm.fact 0 rfl).1 hcl hix (by omega)).mono fun _ _ ⟨A2, n2, c2, he, ho, hl2, hg⟩ => ⟨(A2, n2, c2), he, hl2, ho, hg⟩) ?_
  rintro ⟨A2, n2, c2⟩ hpl
  dsimp only at hpl ⊢
  have hpb := pathN_len l (n) ke
  refine wl_nil ?_
  refine nw 7 63 (fun _ hm => ⟨hm.bl 0, hm.fa 0, trivial⟩) fun z => ?_
  refine wa1 6 rfl ?_
  refine wl_callv rfl cb180 rfl rfl (fun wx hm => (contains_str (pathN l (n) ke) A2 n2 c2 ke wx (SlT.ofOwn sg_len (hm.ownI 0 rfl) hpl) (by omega))) ?_
  refine wl_nil ?_
  refine nw 7 127 (fun _ hm => ⟨hm.bl 0, hm.fa 0, trivial⟩) fun z => ?_
  refine wa_done (by kernel_rfl) ?_
  refine nx_then ?_
  refine gw_cond rfl (fun hh => ?_) (fun hh => ?_)
  ·have h33 : (inK ke (pathN l (n) ke)) = true := by simpa using hh
   clear hh
   refine sr_ (sg_ rfl (nn_ ?_))
   refine gw_ret ?_
   refine nx_blk_ret (nx_then_ret (nx_then_ret (nx_blk_ret (nx_then_ret ?_))))
   refine nx_ret1 rfl rfl fun wx hm => ?_
   exact ⟨ret_int (by rw [hlo2, if_pos (by rw [hinv.2, hat, h33]; rfl)]), hm.g⟩
  have h33 : (inK ke (pathN l (n) ke)) = false := by simpa using hh
  clear hh
  refine gw_skip (nx_blk_nrm (nx_then (gw_region (ad_ rfl rfl (mv_ rfl (wl_nil ?_))))))
  exact nx_round (k3 + 1) ⟨by omega, by rw [hinv.2, hat, h33]; rfl⟩ (by omega) ⟨rfl, rfl, rfl, (some_int (by omega)), trivial⟩ (fun _ hm => hm.pick [] [] [0] rfl rfl)
 have hk : ¬ (((k3 : Nat) : Int) < ((n : Nat) : Int)) := by simpa using hh
 clear hh
 refine gw_exit ?_
 refine nx_then_exit (nx_then_exit ?_)
 refine nx_blk_here ?_
 refine nx_then (sr_ (sg_ rfl (nn_ ?_)))
 refine gw_ret ?_
 refine nx_ret1 rfl rfl fun wx hm => ?_
 exact ⟨ret_int (by rw [hlo2, if_neg (by rw [hinv.2, any_end (by omega)]; decide)]), hm.g⟩
theorem classesFault_any (l : List Cs) (A : Option Addr) (n c : Nat) (w : World) (hl : SlT csEnc 2 158 w A n l) (hok : ∀ x ∈ l, CsOk x) (hn : n ≤ 1000000) :
  Calls Tryz.prog 148 #[.slice A n c] w (GotE w (classesE l)) := by
 refine gw_enter ⟨73, w, none, []⟩ Tryz.func148 rfl Tryz.ntmps148 rfl (mem0 (X := [SlOld csEnc 2 158 w.heap.size none A n l]) (allF_cons hl.old allF_nil) (allL_cons SlOld.lasts allL_nil)) ?_
 refine sr_ ?_
 have hlen := hl.len
 refine sg_ rfl (nn_ (gw_seq (sr_ (mv_ rfl (wl_ov (ov_len es58 rfl) rfl ?_)))))
 refine wl_ov (ov_gtr rfl rfl) rfl ?_
 refine nn_ ?_
 refine gw_cond rfl (fun hh => ?_) (fun hh => ?_)
 ·have h1 : 30 < ((n : Nat) : Int) := by simpa using hh
  clear hh
  refine sr_ (sg_ rfl (nn_ ?_))
  refine gw_ret ?_
  refine nx_then_ret ?_
  refine nx_ret1 rfl rfl fun wx hm => ?_
  exact ⟨ret_int (by unfold classesE; rw [if_pos (by omega)]), hm.g⟩
 have h1 : ¬ (30 < ((n : Nat) : Int)) := by simpa using hh
 clear hh
 refine gw_skip (nx_then (sr_ ?_))
 have h30 : ¬ 30 < l.length := by omega
 refine sg_ rfl (nn_ (gw_seq (sr_ (mv_ rfl (wl_ov (ov_len es58 rfl) rfl (mv_ rfl (nn_ (gw_block ?_))))))))
 refine gw_loop (γ := Nat) (fun (k : Nat) => k ≤ n ∧ scanE csE none l = scanE csE (prevOf l k) (l.drop k)) (fun (k : Nat) => [(0, .slice A n c), (3, .string (prevCs l k)), (13, .slice A n c), (14, .int .i64 ((n : Nat) : Int)), (15, .int .i64 ((k : Nat) : Int))]) (fun (k : Nat) => fun _ => True) (fun (k : Nat) => []) (fun (k : Nat) => []) (fun (k : Nat) => [SlOld csEnc 2 158 w.heap.size none A n l]) (fun (k : Nat) => n - k) 0 ⟨Nat.zero_le _, rfl⟩ ⟨rfl, rfl, rfl, rfl, rfl, trivial⟩ (fun _ hm => hm.pick [] [] [0] rfl rfl) ?_
 intro k hinv
 replace hinv : k ≤ n ∧ scanE csE none l = scanE csE (prevOf l k) (l.drop k) := hinv
 refine sr_ (wl_ov (ov_lss rfl rfl) rfl (nn_ (gw_seq ?_)))
 refine gw_cond rfl (fun hh => ?_) (fun hh => ?_)
 ·have hk : ((k : Nat) : Int) < ((n : Nat) : Int) := by simpa using hh
  clear hh
  refine gw_skip (nx_then (gw_seq (gw_block (sr_ ?_))))
  obtain ⟨b, off, hA, _, _⟩ := hl.get (by omega)
  subst hA
  obtain ⟨x, hx⟩ : ∃ x, l[k]? = some x := ⟨_, List.getElem?_eq_getElem (by omega)⟩
  obtain ⟨ke, up⟩ := x
  have hat := scanE_at csE l k _ hx
  have hk1 : ke.size ≤ 1000000 := (hok _ (List.mem_of_getElem? hx)).1
  have hk2 : up.size ≤ 1000000 := (hok _ (List.mem_of_getElem? hx)).2
  refine wl_ov (ov_index (j := k) es58 rfl rfl (by omega)) rfl ?_
  refine wl_ov (ov_elem (vs := [.string ke, .string up]) rz158 rfl (fun _ hm => (hm.fact 0 rfl).1) hx rfl rfl) rfl ?_
  refine wl_alloc zc158 rfl fun g1 => ?_
  refine wl_stores (cs' := [.string ke, .string up]) 0 rz158 rfl rfl rfl rfl rfl rfl rfl rfl ?_
  refine nn_ (gw_seq (gw_block (sr_ (fd_ fo158_0 rfl rfl (lk_ sc9 0 rfl rfl rfl ?_)))))
  refine wl_callv rfl cb197 rfl rfl (fun wx hm => (key_any _ wx (by omega))) ?_
  refine wl_ov (ov_un_not rfl) rfl (sg_ rfl (nn_ ?_))
  refine gw_cond rfl (fun hh => ?_) (fun hh => ?_)
  ·have h2 : (keyB ke) = false := by simpa using hh
   clear hh
   refine sr_ (sg_ rfl (nn_ ?_))
   refine gw_ret ?_
   refine nx_blk_ret (nx_then_ret (nx_blk_ret (nx_then_ret (nx_then_ret (nx_blk_ret (nx_then_ret ?_))))))
   have hE : csE (prevOf l k) ⟨ke, up⟩ = 5 := by unfold csE; simp [h2]
   refine nx_ret1 rfl rfl fun wx hm => ?_
   exact ⟨ret_int (by rw [cls_scan h30 (v := 5) (by rw [hinv.2, hat, if_neg (by rw [hE]; decide), hE]) (by decide)]), hm.g⟩
  have h2 : (keyB ke) = true := by simpa using hh
  clear hh
  refine sr_ (fd_ fo158_0 rfl rfl (lk_ sc9 0 rfl rfl rfl (mv_ rfl ?_)))
  refine wl_ov (ov_sleq rfl rfl) rfl ?_
  refine sg_ rfl (nn_ ?_)
  refine gw_cond rfl (fun hh => ?_) (fun hh => ?_)
  ·have h9 : (Op.bytesLess ke.toList (prevCs l k).toList || ke.toList == (prevCs l k).toList) = true := by simpa using hh
   clear hh
   refine sr_ ?_
   have hO : leCs (prevOf l k) ⟨ke, up⟩ = true := (prevCs_le (b := ⟨ke, up⟩) (by simpa using h2)).symm.trans h9
   refine sg_ rfl (nn_ ?_)
   refine gw_ret ?_
   refine nx_blk_ret (nx_then_ret (nx_blk_ret (nx_then_ret (nx_then_ret (nx_blk_ret (nx_then_ret ?_))))))
   have hE : csE (prevOf l k) ⟨ke, up⟩ = 7 := by unfold csE; simp [h2, hO]
   refine nx_ret1 rfl rfl fun wx hm => ?_
   exact ⟨ret_int (by rw [cls_scan h30 (v := 7) (by rw [hinv.2, hat, if_neg (by rw [hE]; decide), hE]) (by decide)]), hm.g⟩
  have h9 : (Op.bytesLess ke.toList (prevCs l k).toList || ke.toList == (prevCs l k).toList) = false := by simpa using hh
  clear hh
  refine sr_ ?_
  have hO : leCs (prevOf l k) ⟨ke, up⟩ = false := (prevCs_le (b := ⟨ke, up⟩) (by simpa using h2)).symm.trans h9
  refine fd_ fo158_1 rfl rfl (lk_ sc9 0 rfl rfl rfl (wl_ov (ov_sneq rfl rfl) rfl (mv_ rfl ?_)))
  rcases Bool.eq_false_or_eq_true (!(up.toList == (⟨#[]⟩ : ByteArray).toList)) with h31 | h31
  ·refine wl_set 33 rfl (congrArg Value.bool h31) ?_
   have h31 : emptyS up = false := by unfold emptyS; simpa only [Bool.not_eq_true'] using h31
   refine wl_guard_on rfl rfl rfl (fd_ fo158_1 rfl rfl (wl_guard_on rfl rfl rfl (lk_ sc9 0 rfl rfl rfl (wl_guard_on rfl rfl rfl ?_))))
   refine wl_callv rfl cb197 rfl rfl (fun wx hm => (key_any _ wx (by omega))) ?_
   refine wl_guard_on rfl rfl rfl (wl_ov (ov_un_not rfl) rfl (pt_ rfl rfl (sg_ rfl (nn_ ?_))))
   refine gw_cond rfl (fun hh => ?_) (fun hh => ?_)
   ·have h32 : (keyB up) = false := by simpa using hh
    clear hh
    refine sr_ (sg_ rfl (nn_ ?_))
    refine gw_ret ?_
    refine nx_blk_ret (nx_then_ret (nx_blk_ret (nx_then_ret (nx_then_ret (nx_blk_ret (nx_then_ret ?_))))))
    have hE : csE (prevOf l k) ⟨ke, up⟩ = 5 := by unfold csE; simp [h2, hO, h31, h32]
    refine nx_ret1 rfl rfl fun wx hm => ?_
    exact ⟨ret_int (by rw [cls_scan h30 (v := 5) (by rw [hinv.2, hat, if_neg (by rw [hE]; decide), hE]) (by decide)]), hm.g⟩
   have h32 : (keyB up) = true := by simpa using hh
   clear hh
   refine gw_skip (nx_blk_nrm (nx_then (gw_region ?_)))
   have hE : csE (prevOf l k) ⟨ke, up⟩ = 0 := by unfold csE; simp [h2, hO, h31, h32]
   refine fd_ fo158_0 rfl rfl (lk_ sc9 0 rfl rfl rfl (sg_ rfl (wl_nil (nx_blk_nrm (nx_then (gw_region (ad_ rfl rfl (mv_ rfl (wl_nil ?_)))))))))
   exact nx_round (k + 1) ⟨by omega, by rw [hinv.2, hat, if_pos hE]⟩ (by omega) ⟨rfl, (congrArg (fun z => some (Value.string z)) (prevCs_succ hx).symm), rfl, rfl, (some_int (by omega)), trivial⟩ (fun _ hm => hm.pick [] [] [0] rfl rfl)
  refine wl_set 33 rfl (congrArg Value.bool h31) ?_
  have h31 : emptyS up = true := by unfold emptyS; simpa only [Bool.not_eq_false'] using h31
  have hE : csE (prevOf l k) ⟨ke, up⟩ = 0 := by unfold csE; simp [h2, hO, h31]
  refine goff rfl rfl rfl (goff rfl rfl rfl (goff rfl rfl rfl (goff rfl rfl rfl (pf_ rfl rfl (sg_ rfl (nn_ (cf_ rfl (gw_skip (nx_blk_nrm (nx_then (gw_region (fd_ fo158_0 rfl rfl ?_))))))))))))
  refine lk_ sc9 0 rfl rfl rfl (sg_ rfl (wl_nil (nx_blk_nrm (nx_then (gw_region (ad_ rfl rfl (mv_ rfl (wl_nil ?_))))))))
  exact nx_round (k + 1) ⟨by omega, by rw [hinv.2, hat, if_pos hE]⟩ (by omega) ⟨rfl, (congrArg (fun z => some (Value.string z)) (prevCs_succ hx).symm), rfl, rfl, (some_int (by omega)), trivial⟩ (fun _ hm => hm.pick [] [] [0] rfl rfl)
 have hk : ¬ (((k : Nat) : Int) < ((n : Nat) : Int)) := by simpa using hh
 clear hh
 refine gw_exit ?_
 refine nx_then_exit (nx_then_exit ?_)
 refine nx_blk_here ?_
 refine nx_then (gw_seq (sr_ ?_))
 have hsc : scanE csE none l = 0 := by rw [hinv.2, scanE_end _ _ _ _ (by omega)]
 clear hinv hk
 refine mv_ rfl (wl_ov (ov_len es58 rfl) rfl (mv_ rfl (nn_ (gw_block ?_))))
 refine gw_loop (γ := Nat) (fun (k2 : Nat) => k2 ≤ n ∧ l.any (upB l) = (l.drop k2).any (upB l)) (fun (k2 : Nat) => [(0, .slice A n c), (42, .slice A n c), (43, .int .i64 ((n : Nat) : Int)), (44, .int .i64 ((k2 : Nat) : Int))]) (fun (k2 : Nat) => fun _ => True) (fun (k2 : Nat) => []) (fun (k2 : Nat) => []) (fun (k2 : Nat) => [SlOld csEnc 2 158 w.heap.size none A n l]) (fun (k2 : Nat) => n - k2) 0 ⟨Nat.zero_le _, rfl⟩ ⟨rfl, rfl, rfl, rfl, trivial⟩ (fun _ hm => hm.pick [] [] [0] rfl rfl) ?_
 intro k2 hinv
 replace hinv : k2 ≤ n ∧ l.any (upB l) = (l.drop k2).any (upB l) := hinv
 refine sr_ (wl_ov (ov_lss rfl rfl) rfl (nn_ (gw_seq ?_)))
 refine gw_cond rfl (fun hh => ?_) (fun hh => ?_)
 ·have hk : ((k2 : Nat) : Int) < ((n : Nat) : Int) := by simpa using hh
  clear hh
  refine gw_skip (nx_then (gw_seq (gw_block (sr_ ?_))))
  obtain ⟨b, off, hA, _, _⟩ := hl.get (by omega)
  subst hA
  obtain ⟨x, hx⟩ : ∃ x, l[k2]? = some x := ⟨_, List.getElem?_eq_getElem (by omega)⟩
  obtain ⟨ke, up⟩ := x
  have hat := any_at (p := upB l) hx
  have hk2 : up.size ≤ 1000000 := (hok _ (List.mem_of_getElem? hx)).2
  refine wl_ov (ov_index (j := k2) es58 rfl rfl (by omega)) rfl ?_
  refine wl_ov (ov_elem (vs := [.string ke, .string up]) rz158 rfl (fun _ hm => (hm.fact 0 rfl).1) hx rfl rfl) rfl ?_
  refine wl_alloc zc158 rfl fun g2 => ?_
  refine wl_stores (cs' := [.string ke, .string up]) 0 rz158 rfl rfl rfl rfl rfl rfl rfl rfl ?_
  refine nn_ (sr_ (fd_ fo158_1 rfl rfl (lk_ sc9 0 rfl rfl rfl (wl_ov (ov_sneq rfl rfl) rfl (mv_ rfl ?_)))))
  rcases Bool.eq_false_or_eq_true (!(up.toList == (⟨#[]⟩ : ByteArray).toList)) with h31 | h31
  ·refine wl_set 51 rfl (congrArg Value.bool h31) ?_
   have h31 : emptyS up = false := by unfold emptyS; simpa only [Bool.not_eq_true'] using h31
   refine wl_guard_on rfl rfl rfl (mv_ rfl (wl_guard_on rfl rfl rfl (fd_ fo158_1 rfl rfl (wl_guard_on rfl rfl rfl (lk_ sc9 0 rfl rfl rfl (wl_guard_on rfl rfl rfl ?_))))))
   refine wl_callv rfl cb153 rfl rfl (fun wx hm => (rClassAt_any l _ n c up wx (hm.fact 0 rfl).1 (by omega))) ?_
   refine wl_guard_on rfl rfl rfl (wl_ov (ov_lss rfl rfl) rfl (pt_ rfl rfl (nn_ ?_)))
   refine gw_cond rfl (fun hh => ?_) (fun hh => ?_)
   ·have h32 : ixP (csP up) l 0 < 0 := by simpa using hh
    clear hh
    refine sr_ (sg_ rfl (nn_ ?_))
    refine gw_ret ?_
    refine nx_blk_ret (nx_then_ret (nx_then_ret (nx_blk_ret (nx_then_ret ?_))))
    have hE : upB l ⟨ke, up⟩ = true := by unfold upB; simp [h31, h32]
    refine nx_ret1 rfl rfl fun wx hm => ?_
    exact ⟨ret_int (by rw [cls_up h30 hsc (by rw [hinv.2, hat, hE]; rfl)]), hm.g⟩
   have h32 : ¬ (ixP (csP up) l 0 < 0) := by simpa using hh
   clear hh
   refine gw_skip (nx_blk_nrm (nx_then (gw_region ?_)))
   have hE : upB l ⟨ke, up⟩ = false := by unfold upB; simp [h31]; omega
   refine ad_ rfl rfl (mv_ rfl (wl_nil ?_))
   exact nx_round (k2 + 1) ⟨by omega, by rw [hinv.2, hat, hE]; rfl⟩ (by omega) ⟨rfl, rfl, rfl, (some_int (by omega)), trivial⟩ (fun _ hm => hm.pick [] [] [0] rfl rfl)
  refine wl_set 51 rfl (congrArg Value.bool h31) ?_
  have h31 : emptyS up = true := by unfold emptyS; simpa only [Bool.not_eq_false'] using h31
  have hE : upB l ⟨ke, up⟩ = false := by unfold upB; simp [h31]
  refine goff rfl rfl rfl (goff rfl rfl rfl (goff rfl rfl rfl (goff rfl rfl rfl (goff rfl rfl rfl (pf_ rfl rfl (nn_ (cf_ rfl (gw_skip (nx_blk_nrm (nx_then (gw_region (ad_ rfl rfl ?_))))))))))))
  refine mv_ rfl (wl_nil ?_)
  exact nx_round (k2 + 1) ⟨by omega, by rw [hinv.2, hat, hE]; rfl⟩ (by omega) ⟨rfl, rfl, rfl, (some_int (by omega)), trivial⟩ (fun _ hm => hm.pick [] [] [0] rfl rfl)
 have hk : ¬ (((k2 : Nat) : Int) < ((n : Nat) : Int)) := by simpa using hh
 clear hh
 refine gw_exit ?_
 refine nx_then_exit (nx_then_exit ?_)
 refine nx_blk_here ?_
 refine nx_then (gw_seq (sr_ ?_))
 have hup : l.any (upB l) = false := by rw [hinv.2, any_end (by omega)]
 clear hinv hk
 have hcl := closed_of hup
 have hlo := cls_loop h30 hsc hup
 rw [← loop_same hcl] at hlo
 refine mv_ rfl (wl_ov (ov_len es58 rfl) rfl (mv_ rfl (nn_ (gw_block ?_))))
 refine gw_loop (γ := Nat) (fun (k3 : Nat) => k3 ≤ n ∧ l.any (fun x => inK x.key (pathN l (n + 1) x.key)) = (l.drop k3).any (fun x => inK x.key (pathN l (n + 1) x.key))) (fun (k3 : Nat) => [(0, .slice A n c), (59, .slice A n c), (60, .int .i64 ((n : Nat) : Int)), (61, .int .i64 ((k3 : Nat) : Int))]) (fun (k3 : Nat) => fun _ => True) (fun (k3 : Nat) => []) (fun (k3 : Nat) => []) (fun (k3 : Nat) => [SlOld csEnc 2 158 w.heap.size none A n l]) (fun (k3 : Nat) => n - k3) 0 ⟨Nat.zero_le _, rfl⟩ ⟨rfl, rfl, rfl, rfl, trivial⟩ (fun _ hm => hm.pick [] [] [0] rfl rfl) ?_
 intro k3 hinv
 replace hinv : k3 ≤ n ∧ l.any (fun x => inK x.key (pathN l (n + 1) x.key)) = (l.drop k3).any (fun x => inK x.key (pathN l (n + 1) x.key)) := hinv
 refine sr_ ?_
 have hlo2 : classesE l = if l.any (fun x => inK x.key (pathN l (n + 1) x.key)) = true then 14 else 0 := by rw [hlo]; unfold loopB; rw [hlen]
 refine wl_ov (ov_lss rfl rfl) rfl (nn_ (gw_seq ?_))
 refine gw_cond rfl (fun hh => ?_) (fun hh => ?_)
 ·have hk : ((k3 : Nat) : Int) < ((n : Nat) : Int) := by simpa using hh
  clear hh
  refine gw_skip (nx_then (gw_seq (gw_block (sr_ ?_))))
  obtain ⟨b, off, hA, _, _⟩ := hl.get (by omega)
  subst hA
  obtain ⟨x, hx⟩ : ∃ x, l[k3]? = some x := ⟨_, List.getElem?_eq_getElem (by omega)⟩
  obtain ⟨ke, up⟩ := x
  have hat := any_at (p := (fun x => inK x.key (pathN l (n + 1) x.key))) hx
  have hk2 : ke.size ≤ 1000000 := (hok _ (List.mem_of_getElem? hx)).1
  have hix : 0 ≤ ixP (csP ke) l 0 := by
   rcases ixP_spec (p := csP ke) l 0 with ⟨_, h⟩ | ⟨j, x, h, _⟩
   ·have := h _ (List.mem_of_getElem? hx)
    simp [csP] at this
   omega
  refine wl_ov (ov_index (j := k3) es58 rfl rfl (by omega)) rfl ?_
  refine wl_ov (ov_elem (vs := [.string ke, .string up]) rz158 rfl (fun _ hm => (hm.fact 0 rfl).1) hx rfl rfl) rfl ?_
  refine wl_alloc zc158 rfl fun g3 => ?_
  refine wl_stores (cs' := [.string ke, .string up]) 0 rz158 rfl rfl rfl rfl rfl rfl rfl rfl ?_
  refine nn_ (gw_seq ?_)
  refine gd (fun wz => Blk wz g3 158 [.string ke, .string up] ∧ (SlOld csEnc 2 158 w.heap.size none (some ⟨b, off, none⟩) n l) wz ∧ True) mixed (fun _ hm => ⟨hm.bl 0, hm.fa 0, trivial⟩) fun z => ?_
  refine wt 0 7 1 rfl z (ov_move rfl) ?_
  refine wt 1 7 3 rfl z (ov_field fo158_0 rfl rfl) ?_
  refine wt 2 7 7 rfl z (ov_load sc9 rfl (fun _ hm => hm.1) rfl) ?_
  refine wt 4 7 23 rfl z (ov_field fo158_0 rfl rfl) ?_
  refine wt 5 7 55 rfl z (ov_load sc9 rfl (fun _ hm => hm.1) rfl) ?_
  refine wa1 3 rfl ?_
  refine wl_callgo (γ := Option Addr × Nat × Nat) (val := (fun g => .slice g.1 g.2.1 g.2.2)) (φ := (fun g => (pathN l (n + 1) ke).length = g.2.1)) (fun g => ⟨.slice g.1 g.2.1 g.2.2, 9, 1, g.2.1, (pathN l (n + 1) ke).flatMap sgEnc⟩) rfl cb222 rfl rfl (fun wx hm => (ups_any l _ n c ke wx (hm.fact 0 rfl).1 hok (by omega)).mono fun _ _ ⟨A2, n2, c2, he, ho, hl2, hg⟩ => ⟨(A2, n2, c2), he, hl2, ho, hg⟩) ?_
  rintro ⟨A2, n2, c2⟩ hpl
  dsimp only at hpl ⊢
  have hpb := pathN_len l (n + 1) ke
  refine wl_nil ?_
  refine nw 7 63 (fun _ hm => ⟨hm.bl 0, hm.fa 0, trivial⟩) fun z => ?_
  refine wa1 6 rfl ?_
  refine wl_callv rfl cb180 rfl rfl (fun wx hm => (contains_str (pathN l (n + 1) ke) A2 n2 c2 ke wx (SlT.ofOwn sg_len (hm.ownI 0 rfl) hpl) (by omega))) ?_
  refine wl_nil ?_
  refine nw 7 127 (fun _ hm => ⟨hm.bl 0, hm.fa 0, trivial⟩) fun z => ?_
  refine wa_done (by kernel_rfl) ?_
  refine nx_then ?_
  refine gw_cond rfl (fun hh => ?_) (fun hh => ?_)
  ·have h33 : (inK ke (pathN l (n + 1) ke)) = true := by simpa using hh
   clear hh
   refine sr_ (sg_ rfl (nn_ ?_))
   refine gw_ret ?_
   refine nx_blk_ret (nx_then_ret (nx_then_ret (nx_blk_ret (nx_then_ret ?_))))
   refine nx_ret1 rfl rfl fun wx hm => ?_
   exact ⟨ret_int (by rw [hlo2, if_pos (by rw [hinv.2, hat, h33]; rfl)]), hm.g⟩
  have h33 : (inK ke (pathN l (n + 1) ke)) = false := by simpa using hh
  clear hh
  refine gw_skip (nx_blk_nrm (nx_then (gw_region (ad_ rfl rfl (mv_ rfl (wl_nil ?_))))))
  exact nx_round (k3 + 1) ⟨by omega, by rw [hinv.2, hat, h33]; rfl⟩ (by omega) ⟨rfl, rfl, rfl, (some_int (by omega)), trivial⟩ (fun _ hm => hm.pick [] [] [0] rfl rfl)
 have hk : ¬ (((k3 : Nat) : Int) < ((n : Nat) : Int)) := by simpa using hh
 clear hh
 refine gw_exit ?_
 refine nx_then_exit (nx_then_exit ?_)
 refine nx_blk_here ?_
 refine nx_then (sr_ (sg_ rfl (nn_ ?_)))
 refine gw_ret ?_
 refine nx_ret1 rfl rfl fun wx hm => ?_
 exact ⟨ret_int (by rw [hlo2, if_neg (by rw [hinv.2, any_end (by omega)]; decide)]), hm.g⟩
theorem checkKeys_any (l : List Cs) (ks : List ByteArray) (A A1 : Option Addr) (n c n1 c1 : Nat) (w : World) (hl : SlT csEnc 2 158 w A n l) (hs : SlT sgEnc 1 9 w A1 n1 ks) (hok : ∀ x ∈ l, CsOk x) (hn : n ≤ 1000000) (hn1 : n1 ≤ 1000) :
  Calls Tryz.prog 238 #[.slice A n c, .slice A1 n1 c1] w (GotE w (keysE l ks)) := by
 refine gw_enter ⟨24, w, none, []⟩ Tryz.func238 rfl Tryz.ntmps238 rfl (mem0 (X := [SlOld csEnc 2 158 w.heap.size none A n l, SlOld sgEnc 1 9 w.heap.size none A1 n1 ks]) (allF_cons hl.old (allF_cons hs.old allF_nil)) (allL_cons SlOld.lasts (allL_cons SlOld.lasts allL_nil))) ?_
 refine sr_ ?_
 have hlen := hl.len
 have hlen1 := hs.len
 obtain ⟨CE, hCE⟩ : ∃ E, E = classesE l := ⟨_, rfl⟩
 refine sg_ rfl (nn_ (gw_seq (sr_ (mv_ rfl ?_))))
 refine wl_callv (v := .int .i64 CE) rfl cb208 rfl rfl (fun wx hm => (by rw [hCE]; exact checkClasses_any l A n c wx (hm.fact 0 rfl).1 hok hn)) ?_
 refine sg_ rfl (nn_ (sr_ (mv_ rfl (wl_ov (ov_neq rfl rfl) rfl (nn_ ?_)))))
 refine gw_cond rfl (fun hh => ?_) (fun hh => ?_)
 ·have h1 : ¬ (CE = 0) := by simpa using hh
  clear hh
  refine sr_ (mv_ rfl (sg_ rfl (nn_ ?_)))
  refine gw_ret ?_
  refine nx_then_ret ?_
  refine nx_ret1 rfl rfl fun wx hm => ?_
  exact ⟨ret_int (by unfold keysE; rw [← hCE, if_pos (by simpa using h1)]), hm.g⟩
 have h1 : CE = 0 := by simpa using hh
 clear hh
 refine gw_skip (nx_then (gw_seq (sr_ ?_)))
 have hke : keysE l ks = if ks.any (fun k => decide (ixP (csP k) l 0 < 0)) = true then 8 else 0 := by unfold keysE; rw [← hCE, if_neg (by simpa using h1)]
 refine mv_ rfl (wl_ov (ov_len es103 rfl) rfl (mv_ rfl (nn_ (gw_block ?_))))
 refine gw_loop (γ := Nat) (fun (i : Nat) => i ≤ n1 ∧ ks.any (fun k => decide (ixP (csP k) l 0 < 0)) = (ks.drop i).any (fun k => decide (ixP (csP k) l 0 < 0))) (fun (i : Nat) => [(0, .slice A n c), (13, .slice A1 n1 c1), (14, .int .i64 ((n1 : Nat) : Int)), (15, .int .i64 ((i : Nat) : Int))]) (fun (i : Nat) => fun _ => True) (fun (i : Nat) => []) (fun (i : Nat) => []) (fun (i : Nat) => [SlOld csEnc 2 158 w.heap.size none A n l, SlOld sgEnc 1 9 w.heap.size none A1 n1 ks]) (fun (i : Nat) => n1 - i) 0 ⟨Nat.zero_le _, rfl⟩ ⟨rfl, rfl, rfl, rfl, trivial⟩ (fun _ hm => hm.pick [] [] [0, 1] rfl rfl) ?_
 intro i hinv
 replace hinv : i ≤ n1 ∧ ks.any (fun k => decide (ixP (csP k) l 0 < 0)) = (ks.drop i).any (fun k => decide (ixP (csP k) l 0 < 0)) := hinv
 refine sr_ (wl_ov (ov_lss rfl rfl) rfl (nn_ (gw_seq ?_)))
 refine gw_cond rfl (fun hh => ?_) (fun hh => ?_)
 ·have hi : ((i : Nat) : Int) < ((n1 : Nat) : Int) := by simpa using hh
  clear hh
  refine gw_skip (nx_then (gw_seq (gw_block (sr_ ?_))))
  obtain ⟨b, off, hA, _, _⟩ := hs.get (by omega)
  subst hA
  obtain ⟨z0, hx⟩ : ∃ x, ks[i]? = some x := ⟨_, List.getElem?_eq_getElem (by omega)⟩
  have hat := any_at (p := (fun k => decide (ixP (csP k) l 0 < 0))) hx
  refine wl_ov (ov_index (j := i) es103 rfl rfl (by omega)) rfl ?_
  refine wl_ov (ov_elem1 (k := 0) (v := .string z0) sc9 rfl (fun _ hm => (hm.fact 1 rfl).1) hx rfl rfl) rfl ?_
  refine sg_ rfl (nn_ (sr_ (mv_ rfl (mv_ rfl ?_))))
  refine wl_callv rfl cb209 rfl rfl (fun wx hm => (classAt_any l A n c z0 wx (hm.fact 0 rfl).1 hn)) ?_
  refine wl_ov (ov_lss rfl rfl) rfl (nn_ ?_)
  refine gw_cond rfl (fun hh => ?_) (fun hh => ?_)
  ·have hq : ixP (csP z0) l 0 < 0 := by simpa using hh
   clear hh
   refine sr_ (sg_ rfl (nn_ ?_))
   refine gw_ret ?_
   refine nx_blk_ret (nx_then_ret (nx_then_ret (nx_blk_ret (nx_then_ret ?_))))
   refine nx_ret1 rfl rfl fun wx hm => ?_
   exact ⟨ret_int (by rw [hke, if_pos (by rw [hinv.2, hat, decide_eq_true hq]; rfl)]), hm.g⟩
  have hq : ¬ (ixP (csP z0) l 0 < 0) := by simpa using hh
  clear hh
  refine gw_skip (nx_blk_nrm (nx_then (gw_region (ad_ rfl rfl (mv_ rfl (wl_nil ?_))))))
  exact nx_round (i + 1) ⟨by omega, by rw [hinv.2, hat, decide_eq_false hq]; rfl⟩ (by omega) ⟨rfl, rfl, rfl, (some_int (by omega)), trivial⟩ (fun _ hm => hm.pick [] [] [0, 1] rfl rfl)
 have hi : ¬ (((i : Nat) : Int) < ((n1 : Nat) : Int)) := by simpa using hh
 clear hh
 refine gw_exit ?_
 refine nx_then_exit (nx_then_exit ?_)
 refine nx_blk_here ?_
 refine nx_then (sr_ (sg_ rfl (nn_ ?_)))
 refine gw_ret ?_
 refine nx_ret1 rfl rfl fun wx hm => ?_
 exact ⟨ret_int (by rw [hke, if_neg (by rw [hinv.2, any_end (by omega)]; decide)]), hm.g⟩
theorem keys_ok {l : List Cs} {ks : List ByteArray} (h : keysE l ks = 0) : classesE l = 0 ∧ ∀ k ∈ ks, 0 ≤ ixP (csP k) l 0 := by
  unfold keysE at h
  split at h
  · rename_i h1; exact absurd h h1
  · rename_i h1
    refine ⟨by simpa using h1, fun k hk => ?_⟩
    split at h
    · cases h
    · rename_i h2
      have h3 : ks.any (fun k => decide (ixP (csP k) l 0 < 0)) = false := by simpa using h2
      rw [List.any_eq_false] at h3
      have := h3 k hk
      simpa using this
end Go.Proofs.YtempjmpfdniecaaGreatDoor
namespace Go.Proofs.YtempjmpfdniecaaGreatDoor
open Go.RowKit
theorem isBelow_lt {n v : Int} (h : IsBelow n v) (hn : 1 ≤ n) : 0 ≤ v ∧ v < n := by unfold IsBelow at h; omega
set_option maxHeartbeats 400000 in
theorem range_any (lo hi : Int) (w : World) (B sb m : Nat) (hS : Strm 25 w B sb m) (hm : m ≤ 1000000000000) (h1 : -4611686018427387904 ≤ lo) (h2 : hi ≤ 4611686018427387902) (h3 : lo ≤ 4611686018427387902) (h4 : -4611686018427387904 ≤ hi) :
    Calls Tryz.prog 26 #[.pointer (some ⟨sb, 0, none⟩), .int .i64 lo, .int .i64 hi] w (GotInt 25 w B sb (m + 1) (fun v => lo ≤ v ∧ (v ≤ hi ∨ v = lo))) := by
  by_cases hlt : hi < lo
  · go_enter Tryz.func26, Tryz.ntmps26
    go_wp2_with fail
    go_ret
    exact ⟨lo, ⟨by omega, .inr rfl⟩, rfl, hS.more (by omega), World.grownBy.refl _ _⟩
  · go_enter Tryz.func26, Tryz.ntmps26
    go_wp2_with fail
    refine (next_any _ _ B sb m hS hm (by omega) (by omega)).mono ?_
    rintro e w1 ⟨v, hv, rfl, hS1, hg1⟩
    have hv := isBelow_lt hv (by omega)
    go_wp2_with fail
    go_ret
    exact ⟨lo + v, ⟨by omega, .inl (by omega)⟩, rfl, hS1, hg1⟩
set_option maxHeartbeats 400000 in
theorem flip_any (n : Int) (w : World) (B sb m : Nat) (hS : Strm 25 w B sb m) (hm : m ≤ 1000000000000) (hn1 : -9223372036854775808 ≤ n) (hn2 : n ≤ 9223372036854775807) :
    Calls Tryz.prog 64 #[.pointer (some ⟨sb, 0, none⟩), .int .i64 n] w (GotBool 25 w B sb (m + 1)) := by
  go_enter Tryz.func64, Tryz.ntmps64
  go_wp2_with fail
  refine (next_any _ _ B sb m hS hm hn1 hn2).mono ?_
  rintro e w1 ⟨v, hv, rfl, hS1, hg1⟩
  go_wp2_with fail
  go_ret
  exact ⟨_, rfl, hS1, hg1⟩
set_option maxHeartbeats 400000 in
theorem pick_any (xs : List Int) (g c : Nat) (T : TypeId) (w : World) (B sb m : Nat) (hS : Strm 25 w B sb m) (hm : m ≤ 1000000000000) (hx : 0 < xs.length) (hx2 : xs.length ≤ 1000000) (hg : Blk w g T (xs.map (Value.int .i64))) (hne : g ≠ sb) :
    Calls Tryz.prog 11 #[.pointer (some ⟨sb, 0, none⟩), .slice (some ⟨g, 0, none⟩) xs.length c] w (GotInt 25 w B sb (m + 1) (fun v => v ∈ xs)) := by
  obtain ⟨n, hn⟩ : ∃ n, n = xs.length := ⟨_, rfl⟩
  rw [← hn] at hx hx2 ⊢
  have Hn := Lib.hid hn; clear hn
  go_enter Tryz.func11, Tryz.ntmps11
  go_wp2_with fail
  refine (next_any _ _ B sb m hS hm (by omega) (by omega)).mono ?_
  rintro e w1 ⟨v, hv, rfl, hS1, hg1⟩
  have hv := isBelow_lt hv (by omega)
  obtain ⟨i, rfl⟩ := Int.eq_ofNat_of_zero_le hv.1
  have hi : i < n := by omega
  have hgb := hg.grown hg1 (by simpa using hne)
  obtain ⟨x, hx⟩ : ∃ x, xs[i]? = some x := ⟨_, List.getElem?_eq_getElem (by have := Hn.out; omega)⟩
  have hc : w1.cell? ⟨g, i, none⟩ = some (.int .i64 x) := hgb.cell_of (by simp [hx])
  have hmem : x ∈ xs := List.mem_of_getElem? hx
  clear hx hgb
  go_wp2_with fail
  go_ret
  exact ⟨x, hmem, rfl, hS1, hg1⟩
set_option maxHeartbeats 400000 in
theorem some_any (xs : List ByteArray) (g c : Nat) (T : TypeId) (w : World) (B sb m : Nat) (hS : Strm 25 w B sb m) (hm : m ≤ 1000000000000) (hx : 0 < xs.length) (hx2 : xs.length ≤ 1000000) (hg : Blk w g T (xs.map Value.string)) (hne : g ≠ sb) :
    Calls Tryz.prog 49 #[.pointer (some ⟨sb, 0, none⟩), .slice (some ⟨g, 0, none⟩) xs.length c] w (GotStr 25 w B sb (m + 1) (fun v => v ∈ xs)) := by
  obtain ⟨n, hn⟩ : ∃ n, n = xs.length := ⟨_, rfl⟩
  rw [← hn] at hx hx2 ⊢
  have Hn := Lib.hid hn; clear hn
  go_enter Tryz.func49, Tryz.ntmps49
  go_wp2_with fail
  refine (next_any _ _ B sb m hS hm (by omega) (by omega)).mono ?_
  rintro e w1 ⟨v, hv, rfl, hS1, hg1⟩
  have hv := isBelow_lt hv (by omega)
  obtain ⟨i, rfl⟩ := Int.eq_ofNat_of_zero_le hv.1
  have hi : i < n := by omega
  have hgb := hg.grown hg1 (by simpa using hne)
  obtain ⟨x, hx⟩ : ∃ x, xs[i]? = some x := ⟨_, List.getElem?_eq_getElem (by have := Hn.out; omega)⟩
  have hc : w1.cell? ⟨g, i, none⟩ = some (.string x) := hgb.cell_of (by simp [hx])
  have hmem : x ∈ xs := List.mem_of_getElem? hx
  clear hx hgb
  go_wp2_with fail
  go_ret
  exact ⟨x, hmem, rfl, hS1, hg1⟩
set_option maxHeartbeats 400000 in
theorem odd_any (lo hi : Int) (w : World) (B sb m : Nat) (hS : Strm 25 w B sb m) (hm : m ≤ 900000000000) (h1 : -1000000000000000 ≤ lo) (h2 : hi ≤ 1000000000000000) (h3 : lo ≤ hi) :
    Calls Tryz.prog 88 #[.pointer (some ⟨sb, 0, none⟩), .int .i64 lo, .int .i64 hi] w (GotInt 25 w B sb (m + 2) (fun v => -2000000000000000 ≤ v ∧ v ≤ 2000000000000000)) := by
  go_enter Tryz.func88, Tryz.ntmps88
  go_wp2_with fail
  refine (flip_any _ _ B sb m hS (by omega) (by omega) (by omega)).mono ?_
  rintro e w1 ⟨b, rfl, hS1, hg1⟩
  rcases b with _ | _
  · go_wp2_with fail
    refine (range_any _ _ _ B sb (m + 1) hS1 (by omega) (by omega) (by omega) (by omega) (by omega)).mono ?_
    rintro e w2 ⟨v, hv, rfl, hS2, hg2⟩
    go_wp2_with fail
    go_ret
    exact ⟨v, by omega, rfl, hS2, grow_trans hg1 hg2⟩
  · go_wp2_with fail
    refine (pick_any [lo - 1, hi + 1, lo, hi, -1099511627776, 1099511627776] _ _ _ _ B sb (m + 1) (hS1.alloc _) (by omega) (by simp) (by simp) (Blk.new _ _ _) (by have := hS1.lt; omega)).mono ?_
    rintro e w2 ⟨v, hv, rfl, hS2, hg2⟩
    go_wp2_with fail
    go_ret
    refine ⟨v, by simp at hv; omega, rfl, hS2, grow_trans hg1 (grow_trans (grow_alloc (World.grownBy.refl _ _) _) hg2)⟩
end Go.Proofs.YtempjmpfdniecaaGreatDoor
namespace Go.Proofs.YtempjmpfdniecaaGreatDoor
open Go.RowKit
def kBig : ByteArray := ⟨#[98, 105, 103]⟩
def kMaxi : ByteArray := ⟨#[109, 97, 120, 105]⟩
def kMidi : ByteArray := ⟨#[109, 105, 100, 105]⟩
def kMini : ByteArray := ⟨#[109, 105, 110, 105]⟩
def kNo : ByteArray := ⟨#[]⟩
def clOf (u1 u2 u3 : ByteArray) : List Cs := [⟨kBig, kNo⟩, ⟨kMaxi, u1⟩, ⟨kMidi, u2⟩, ⟨kMini, u3⟩]
def ClG (l : List Cs) : Prop := ∃ u1 u2 u3, u1 ∈ [kNo, kBig] ∧ u2 ∈ [kNo, kBig, kMaxi] ∧ u3 ∈ [kNo, kBig, kMaxi, kMidi] ∧ l = clOf u1 u2 u3
theorem clG_start : ClG [⟨⟨#[98, 105, 103]⟩, ⟨#[]⟩⟩, ⟨⟨#[109, 97, 120, 105]⟩, ⟨#[]⟩⟩, ⟨⟨#[109, 105, 100, 105]⟩, ⟨#[]⟩⟩, ⟨⟨#[109, 105, 110, 105]⟩, ⟨#[]⟩⟩] :=
  ⟨kNo, kNo, kNo, List.mem_cons_self .., List.mem_cons_self .., List.mem_cons_self .., rfl⟩
theorem cl_all : ([kNo, kBig].all fun u1 => [kNo, kBig, kMaxi].all fun u2 => [kNo, kBig, kMaxi, kMidi].all fun u3 => decide (classesE (clOf u1 u2 u3) = 0)) = true := by decide +kernel
theorem clG_right {l : List Cs} (h : ClG l) : classesE l = 0 := by
  obtain ⟨u1, u2, u3, h1, h2, h3, rfl⟩ := h
  exact of_decide_eq_true (List.all_eq_true.1 (List.all_eq_true.1 (List.all_eq_true.1 cl_all u1 h1) u2 h2) u3 h3)
theorem clG_set {l : List Cs} {i j : Nat} {y0 y1 z0 z1 : ByteArray} (h : ClG l) (hj : j < i) (hi : i < 4) (hy : l[j]? = some ⟨y0, y1⟩) (hz : l[i]? = some ⟨z0, z1⟩) : ClG (l.set i ⟨z0, y0⟩) := by
  obtain ⟨u1, u2, u3, h1, h2, h3, rfl⟩ := h
  unfold clOf at hy hz ⊢
  have hc : i = 1 ∨ i = 2 ∨ i = 3 := by omega
  have hd : j = 0 ∨ j = 1 ∨ j = 2 := by omega
  rcases hc with rfl | rfl | rfl <;> rcases hd with rfl | rfl | rfl <;> try omega
  all_goals
    simp only [List.getElem?_cons_zero, List.getElem?_cons_succ, Option.some.injEq, Cs.mk.injEq] at hy hz
    obtain ⟨rfl, _⟩ := hy
    obtain ⟨rfl, _⟩ := hz
    first
      | exact ⟨_, u2, u3, List.mem_cons_of_mem _ (List.mem_cons_self ..), h2, h3, rfl⟩
      | exact ⟨u1, _, u3, h1, List.mem_cons_of_mem _ (List.mem_cons_self ..), h3, rfl⟩
      | exact ⟨u1, _, u3, h1, List.mem_cons_of_mem _ (List.mem_cons_of_mem _ (List.mem_cons_self ..)), h3, rfl⟩
      | exact ⟨u1, u2, _, h1, h2, List.mem_cons_of_mem _ (List.mem_cons_self ..), rfl⟩
      | exact ⟨u1, u2, _, h1, h2, List.mem_cons_of_mem _ (List.mem_cons_of_mem _ (List.mem_cons_self ..)), rfl⟩
      | exact ⟨u1, u2, _, h1, h2, List.mem_cons_of_mem _ (List.mem_cons_of_mem _ (List.mem_cons_of_mem _ (List.mem_cons_self ..))), rfl⟩
end Go.Proofs.YtempjmpfdniecaaGreatDoor
namespace Go.Proofs.YtempjmpfdniecaaGreatDoor
open Go.RowKit
theorem ixP_shift {α : Type} {p : α → Bool} : ∀ (l : List α) (k : Nat), ixP p l (k + 1) = if ixP p l k < 0 then -1 else ixP p l k + 1
  | [], k => rfl
  | x :: r, k => by
    unfold ixP
    by_cases h : p x = true
    · rw [if_pos h, if_pos h, if_neg (by omega)]; rfl
    · rw [if_neg h, if_neg h, ixP_shift r (k + 1)]
theorem stepsV_eq {l : List Cs} {a b : ByteArray} (hc : Closed l) (hl : loopB l l.length = false) : ixP (fun y => b.toList == y.toList) (a :: pathN l (l.length + 1) a) 0 = stepsV l a b := by
  rw [path_same hc hl]
  show (if (b.toList == a.toList) = true then ((0 : Nat) : Int) else ixP (fun y => b.toList == y.toList) (pathN l l.length a) 1) = _
  unfold stepsV
  by_cases h : a.toList = b.toList
  · rw [if_pos (by rw [h]; exact beq_self_eq_true _), if_pos h]; rfl
  · rw [if_neg (by simp; exact fun e => h e.symm), if_neg h, ixP_shift]
theorem keysE_one (l : List Cs) (a : ByteArray) : keysE l [a] = firstE [classesE l, whenE (decide (ixP (csP a) l 0 < 0)) 8] := by
  unfold keysE firstE
  by_cases h : classesE l = 0
  · rw [if_neg (by rw [h]; decide), if_pos h]
    cases h2 : decide (ixP (csP a) l 0 < 0) <;> simp [h2, whenE, firstE]
  · rw [if_pos h, if_neg h]
theorem stepsV_bound (l : List Cs) (a b : ByteArray) : -1 ≤ stepsV l a b ∧ stepsV l a b ≤ (l.length : Int) := by
  have h1 := ixP_bound (p := fun y => b.toList == y.toList) (pathN l l.length a)
  have h2 := pathN_len l l.length a
  unfold stepsV
  split
  · omega
  · split <;> omega
theorem cs_mem {l : List Cs} {x : Cs} {j : Nat} (h : ∀ y ∈ l, CsOk y) (hx : CsOk x) : ∀ y ∈ l.set j x, CsOk y := fun y hy => by
  rcases List.mem_or_eq_of_mem_set hy with hy | rfl
  · exact h y hy
  · exact hx
theorem equal_strs (l : List ByteArray) (A1 A2 : Option Addr) (n c1 c2 : Nat) (w : World) (h1 : SlT sgEnc 1 9 w A1 n l) (h2 : SlT sgEnc 1 9 w A2 n l) (hn : n ≤ 1000000) :
  Calls Tryz.prog 54 #[.slice A1 n c1, .slice A2 n c2] w (fun e w' => e = .returned (.bool true) ∧ w.grownBy w' none) := by
 refine gw_enter ⟨26, w, none, []⟩ Tryz.func54 rfl Tryz.ntmps54 rfl (mem0 (X := [SlOld sgEnc 1 9 w.heap.size none A1 n l, SlOld sgEnc 1 9 w.heap.size none A2 n l]) (allF_cons h1.old (allF_cons h2.old allF_nil)) (allL_cons SlOld.lasts (allL_cons SlOld.lasts allL_nil))) ?_
 refine sr_ ?_
 have hlen := h1.len
 refine sg_ rfl (nn_ (gw_seq (sr_ (mv_ rfl (wl_ov (ov_len es103 rfl) rfl (mv_ rfl (wl_ov (ov_len es103 rfl) rfl (wl_ov (ov_neq rfl rfl) rfl ?_))))))))
 refine wl_set 10 (v' := .bool false) rfl (congrArg Value.bool (by simp)) ?_
 refine nn_ (cf_ rfl (gw_skip (nx_then (gw_seq (sr_ (mv_ rfl (wl_ov (ov_len es103 rfl) rfl (mv_ rfl (nn_ (gw_block ?_))))))))))
 refine gw_loop (γ := Nat) (fun (k : Nat) => k ≤ n) (fun (k : Nat) => [(0, .slice A1 n c1), (1, .slice A2 n c2), (12, .int .i64 ((n : Nat) : Int)), (13, .int .i64 ((k : Nat) : Int))]) (fun (k : Nat) => fun _ => True) (fun (k : Nat) => []) (fun (k : Nat) => []) (fun (k : Nat) => [SlOld sgEnc 1 9 w.heap.size none A1 n l, SlOld sgEnc 1 9 w.heap.size none A2 n l]) (fun (k : Nat) => n - k) 0 (Nat.zero_le _) ⟨rfl, rfl, rfl, rfl, trivial⟩ (fun _ hm => hm.pick [] [] [0, 1] rfl rfl) ?_
 intro k hinv
 replace hinv : k ≤ n := hinv
 refine sr_ (wl_ov (ov_lss rfl rfl) rfl (nn_ (gw_seq ?_)))
 refine gw_cond rfl (fun hh => ?_) (fun hh => ?_)
 ·have hk : ((k : Nat) : Int) < ((n : Nat) : Int) := by simpa using hh
  clear hh
  refine gw_skip (nx_then (gw_seq (gw_block (sr_ ?_))))
  obtain ⟨b1, o1, hA, _, _⟩ := h1.get (by omega)
  subst hA
  obtain ⟨b2, o2, hA, _, _⟩ := h2.get (by omega)
  subst hA
  obtain ⟨x, hx⟩ : ∃ x, l[k]? = some x := ⟨_, List.getElem?_eq_getElem (by omega)⟩
  refine mv_ rfl (sg_ rfl (nn_ (gw_seq ?_)))
  refine gd (fun wz => (SlOld sgEnc 1 9 w.heap.size none (some ⟨b1, o1, none⟩) n l) wz ∧ (SlOld sgEnc 1 9 w.heap.size none (some ⟨b2, o2, none⟩) n l) wz ∧ True) mixed (fun _ hm => ⟨hm.fa 0, hm.fa 1, trivial⟩) fun z => ?_
  refine wt 0 9 1 rfl z (ov_move rfl) ?_
  refine wt 1 9 3 rfl z (ov_move rfl) ?_
  refine wt 2 9 7 rfl z (ov_index (j := k) es103 rfl rfl (by omega)) ?_
  refine wt 3 9 15 rfl z (ov_elem1 (k := 0) (v := .string x) sc9 rfl (fun _ hm => (hm.1).1) hx rfl rfl) ?_
  refine wt 4 9 31 rfl z (ov_move rfl) ?_
  refine wt 5 9 63 rfl z (ov_move rfl) ?_
  refine wt 6 9 127 rfl z (ov_index (j := k) es103 rfl rfl (by omega)) ?_
  refine wt 7 9 255 rfl z (ov_elem1 (k := 0) (v := .string x) sc9 rfl (fun _ hm => (hm.2.1).1) hx rfl rfl) ?_
  refine wt 8 9 511 rfl z (ov_sneq rfl rfl) ?_
  refine wa_set 24 (v' := .bool false) rfl (congrArg Value.bool (by simp)) ?_
  refine wa_done (by kernel_rfl) ?_
  refine nx_then (cf_ rfl (gw_skip (nx_blk_nrm (nx_then (gw_region (ad_ rfl rfl (mv_ rfl (wl_nil ?_))))))))
  exact nx_round (k + 1) (by omega) (by omega) ⟨rfl, rfl, rfl, (some_int (by omega)), trivial⟩ (fun _ hm => hm.pick [] [] [0, 1] rfl rfl)
 have hk : ¬ (((k : Nat) : Int) < ((n : Nat) : Int)) := by simpa using hh
 clear hh
 refine gw_exit ?_
 refine nx_then_exit (nx_then_exit ?_)
 refine nx_blk_here ?_
 refine nx_then (sr_ (sg_ rfl (nn_ ?_)))
 refine gw_ret ?_
 refine nx_ret1 rfl rfl fun wx hm => ?_
 exact ⟨rfl, hm.g⟩
theorem above_right (l : List Cs) (A : Option Addr) (n c : Nat) (k : ByteArray) (w : World) (hl : SlT csEnc 2 158 w A n l) (hok : ∀ x ∈ l, CsOk x) (hn : n ≤ 1000000) (hb : keysE l [k] = 0) :
  Calls Tryz.prog 157 #[.slice A n c, .string k] w (fun e w' => ∃ (A2 : Option Addr) (n2 c2 : Nat), e = .returned (.tuple #[.slice A2 n2 c2, .int .i64 0]) ∧ w'.ownsRow w.heap.size 9 1 (.slice A2 n2 c2) n2 ((pathN l n k).flatMap sgEnc) ∧ (pathN l n k).length = n2 ∧ w.grownBy w' none) := by
 refine gw_enter ⟨17, w, none, []⟩ Tryz.func157 rfl Tryz.ntmps157 rfl (mem0 (X := [SlOld csEnc 2 158 w.heap.size none A n l]) (allF_cons hl.old allF_nil) (allL_cons SlOld.lasts allL_nil)) ?_
 refine sr_ ?_
 have hlen := hl.len
 obtain ⟨hc0, hix⟩ := keys_ok hb
 have hix := hix k (List.mem_cons_self ..)
 obtain ⟨h30, hcl, hlo⟩ := classesE_ok hc0
 refine sg_ rfl (sg_ rfl (nn_ (gw_seq (sr_ (mv_ rfl (mv_ rfl ?_))))))
 refine wl_buildSlice (e := 9) (cs := [.string k]) rfl (by kernel_rfl) rfl fun g1 => ?_
 refine wl_callv (v := .int .i64 0) rfl cb238 rfl rfl (fun wx hm => (by have h := checkKeys_any l [k] A _ n c 1 1 wx (hm.fact 0 rfl).1 (SlT.ofBlk (l := [k]) sg_len (hm.blkI 0 rfl)) hok hn (by omega); rw [hb] at h; exact h)) ?_
 refine sg_ rfl (nn_ (sr_ (mv_ rfl (wl_ov (ov_neq rfl rfl) rfl ?_))))
 refine wl_set 12 (v' := .bool false) rfl (congrArg Value.bool (by decide)) ?_
 refine nn_ (cf_ rfl (gw_skip (nx_then (sr_ (mv_ rfl (mv_ rfl ?_))))))
 refine wl_callgo (γ := Option Addr × Nat × Nat) (val := (fun g => .slice g.1 g.2.1 g.2.2)) (φ := (fun g => (pathN l n k).length = g.2.1)) (fun g => ⟨.slice g.1 g.2.1 g.2.2, 9, 1, g.2.1, (pathN l n k).flatMap sgEnc⟩) rfl cb239 rfl rfl (fun wx hm => (above_any l _ n c k wx (hm.fact 0 rfl).1 hcl hix (by omega)).mono fun _ _ ⟨A2, n2, c2, he, ho, hl2, hg⟩ => ⟨(A2, n2, c2), he, hl2, ho, hg⟩) ?_
 rintro ⟨A2, n2, c2⟩ hpl
 dsimp only at hpl ⊢
 refine sg_ rfl (sg_ rfl (nn_ ?_))
 refine gw_ret ?_
 refine nx_ret2 rfl rfl rfl fun wx hm => ?_
 exact ⟨A2, n2, c2, rfl, hm.ownI 0 rfl, hpl, hm.g⟩
theorem stepsOf_any (l : List Cs) (A : Option Addr) (n c : Nat) (ka kb : ByteArray) (w : World) (hl : SlT csEnc 2 158 w A n l) (hok : ∀ x ∈ l, CsOk x) (hn : n ≤ 1000) (hcl : Closed l) (hlo : loopB l l.length = false) :
  Calls Tryz.prog 128 #[.slice A n c, .string ka, .string kb] w (fun e w' => e = .returned (.tuple #[.int .i64 (max (stepsV l ka kb) 0), .bool (decide (0 ≤ stepsV l ka kb))]) ∧ w.grownBy w' none) := by
 refine gw_enter ⟨21, w, none, []⟩ Tryz.func128 rfl Tryz.ntmps128 rfl (mem0 (X := [SlOld csEnc 2 158 w.heap.size none A n l]) (allF_cons hl.old allF_nil) (allL_cons SlOld.lasts allL_nil)) ?_
 refine sr_ ?_
 have hlen := hl.len
 refine sg_ rfl (sg_ rfl (nn_ (sr_ (mv_ rfl ?_))))
 refine wl_buildSlice (e := 9) (cs := [.string ka]) rfl (by kernel_rfl) rfl fun g1 => ?_
 refine mv_ rfl (mv_ rfl ?_)
 refine wl_toOwn (sz := 1) (n := 1) 0 [] rfl rfl rfl (by unfold maxLen; omega) ?_
 refine wl_callgo (γ := Option Addr × Nat × Nat) (val := (fun g => .slice g.1 g.2.1 g.2.2)) (φ := (fun g => (pathN l (n + 1) ka).length = g.2.1)) (fun g => ⟨.slice g.1 g.2.1 g.2.2, 9, 1, g.2.1, (pathN l (n + 1) ka).flatMap sgEnc⟩) rfl cb222 rfl rfl (fun wx hm => (ups_any l A n c ka wx (hm.fact 0 rfl).1 hok (by omega)).mono fun _ _ ⟨A2, n2, c2, he, ho, hl2, hg⟩ => ⟨(A2, n2, c2), he, hl2, ho, hg⟩) ?_
 rintro ⟨A2, n2, c2⟩ hpl
 dsimp only at hpl ⊢
 have hpb := pathN_len l (n + 1) ka
 refine wl_appendO 1 0 ap103 rfl rfl rfl rfl (flat_one sgEnc sg_one _) (by omega) (by unfold maxLen; omega) rfl rfl fun v2 hv => ?_
 refine wl_look (R := ∃ A cc, v2 = .slice A (1 + n2) cc) (fun wx hm => own_slice (hm.ownI 1 rfl)) ?_
 rintro ⟨A5, c5, rfl⟩
 have hst : ixP (fun y => kb.toList == y.toList) (ka :: pathN l (n + 1) ka) 0 = stepsV l ka kb := by rw [← stepsV_eq hcl hlo, hlen]
 have hsb := stepsV_bound l ka kb
 refine mv_ rfl ?_
 refine wl_callv (v := .int .i64 (stepsV l ka kb)) rfl cb119 rfl rfl (fun wx hm => (by rw [← hst]; exact index_str (ka :: pathN l (n + 1) ka) A5 _ c5 kb wx (SlT.ofOwn (l := ka :: pathN l (n + 1) ka) sg_len (hm.ownI 1 rfl) (by rw [List.length_cons, hpl]; omega)) (by omega))) ?_
 refine sg_ rfl (nn_ (sr_ (mv_ rfl ?_)))
 refine wl_ov (ov_max rfl rfl) rfl ?_
 refine mv_ rfl ?_
 refine wl_ov (ov_geq rfl rfl) rfl ?_
 refine sg_ rfl (sg_ rfl (nn_ ?_))
 refine gw_ret ?_
 refine nx_ret2 rfl rfl rfl fun wx hm => ?_
 exact ⟨by rw [Int.max_comm], hm.g⟩
theorem gclasses_anyF (w : World) (B sb m : Nat) (hS : Strm 25 w B sb m) (hm : m ≤ 100000000000) :
  Calls Tryz.prog 56 #[.pointer (some ⟨sb, 0, none⟩)] w (fun e w' => ∃ (A : Option Addr) (c : Nat) (l : List Cs), e = .returned (.slice A 4 c) ∧ w'.ownsRow w.heap.size 158 2 (.slice A 4 c) 4 (l.flatMap csEnc) ∧ (l.length = 4 ∧ classesE l = 0) ∧ (∀ x ∈ l, CsOk x) ∧ Strm 25 w' B sb (m + 20) ∧ w.grownBy w' (some sb)) := by
 refine gw_enter ⟨35, w, (some sb), []⟩ Tryz.func56 rfl Tryz.ntmps56 rfl (memS (X := []) hS allF_nil allL_nil) ?_
 refine sr_ (sg_ rfl (nn_ (sr_ ?_)))
 refine wl_ov (ov_build (cs := [.string ⟨#[98, 105, 103]⟩, .string ⟨#[]⟩]) rfl (by kernel_rfl)) rfl ?_
 refine wl_ov (ov_build (cs := [.string ⟨#[109, 97, 120, 105]⟩, .string ⟨#[]⟩]) rfl (by kernel_rfl)) rfl ?_
 refine wl_ov (ov_build (cs := [.string ⟨#[109, 105, 100, 105]⟩, .string ⟨#[]⟩]) rfl (by kernel_rfl)) rfl ?_
 refine wl_ov (ov_build (cs := [.string ⟨#[109, 105, 110, 105]⟩, .string ⟨#[]⟩]) rfl (by kernel_rfl)) rfl ?_
 refine wl_buildSlice (e := 158) (cs := [.string ⟨#[98, 105, 103]⟩, .string ⟨#[]⟩, .string ⟨#[109, 97, 120, 105]⟩, .string ⟨#[]⟩, .string ⟨#[109, 105, 100, 105]⟩, .string ⟨#[]⟩, .string ⟨#[109, 105, 110, 105]⟩, .string ⟨#[]⟩]) rfl (by kernel_rfl) rfl fun g1 => ?_
 refine sg_ rfl (nn_ (gw_seq (sr_ (mv_ rfl (wl_ov (ov_len es58 rfl) rfl ?_)))))
 refine wl_set 11 (v' := .int .i64 4) rfl rfl ?_
 refine mv_ rfl (nn_ (gw_block ?_))
 refine gw_toOwn (sz := 2) (n := 4) 0 [] rfl rfl rfl (by unfold maxLen; omega) ?_
 refine gw_loop (γ := Nat × List Cs) (fun g => g.1 ≤ 4 ∧ (g.2.length = 4 ∧ ClG g.2) ∧ (∀ x ∈ g.2, CsOk x)) (fun g => [(0, .pointer (some ⟨sb, 0, none⟩)), (2, .slice none 0 0), (3, .slice (some ⟨g1, 0, none⟩) 4 4), (11, .int .i64 4), (12, .int .i64 ((g.1 : Nat) : Int))]) (fun g => fun w => Strm 25 w B sb (m + 2 * g.1)) (fun g => []) (fun g => [⟨.slice (some ⟨g1, 0, none⟩) 4 4, 158, 2, 4, g.2.flatMap csEnc⟩]) (fun g => []) (fun g => 4 - g.1) (0, [⟨⟨#[98, 105, 103]⟩, ⟨#[]⟩⟩, ⟨⟨#[109, 97, 120, 105]⟩, ⟨#[]⟩⟩, ⟨⟨#[109, 105, 100, 105]⟩, ⟨#[]⟩⟩, ⟨⟨#[109, 105, 110, 105]⟩, ⟨#[]⟩⟩]) ⟨Nat.zero_le _, ⟨rfl, clG_start⟩, by simp [CsOk] <;> decide⟩ ⟨rfl, rfl, rfl, rfl, rfl, trivial⟩ (fun _ hm => (hm.more rfl (by first | omega | (dsimp only; omega))).pick [] [0] [] rfl rfl) ?_
 rintro ⟨i, l⟩ hinv
 replace hinv : i ≤ 4 ∧ (l.length = 4 ∧ ClG l) ∧ (∀ x ∈ l, CsOk x) := hinv
 dsimp only
 refine sr_ ?_
 obtain ⟨hi0, ⟨hl4, hcg⟩, hok⟩ := hinv
 refine wl_ov (ov_lss rfl rfl) rfl (nn_ (gw_seq ?_))
 refine gw_cond rfl (fun hh => ?_) (fun hh => ?_)
 ·have hi : ((i : Nat) : Int) < 4 := by simpa using hh
  clear hh
  refine gw_skip (nx_then (gw_seq (gw_block (sr_ (mv_ rfl (sg_ rfl (nn_ (sr_ (mv_ rfl ?_)))))))))
  refine wl_ov (ov_gtr rfl rfl) rfl ?_
  refine mv_ rfl ?_
  rcases Bool.eq_false_or_eq_true (decide (0 < ((i : Nat) : Int))) with h0 | h0
  ·refine wl_set 17 rfl (congrArg Value.bool h0) ?_
   have h0 := of_decide_eq_true h0
   refine wl_guard_on rfl rfl rfl (mv_ rfl (wl_guard_on rfl rfl rfl ?_))
   refine wl_got (γ := Bool) (val := fun v => .bool v) (φ := fun v => True) rfl cb64 rfl rfl rfl rfl (fun wx hm => ((flip_any _ wx B sb _ hm.k (by omega) (by omega) (by omega)).mono fun _ _ ⟨v, he, hS, hg⟩ => ⟨v, trivial, he, hS, hg⟩)) fun f2 _ => ?_
   refine wl_guard_on rfl rfl rfl (wl_ov (ov_un_not rfl) rfl (pt_ rfl rfl (nn_ ?_)))
   refine gw_cond rfl (fun hh => ?_) (fun hh => ?_)
   ·have hf : f2 = false := by simpa using hh
    clear hh
    refine gw_region (mv_ rfl (mv_ rfl (mv_ rfl (mv_ rfl (mv_ rfl ?_)))))
    refine wl_got (γ := Int) (val := fun v => .int .i64 v) (φ := fun v => IsBelow ((i : Nat) : Int) v) rfl cb66 rfl rfl rfl rfl (fun wx hm => (next_any _ wx B sb _ hm.k (by omega) (by omega) (by omega))) fun vj hvj => ?_
    have hj := isBelow_lt hvj (by omega)
    obtain ⟨j, rfl⟩ := Int.eq_ofNat_of_zero_le hj.1
    have hji : j < 4 := by omega
    obtain ⟨y, hy⟩ : ∃ y, l[j]? = some y := ⟨_, List.getElem?_eq_getElem (by omega)⟩
    obtain ⟨z, hz⟩ : ∃ z, l[i]? = some z := ⟨_, List.getElem?_eq_getElem (by omega)⟩
    obtain ⟨y0, y1⟩ := y
    obtain ⟨z0, z1⟩ := z
    obtain ⟨hy0, hy1⟩ := hok _ (List.mem_of_getElem? hy)
    obtain ⟨hz0, hz1⟩ := hok _ (List.mem_of_getElem? hz)
    refine wl_ov (ov_index (j := j) es58 rfl rfl (by omega)) rfl ?_
    refine fd_ fo158_0 rfl rfl ?_
    refine wl_ov (ov_elem1 (k := 0) (v := .string y0) sc9 rfl (fun _ hm => (SlT.ofOwn cs_len (hm.ownI 0 rfl) hl4)) hy rfl rfl) rfl ?_
    refine wl_ov (ov_index (j := i) es58 rfl rfl (by omega)) rfl ?_
    refine fd_ fo158_1 rfl rfl ?_
    refine wl_storeE (l := l) (j := i) (r := 1) (el := ⟨z0, z1⟩) (el' := ⟨z0, y0⟩) 0 sc9 rfl rfl rfl rfl cs_len rfl hz hl4 (show 1 < 2 by decide) rfl rfl ?_
    refine wl_nil (nx_blk_nrm (nx_then (gw_region (ad_ rfl rfl (mv_ rfl (wl_nil ?_))))))
    exact nx_round (i + 1, l.set i ⟨z0, y0⟩) ⟨by dsimp only; omega, ⟨by simp [hl4], clG_set hcg (show j < i by omega) (by omega) hy hz⟩, cs_mem hok ⟨hz0, hy0⟩⟩ (by dsimp only; omega) ⟨rfl, rfl, rfl, rfl, (some_int (by omega)), trivial⟩ (fun _ hm => (hm.more rfl (by first | omega | (dsimp only; omega))).pick [] [0] [] rfl rfl)
   have hf : f2 = true := by simpa using hh
   clear hh
   refine gw_skip (nx_blk_nrm (nx_then (gw_region (ad_ rfl rfl (mv_ rfl (wl_nil ?_))))))
   exact nx_round (i + 1, l) ⟨by dsimp only; omega, ⟨hl4, hcg⟩, hok⟩ (by dsimp only; omega) ⟨rfl, rfl, rfl, rfl, (some_int (by omega)), trivial⟩ (fun _ hm => (hm.more rfl (by first | omega | (dsimp only; omega))).pick [] [0] [] rfl rfl)
  refine wl_set 17 rfl (congrArg Value.bool h0) ?_
  refine goff rfl rfl rfl (goff rfl rfl rfl (goff rfl rfl rfl (pf_ rfl rfl (nn_ (cf_ rfl (gw_skip (nx_blk_nrm (nx_then (gw_region (ad_ rfl rfl (mv_ rfl (wl_nil ?_))))))))))))
  exact nx_round (i + 1, l) ⟨by dsimp only; omega, ⟨hl4, hcg⟩, hok⟩ (by dsimp only; omega) ⟨rfl, rfl, rfl, rfl, (some_int (by omega)), trivial⟩ (fun _ hm => (hm.more rfl (by first | omega | (dsimp only; omega))).pick [] [0] [] rfl rfl)
 have hi : ¬ (((i : Nat) : Int) < 4) := by simpa using hh
 clear hh
 refine gw_exit ?_
 refine nx_then_exit (nx_then_exit ?_)
 refine nx_blk_here ?_
 refine nx_then (sr_ (mv_ rfl (sg_ rfl (nn_ ?_))))
 refine gw_ret ?_
 refine nx_ret1 rfl rfl fun wx hm => ?_
 exact ⟨_, 4, l, rfl, hm.ownI 0 rfl, ⟨hl4, clG_right hcg⟩, hok, hm.k.more (by omega), hm.g⟩
theorem gclasses_any (w : World) (B sb m : Nat) (hS : Strm 25 w B sb m) (hm : m ≤ 100000000000) :
    Calls Tryz.prog 56 #[.pointer (some ⟨sb, 0, none⟩)] w (fun e w' => ∃ (A : Option Addr) (c : Nat) (l : List Cs), e = .returned (.slice A 4 c) ∧ w'.ownsRow w.heap.size 158 2 (.slice A 4 c) 4 (l.flatMap csEnc) ∧ l.length = 4 ∧ (∀ x ∈ l, CsOk x) ∧ Strm 25 w' B sb (m + 20) ∧ w.grownBy w' (some sb)) :=
  (gclasses_anyF w B sb m hS hm).mono fun _ _ ⟨A, c, l, he, ho, ⟨hl, _⟩, h⟩ => ⟨A, c, l, he, ho, hl, h⟩
theorem mem5 {x a b c d e : ByteArray} (h : x ∈ [a, b, c, d, e]) : x = a ∨ x = b ∨ x = c ∨ x = d ∨ x = e := by simpa using h
theorem ganyClasses_any (w : World) (B sb m : Nat) (hS : Strm 25 w B sb m) (hm : m ≤ 100000000000) :
  Calls Tryz.prog 123 #[.pointer (some ⟨sb, 0, none⟩)] w (fun e w' => ∃ (A : Option Addr) (c : Nat) (l : List Cs), e = .returned (.slice A 4 c) ∧ w'.ownsRow w.heap.size 158 2 (.slice A 4 c) 4 (l.flatMap csEnc) ∧ l.length = 4 ∧ (∀ x ∈ l, CsOk x) ∧ Strm 25 w' B sb (m + 40) ∧ w.grownBy w' (some sb)) := by
 refine gw_enter ⟨44, w, (some sb), []⟩ Tryz.func123 rfl Tryz.ntmps123 rfl (memS (X := []) hS allF_nil allL_nil) ?_
 refine sr_ (sg_ rfl (nn_ (sr_ (mv_ rfl ?_))))
 refine wl_callgs (γ := Option Addr × Nat × List Cs) (val := (fun g => .slice g.1 4 g.2.1)) (φ := (fun g => g.2.2.length = 4 ∧ (∀ x ∈ g.2.2, CsOk x))) (m' := m + 20) (fun g => ⟨.slice g.1 4 g.2.1, 158, 2, 4, g.2.2.flatMap csEnc⟩) rfl cb56 rfl rfl rfl rfl (fun wx hm => (gclasses_any wx B sb _ hm.k (by omega)).mono fun _ _ ⟨A, c, l, he, ho, hl, hok, hS, hg⟩ => ⟨(A, c, l), he, ⟨hl, hok⟩, hS, hg, ho⟩) ?_
 rintro ⟨A, c, l⟩ hphi
 dsimp only at hphi ⊢
 obtain ⟨hl4, hok⟩ := hphi
 refine sg_ rfl (nn_ (gw_seq (sr_ (mv_ rfl ?_))))
 refine wl_got (γ := Bool) (val := fun v => .bool v) (φ := fun v => True) rfl cb64 rfl rfl rfl rfl (fun wx hm => ((flip_any _ wx B sb _ hm.k (by omega) (by omega) (by omega)).mono fun _ _ ⟨v, he, hS, hg⟩ => ⟨v, trivial, he, hS, hg⟩)) fun f1 _ => ?_
 refine nn_ ?_
 refine gw_cond rfl (fun hh => ?_) (fun hh => ?_)
 ·have hf : f1 = true := by simpa using hh
  clear hh
  refine sr_ ?_
  refine wl_look (R := ∃ g, A = some ⟨g, 0, none⟩) (fun wx hm => own_addr (hm.ownI 0 rfl) (by omega)) ?_
  rintro ⟨bo, rfl⟩
  refine mv_ rfl (mv_ rfl (mv_ rfl (wl_ov (ov_len es58 rfl) rfl ?_)))
  refine wl_set 12 (v' := .int .i64 4) rfl rfl ?_
  refine wl_got (γ := Int) (val := fun v => .int .i64 v) (φ := fun v => IsBelow 4 v) rfl cb66 rfl rfl rfl rfl (fun wx hm => (next_any _ wx B sb _ hm.k (by omega) (by omega) (by omega))) fun vj hvj => ?_
  have hj := isBelow_lt hvj (by omega)
  obtain ⟨j, rfl⟩ := Int.eq_ofNat_of_zero_le hj.1
  have hji : j < 4 := by omega
  obtain ⟨y, hy⟩ : ∃ y, l[j]? = some y := ⟨_, List.getElem?_eq_getElem (by omega)⟩
  obtain ⟨y0, y1⟩ := y
  obtain ⟨hy0, hy1⟩ := hok _ (List.mem_of_getElem? hy)
  have hy0 : y0.size ≤ 1000000 := hy0
  have hy1 : y1.size ≤ 1000000 := hy1
  refine wl_ov (ov_index (j := j) es58 rfl rfl (by omega)) rfl ?_
  refine sg_ rfl (nn_ ?_)
  refine gd (fun wz => True) mixed (fun _ _ => trivial) fun z => ?_
  refine wt 0 30 1 rfl z (ov_move rfl) ?_
  refine wt 1 30 3 rfl z (ov_move rfl) ?_
  refine wt 2 30 7 rfl z (ov_move rfl) ?_
  refine wt 3 30 15 rfl z (ov_move rfl) ?_
  refine wt 4 30 31 rfl z (ov_nilcheck rfl) ?_
  refine wt 5 30 63 rfl z (ov_field fo158_0 rfl rfl) ?_
  refine wt 7 30 191 rfl z (ov_move rfl) ?_
  refine wt 8 30 447 rfl z (ov_nilcheck rfl) ?_
  refine wt 9 30 959 rfl z (ov_field fo158_0 rfl rfl) ?_
  refine wt 13 30 9151 rfl z (ov_move rfl) ?_
  refine wt 14 30 25535 rfl z (ov_move rfl) ?_
  refine wt 15 30 58303 rfl z (ov_nilcheck rfl) ?_
  refine wt 16 30 123839 rfl z (ov_field fo158_1 rfl rfl) ?_
  refine wt 18 30 385983 rfl z (ov_move rfl) ?_
  refine wt 19 30 910271 rfl z (ov_nilcheck rfl) ?_
  refine wt 20 30 1958847 rfl z (ov_field fo158_0 rfl rfl) ?_
  refine wa_open fun W hW => ?_
  have T2097151 : ∀ (q11 : Nat) (k12 : ByteArray) (hk12 : k12 ∈ ([y0, y0, ⟨#[]⟩, ⟨#[65]⟩, ⟨#[122, 101, 100]⟩] : List ByteArray)), W 9 (lb 30 2097151) [(2, .slice none 0 0), (3, .slice (some ⟨bo, 0, none⟩) 4 c), (15, .pointer (some ⟨bo, 0 + j * 2, none⟩)), (16, .pointer (some ⟨bo, 0 + j * 2, none⟩)), (27, .string k12), (28, .pointer (some ⟨sb, 0, none⟩)), (32, .string y1), (35, .pointer (some ⟨bo, 0 + j * 2 + 0, none⟩))] (fun w => Strm 25 w B sb (m + 20 + 1 + 1 + 1)) [(q11, 9, [.string y0, .string y0, .string ⟨#[]⟩, .string ⟨#[65]⟩, .string ⟨#[122, 101, 100]⟩])] [⟨.slice (some ⟨bo, 0, none⟩) 4 c, 158, 2, 4, l.flatMap csEnc⟩] [] := by
   intro q11 k12 hk12
   rw [hW]
   refine wa1 21 rfl ?_
   refine wl_ov (ov_elem1 (k := 0) (v := .string y0) sc9 rfl (fun _ hm => (SlT.ofOwn cs_len (hm.ownI 0 rfl) hl4)) hy rfl rfl) rfl ?_
   refine wl_nil ?_
   refine nw 30 4194303 (fun _ _ => trivial) fun z => ?_
   refine wa1 22 rfl ?_
   refine wl_buildSlice (e := 9) (cs := [.string y1, .string ⟨#[109, 105, 110, 105]⟩, .string ⟨#[110, 111, 110, 101]⟩, .string ⟨#[65]⟩, .string y0]) rfl (by kernel_rfl) rfl fun q22 => ?_
   refine wl_nil ?_
   refine nw 30 8388607 (fun _ _ => trivial) fun z => ?_
   refine wa1 23 rfl ?_
   refine wl_got (γ := ByteArray) (val := fun v => .string v) (φ := fun v => v ∈ ([y1, ⟨#[109, 105, 110, 105]⟩, ⟨#[110, 111, 110, 101]⟩, ⟨#[65]⟩, y0] : List ByteArray)) rfl cb49 rfl rfl rfl rfl (fun wx hm => (some_any [y1, ⟨#[109, 105, 110, 105]⟩, ⟨#[110, 111, 110, 101]⟩, ⟨#[65]⟩, y0] _ _ _ wx B sb _ hm.k (by omega) (by simp) (by simp) (hm.blkI 0 rfl) (hm.neRow 0 rfl rfl))) fun k23 hk23 => ?_
   refine wl_nil ?_
   refine nw 30 16777215 (fun _ _ => trivial) fun z => ?_
   refine wt 24 30 33554431 rfl z (ov_nilcheck rfl) ?_
   refine wt 25 30 67108863 rfl z (ov_field fo158_0 rfl rfl) ?_
   refine wa1 26 rfl ?_
   refine wl_storeE (l := l) (j := j) (r := 0) (el := ⟨y0, y1⟩) (el' := ⟨k12, y1⟩) 0 sc9 rfl rfl rfl rfl cs_len rfl hy hl4 (show 0 < 2 by decide) rfl rfl ?_
   refine wl_nil ?_
   refine nw 30 134217727 (fun _ _ => trivial) fun z => ?_
   refine wt 27 30 268435455 rfl z (ov_nilcheck rfl) ?_
   refine wt 28 30 536870911 rfl z (ov_field fo158_1 rfl rfl) ?_
   refine wa1 29 rfl ?_
   have hy2 : (l.set j ⟨k12, y1⟩)[j]? = some (⟨k12, y1⟩ : Cs) := by rw [List.getElem?_set_self (by omega)]
   have hl42 : (l.set j ⟨k12, y1⟩).length = 4 := by simp [hl4]
   refine wl_storeE (l := (l.set j ⟨k12, y1⟩)) (j := j) (r := 1) (el := ⟨k12, y1⟩) (el' := ⟨k12, k23⟩) 0 sc9 rfl rfl rfl rfl cs_len rfl hy2 hl42 (show 1 < 2 by decide) rfl rfl ?_
   refine wl_nil ?_
   refine nw 30 1073741823 (fun _ _ => trivial) fun z => ?_
   refine wa_done (by kernel_rfl) ?_
   refine nx_then (sr_ (mv_ rfl (sg_ rfl (nn_ ?_))))
   refine gw_ret ?_
   refine nx_ret1 rfl rfl fun wx hm => ?_
   exact ⟨some ⟨bo, 0, none⟩, c, _, rfl, hm.ownI 0 rfl, (by simp [hl4]), cs_mem (cs_mem hok ⟨(show k12.size ≤ 1000000 by rcases mem5 hk12 with h | h | h | h | h <;> rw [h] <;> first | assumption | decide), hy1⟩) ⟨(show k12.size ≤ 1000000 by rcases mem5 hk12 with h | h | h | h | h <;> rw [h] <;> first | assumption | decide), (show k23.size ≤ 1000000 by rcases mem5 hk23 with h | h | h | h | h <;> rw [h] <;> first | assumption | decide)⟩, hm.k.more (by omega), hm.g⟩
  have T4063231 : ∀ (q11 : Nat) (k12 : ByteArray) (hk12 : k12 ∈ ([y0, y0, ⟨#[]⟩, ⟨#[65]⟩, ⟨#[122, 101, 100]⟩] : List ByteArray)), W 9 (lb 30 4063231) [(2, .slice none 0 0), (3, .slice (some ⟨bo, 0, none⟩) 4 c), (15, .pointer (some ⟨bo, 0 + j * 2, none⟩)), (16, .pointer (some ⟨bo, 0 + j * 2, none⟩)), (27, .string k12), (28, .pointer (some ⟨sb, 0, none⟩)), (31, .pointer (some ⟨bo, 0 + j * 2 + 1, none⟩)), (36, .string y0)] (fun w => Strm 25 w B sb (m + 20 + 1 + 1 + 1)) [(q11, 9, [.string y0, .string y0, .string ⟨#[]⟩, .string ⟨#[65]⟩, .string ⟨#[122, 101, 100]⟩])] [⟨.slice (some ⟨bo, 0, none⟩) 4 c, 158, 2, 4, l.flatMap csEnc⟩] [] := by
   intro q11 k12 hk12
   rw [hW]
   refine wa1 17 rfl ?_
   refine wl_ov (ov_elem1 (k := 1) (v := .string y1) sc9 rfl (fun _ hm => (SlT.ofOwn cs_len (hm.ownI 0 rfl) hl4)) hy rfl rfl) rfl ?_
   refine wl_nil ?_
   refine nw 30 4194303 (fun _ _ => trivial) fun z => ?_
   refine wa1 22 rfl ?_
   refine wl_buildSlice (e := 9) (cs := [.string y1, .string ⟨#[109, 105, 110, 105]⟩, .string ⟨#[110, 111, 110, 101]⟩, .string ⟨#[65]⟩, .string y0]) rfl (by kernel_rfl) rfl fun q22 => ?_
   refine wl_nil ?_
   refine nw 30 8388607 (fun _ _ => trivial) fun z => ?_
   refine wa1 23 rfl ?_
   refine wl_got (γ := ByteArray) (val := fun v => .string v) (φ := fun v => v ∈ ([y1, ⟨#[109, 105, 110, 105]⟩, ⟨#[110, 111, 110, 101]⟩, ⟨#[65]⟩, y0] : List ByteArray)) rfl cb49 rfl rfl rfl rfl (fun wx hm => (some_any [y1, ⟨#[109, 105, 110, 105]⟩, ⟨#[110, 111, 110, 101]⟩, ⟨#[65]⟩, y0] _ _ _ wx B sb _ hm.k (by omega) (by simp) (by simp) (hm.blkI 0 rfl) (hm.neRow 0 rfl rfl))) fun k23 hk23 => ?_
   refine wl_nil ?_
   refine nw 30 16777215 (fun _ _ => trivial) fun z => ?_
   refine wt 24 30 33554431 rfl z (ov_nilcheck rfl) ?_
   refine wt 25 30 67108863 rfl z (ov_field fo158_0 rfl rfl) ?_
   refine wa1 26 rfl ?_
   refine wl_storeE (l := l) (j := j) (r := 0) (el := ⟨y0, y1⟩) (el' := ⟨k12, y1⟩) 0 sc9 rfl rfl rfl rfl cs_len rfl hy hl4 (show 0 < 2 by decide) rfl rfl ?_
   refine wl_nil ?_
   refine nw 30 134217727 (fun _ _ => trivial) fun z => ?_
   refine wt 27 30 268435455 rfl z (ov_nilcheck rfl) ?_
   refine wt 28 30 536870911 rfl z (ov_field fo158_1 rfl rfl) ?_
   refine wa1 29 rfl ?_
   have hy2 : (l.set j ⟨k12, y1⟩)[j]? = some (⟨k12, y1⟩ : Cs) := by rw [List.getElem?_set_self (by omega)]
   have hl42 : (l.set j ⟨k12, y1⟩).length = 4 := by simp [hl4]
   refine wl_storeE (l := (l.set j ⟨k12, y1⟩)) (j := j) (r := 1) (el := ⟨k12, y1⟩) (el' := ⟨k12, k23⟩) 0 sc9 rfl rfl rfl rfl cs_len rfl hy2 hl42 (show 1 < 2 by decide) rfl rfl ?_
   refine wl_nil ?_
   refine nw 30 1073741823 (fun _ _ => trivial) fun z => ?_
   refine wa_done (by kernel_rfl) ?_
   refine nx_then (sr_ (mv_ rfl (sg_ rfl (nn_ ?_))))
   refine gw_ret ?_
   refine nx_ret1 rfl rfl fun wx hm => ?_
   exact ⟨some ⟨bo, 0, none⟩, c, _, rfl, hm.ownI 0 rfl, (by simp [hl4]), cs_mem (cs_mem hok ⟨(show k12.size ≤ 1000000 by rcases mem5 hk12 with h | h | h | h | h <;> rw [h] <;> first | assumption | decide), hy1⟩) ⟨(show k12.size ≤ 1000000 by rcases mem5 hk12 with h | h | h | h | h <;> rw [h] <;> first | assumption | decide), (show k23.size ≤ 1000000 by rcases mem5 hk23 with h | h | h | h | h <;> rw [h] <;> first | assumption | decide)⟩, hm.k.more (by omega), hm.g⟩
  have J1966079 : ∀ (q11 : Nat) (k12 : ByteArray) (hk12 : k12 ∈ ([y0, y0, ⟨#[]⟩, ⟨#[65]⟩, ⟨#[122, 101, 100]⟩] : List ByteArray)), W 10 (lb 30 1966079) [(2, .slice none 0 0), (3, .slice (some ⟨bo, 0, none⟩) 4 c), (15, .pointer (some ⟨bo, 0 + j * 2, none⟩)), (16, .pointer (some ⟨bo, 0 + j * 2, none⟩)), (27, .string k12), (28, .pointer (some ⟨sb, 0, none⟩)), (31, .pointer (some ⟨bo, 0 + j * 2 + 1, none⟩)), (35, .pointer (some ⟨bo, 0 + j * 2 + 0, none⟩))] (fun w => Strm 25 w B sb (m + 20 + 1 + 1 + 1)) [(q11, 9, [.string y0, .string y0, .string ⟨#[]⟩, .string ⟨#[65]⟩, .string ⟨#[122, 101, 100]⟩])] [⟨.slice (some ⟨bo, 0, none⟩) 4 c, 158, 2, 4, l.flatMap csEnc⟩] [] := by
   intro q11 k12 hk12
   rw [hW]
   refine wa_all [17, 21] (by kernel_rfl) rfl ⟨⟨_, rfl, ?_⟩, ⟨_, rfl, ?_⟩, trivial⟩
   ·refine wl_ov (ov_elem1 (k := 1) (v := .string y1) sc9 rfl (fun _ hm => (SlT.ofOwn cs_len (hm.ownI 0 rfl) hl4)) hy rfl rfl) rfl ?_
    refine wl_nil ?_
    refine nw 30 2097151 (fun _ _ => trivial) fun z => ?_
    have h := T2097151 q11 k12 hk12
    rw [hW] at h
    refine wa_weak ?_ ?_ h
    ·exact ⟨rfl, rfl, rfl, rfl, rfl, rfl, rfl, rfl, trivial⟩
    exact fun _ hm => hm.pick [0] [0] [] rfl rfl
   refine wl_ov (ov_elem1 (k := 0) (v := .string y0) sc9 rfl (fun _ hm => (SlT.ofOwn cs_len (hm.ownI 0 rfl) hl4)) hy rfl rfl) rfl ?_
   refine wl_nil ?_
   refine nw 30 4063231 (fun _ _ => trivial) fun z => ?_
   have h := T4063231 q11 k12 hk12
   rw [hW] at h
   refine wa_weak ?_ ?_ h
   ·exact ⟨rfl, rfl, rfl, rfl, rfl, rfl, rfl, rfl, trivial⟩
   exact fun _ hm => hm.pick [0] [0] [] rfl rfl
  have T4194303 : ∀ (q11 : Nat) (k12 : ByteArray) (hk12 : k12 ∈ ([y0, y0, ⟨#[]⟩, ⟨#[65]⟩, ⟨#[122, 101, 100]⟩] : List ByteArray)), W 8 (lb 30 4194303) [(2, .slice none 0 0), (3, .slice (some ⟨bo, 0, none⟩) 4 c), (15, .pointer (some ⟨bo, 0 + j * 2, none⟩)), (16, .pointer (some ⟨bo, 0 + j * 2, none⟩)), (27, .string k12), (28, .pointer (some ⟨sb, 0, none⟩)), (32, .string y1), (36, .string y0)] (fun w => Strm 25 w B sb (m + 20 + 1 + 1 + 1)) [(q11, 9, [.string y0, .string y0, .string ⟨#[]⟩, .string ⟨#[65]⟩, .string ⟨#[122, 101, 100]⟩])] [⟨.slice (some ⟨bo, 0, none⟩) 4 c, 158, 2, 4, l.flatMap csEnc⟩] [] := by
   intro q11 k12 hk12
   rw [hW]
   refine wa1 22 rfl ?_
   refine wl_buildSlice (e := 9) (cs := [.string y1, .string ⟨#[109, 105, 110, 105]⟩, .string ⟨#[110, 111, 110, 101]⟩, .string ⟨#[65]⟩, .string y0]) rfl (by kernel_rfl) rfl fun q22 => ?_
   refine wl_nil ?_
   refine nw 30 8388607 (fun _ _ => trivial) fun z => ?_
   refine wa1 23 rfl ?_
   refine wl_got (γ := ByteArray) (val := fun v => .string v) (φ := fun v => v ∈ ([y1, ⟨#[109, 105, 110, 105]⟩, ⟨#[110, 111, 110, 101]⟩, ⟨#[65]⟩, y0] : List ByteArray)) rfl cb49 rfl rfl rfl rfl (fun wx hm => (some_any [y1, ⟨#[109, 105, 110, 105]⟩, ⟨#[110, 111, 110, 101]⟩, ⟨#[65]⟩, y0] _ _ _ wx B sb _ hm.k (by omega) (by simp) (by simp) (hm.blkI 0 rfl) (hm.neRow 0 rfl rfl))) fun k23 hk23 => ?_
   refine wl_nil ?_
   refine nw 30 16777215 (fun _ _ => trivial) fun z => ?_
   refine wt 24 30 33554431 rfl z (ov_nilcheck rfl) ?_
   refine wt 25 30 67108863 rfl z (ov_field fo158_0 rfl rfl) ?_
   refine wa1 26 rfl ?_
   refine wl_storeE (l := l) (j := j) (r := 0) (el := ⟨y0, y1⟩) (el' := ⟨k12, y1⟩) 0 sc9 rfl rfl rfl rfl cs_len rfl hy hl4 (show 0 < 2 by decide) rfl rfl ?_
   refine wl_nil ?_
   refine nw 30 134217727 (fun _ _ => trivial) fun z => ?_
   refine wt 27 30 268435455 rfl z (ov_nilcheck rfl) ?_
   refine wt 28 30 536870911 rfl z (ov_field fo158_1 rfl rfl) ?_
   refine wa1 29 rfl ?_
   have hy2 : (l.set j ⟨k12, y1⟩)[j]? = some (⟨k12, y1⟩ : Cs) := by rw [List.getElem?_set_self (by omega)]
   have hl42 : (l.set j ⟨k12, y1⟩).length = 4 := by simp [hl4]
   refine wl_storeE (l := (l.set j ⟨k12, y1⟩)) (j := j) (r := 1) (el := ⟨k12, y1⟩) (el' := ⟨k12, k23⟩) 0 sc9 rfl rfl rfl rfl cs_len rfl hy2 hl42 (show 1 < 2 by decide) rfl rfl ?_
   refine wl_nil ?_
   refine nw 30 1073741823 (fun _ _ => trivial) fun z => ?_
   refine wa_done (by kernel_rfl) ?_
   refine nx_then (sr_ (mv_ rfl (sg_ rfl (nn_ ?_))))
   refine gw_ret ?_
   refine nx_ret1 rfl rfl fun wx hm => ?_
   exact ⟨some ⟨bo, 0, none⟩, c, _, rfl, hm.ownI 0 rfl, (by simp [hl4]), cs_mem (cs_mem hok ⟨(show k12.size ≤ 1000000 by rcases mem5 hk12 with h | h | h | h | h <;> rw [h] <;> first | assumption | decide), hy1⟩) ⟨(show k12.size ≤ 1000000 by rcases mem5 hk12 with h | h | h | h | h <;> rw [h] <;> first | assumption | decide), (show k23.size ≤ 1000000 by rcases mem5 hk23 with h | h | h | h | h <;> rw [h] <;> first | assumption | decide)⟩, hm.k.more (by omega), hm.g⟩
  have T8384511 : ∀ (q11 : Nat) (q22 : Nat), W 8 (lb 30 8384511) [(2, .slice none 0 0), (3, .slice (some ⟨bo, 0, none⟩) 4 c), (15, .pointer (some ⟨bo, 0 + j * 2, none⟩)), (16, .pointer (some ⟨bo, 0 + j * 2, none⟩)), (17, .pointer (some ⟨sb, 0, none⟩)), (26, .slice (some ⟨q11, 0, none⟩) 5 5), (28, .pointer (some ⟨sb, 0, none⟩)), (37, .slice (some ⟨q22, 0, none⟩) 5 5)] (fun w => Strm 25 w B sb (m + 20 + 1 + 1)) [(q11, 9, [.string y0, .string y0, .string ⟨#[]⟩, .string ⟨#[65]⟩, .string ⟨#[122, 101, 100]⟩]), (q22, 9, [.string y1, .string ⟨#[109, 105, 110, 105]⟩, .string ⟨#[110, 111, 110, 101]⟩, .string ⟨#[65]⟩, .string y0])] [⟨.slice (some ⟨bo, 0, none⟩) 4 c, 158, 2, 4, l.flatMap csEnc⟩] [] := by
   intro q11 q22
   rw [hW]
   refine wa1 12 rfl ?_
   refine wl_got (γ := ByteArray) (val := fun v => .string v) (φ := fun v => v ∈ ([y0, y0, ⟨#[]⟩, ⟨#[65]⟩, ⟨#[122, 101, 100]⟩] : List ByteArray)) rfl cb49 rfl rfl rfl rfl (fun wx hm => (some_any [y0, y0, ⟨#[]⟩, ⟨#[65]⟩, ⟨#[122, 101, 100]⟩] _ _ _ wx B sb _ hm.k (by omega) (by simp) (by simp) (hm.blkI 0 rfl) (hm.neRow 0 rfl rfl))) fun k12 hk12 => ?_
   refine wl_nil ?_
   refine nw 30 8388607 (fun _ _ => trivial) fun z => ?_
   refine wa1 23 rfl ?_
   refine wl_got (γ := ByteArray) (val := fun v => .string v) (φ := fun v => v ∈ ([y1, ⟨#[109, 105, 110, 105]⟩, ⟨#[110, 111, 110, 101]⟩, ⟨#[65]⟩, y0] : List ByteArray)) rfl cb49 rfl rfl rfl rfl (fun wx hm => (some_any [y1, ⟨#[109, 105, 110, 105]⟩, ⟨#[110, 111, 110, 101]⟩, ⟨#[65]⟩, y0] _ _ _ wx B sb _ hm.k (by omega) (by simp) (by simp) (hm.blkI 1 rfl) (hm.neRow 1 rfl rfl))) fun k23 hk23 => ?_
   refine wl_nil ?_
   refine nw 30 16777215 (fun _ _ => trivial) fun z => ?_
   refine wt 24 30 33554431 rfl z (ov_nilcheck rfl) ?_
   refine wt 25 30 67108863 rfl z (ov_field fo158_0 rfl rfl) ?_
   refine wa1 26 rfl ?_
   refine wl_storeE (l := l) (j := j) (r := 0) (el := ⟨y0, y1⟩) (el' := ⟨k12, y1⟩) 0 sc9 rfl rfl rfl rfl cs_len rfl hy hl4 (show 0 < 2 by decide) rfl rfl ?_
   refine wl_nil ?_
   refine nw 30 134217727 (fun _ _ => trivial) fun z => ?_
   refine wt 27 30 268435455 rfl z (ov_nilcheck rfl) ?_
   refine wt 28 30 536870911 rfl z (ov_field fo158_1 rfl rfl) ?_
   refine wa1 29 rfl ?_
   have hy2 : (l.set j ⟨k12, y1⟩)[j]? = some (⟨k12, y1⟩ : Cs) := by rw [List.getElem?_set_self (by omega)]
   have hl42 : (l.set j ⟨k12, y1⟩).length = 4 := by simp [hl4]
   refine wl_storeE (l := (l.set j ⟨k12, y1⟩)) (j := j) (r := 1) (el := ⟨k12, y1⟩) (el' := ⟨k12, k23⟩) 0 sc9 rfl rfl rfl rfl cs_len rfl hy2 hl42 (show 1 < 2 by decide) rfl rfl ?_
   refine wl_nil ?_
   refine nw 30 1073741823 (fun _ _ => trivial) fun z => ?_
   refine wa_done (by kernel_rfl) ?_
   refine nx_then (sr_ (mv_ rfl (sg_ rfl (nn_ ?_))))
   refine gw_ret ?_
   refine nx_ret1 rfl rfl fun wx hm => ?_
   exact ⟨some ⟨bo, 0, none⟩, c, _, rfl, hm.ownI 0 rfl, (by simp [hl4]), cs_mem (cs_mem hok ⟨(show k12.size ≤ 1000000 by rcases mem5 hk12 with h | h | h | h | h <;> rw [h] <;> first | assumption | decide), hy1⟩) ⟨(show k12.size ≤ 1000000 by rcases mem5 hk12 with h | h | h | h | h <;> rw [h] <;> first | assumption | decide), (show k23.size ≤ 1000000 by rcases mem5 hk23 with h | h | h | h | h <;> rw [h] <;> first | assumption | decide)⟩, hm.k.more (by omega), hm.g⟩
  have J4190207 : ∀ (q11 : Nat), W 9 (lb 30 4190207) [(2, .slice none 0 0), (3, .slice (some ⟨bo, 0, none⟩) 4 c), (15, .pointer (some ⟨bo, 0 + j * 2, none⟩)), (16, .pointer (some ⟨bo, 0 + j * 2, none⟩)), (17, .pointer (some ⟨sb, 0, none⟩)), (26, .slice (some ⟨q11, 0, none⟩) 5 5), (28, .pointer (some ⟨sb, 0, none⟩)), (32, .string y1), (36, .string y0)] (fun w => Strm 25 w B sb (m + 20 + 1 + 1)) [(q11, 9, [.string y0, .string y0, .string ⟨#[]⟩, .string ⟨#[65]⟩, .string ⟨#[122, 101, 100]⟩])] [⟨.slice (some ⟨bo, 0, none⟩) 4 c, 158, 2, 4, l.flatMap csEnc⟩] [] := by
   intro q11
   rw [hW]
   refine wa_all [12, 22] (by kernel_rfl) rfl ⟨⟨_, rfl, ?_⟩, ⟨_, rfl, ?_⟩, trivial⟩
   ·refine wl_got (γ := ByteArray) (val := fun v => .string v) (φ := fun v => v ∈ ([y0, y0, ⟨#[]⟩, ⟨#[65]⟩, ⟨#[122, 101, 100]⟩] : List ByteArray)) rfl cb49 rfl rfl rfl rfl (fun wx hm => (some_any [y0, y0, ⟨#[]⟩, ⟨#[65]⟩, ⟨#[122, 101, 100]⟩] _ _ _ wx B sb _ hm.k (by omega) (by simp) (by simp) (hm.blkI 0 rfl) (hm.neRow 0 rfl rfl))) fun k12 hk12 => ?_
    refine wl_nil ?_
    refine nw 30 4194303 (fun _ _ => trivial) fun z => ?_
    have h := T4194303 q11 k12 hk12
    rw [hW] at h
    refine wa_weak ?_ ?_ h
    ·exact ⟨rfl, rfl, rfl, rfl, rfl, rfl, rfl, rfl, trivial⟩
    exact fun _ hm => hm.pick [0] [0] [] rfl rfl
   refine wl_buildSlice (e := 9) (cs := [.string y1, .string ⟨#[109, 105, 110, 105]⟩, .string ⟨#[110, 111, 110, 101]⟩, .string ⟨#[65]⟩, .string y0]) rfl (by kernel_rfl) rfl fun q22 => ?_
   refine wl_nil ?_
   refine nw 30 8384511 (fun _ _ => trivial) fun z => ?_
   have h := T8384511 q11 q22
   rw [hW] at h
   refine wa_weak ?_ ?_ h
   ·exact ⟨rfl, rfl, rfl, rfl, rfl, rfl, rfl, rfl, trivial⟩
   exact fun _ hm => hm.pick [1, 0] [0] [] rfl rfl
  have J2093055 : ∀ (q11 : Nat), W 10 (lb 30 2093055) [(2, .slice none 0 0), (3, .slice (some ⟨bo, 0, none⟩) 4 c), (15, .pointer (some ⟨bo, 0 + j * 2, none⟩)), (16, .pointer (some ⟨bo, 0 + j * 2, none⟩)), (17, .pointer (some ⟨sb, 0, none⟩)), (26, .slice (some ⟨q11, 0, none⟩) 5 5), (28, .pointer (some ⟨sb, 0, none⟩)), (32, .string y1), (35, .pointer (some ⟨bo, 0 + j * 2 + 0, none⟩))] (fun w => Strm 25 w B sb (m + 20 + 1 + 1)) [(q11, 9, [.string y0, .string y0, .string ⟨#[]⟩, .string ⟨#[65]⟩, .string ⟨#[122, 101, 100]⟩])] [⟨.slice (some ⟨bo, 0, none⟩) 4 c, 158, 2, 4, l.flatMap csEnc⟩] [] := by
   intro q11
   rw [hW]
   refine wa_all [12, 21] (by kernel_rfl) rfl ⟨⟨_, rfl, ?_⟩, ⟨_, rfl, ?_⟩, trivial⟩
   ·refine wl_got (γ := ByteArray) (val := fun v => .string v) (φ := fun v => v ∈ ([y0, y0, ⟨#[]⟩, ⟨#[65]⟩, ⟨#[122, 101, 100]⟩] : List ByteArray)) rfl cb49 rfl rfl rfl rfl (fun wx hm => (some_any [y0, y0, ⟨#[]⟩, ⟨#[65]⟩, ⟨#[122, 101, 100]⟩] _ _ _ wx B sb _ hm.k (by omega) (by simp) (by simp) (hm.blkI 0 rfl) (hm.neRow 0 rfl rfl))) fun k12 hk12 => ?_
    refine wl_nil ?_
    refine nw 30 2097151 (fun _ _ => trivial) fun z => ?_
    have h := T2097151 q11 k12 hk12
    rw [hW] at h
    refine wa_weak ?_ ?_ h
    ·exact ⟨rfl, rfl, rfl, rfl, rfl, rfl, rfl, rfl, trivial⟩
    exact fun _ hm => hm.pick [0] [0] [] rfl rfl
   refine wl_ov (ov_elem1 (k := 0) (v := .string y0) sc9 rfl (fun _ hm => (SlT.ofOwn cs_len (hm.ownI 0 rfl) hl4)) hy rfl rfl) rfl ?_
   refine wl_nil ?_
   refine nw 30 4190207 (fun _ _ => trivial) fun z => ?_
   have h := J4190207 q11
   rw [hW] at h
   refine wa_weak ?_ ?_ h
   ·exact ⟨rfl, rfl, rfl, rfl, rfl, rfl, rfl, rfl, rfl, trivial⟩
   exact fun _ hm => hm.pick [0] [0] [] rfl rfl
  have J4059135 : ∀ (q11 : Nat), W 10 (lb 30 4059135) [(2, .slice none 0 0), (3, .slice (some ⟨bo, 0, none⟩) 4 c), (15, .pointer (some ⟨bo, 0 + j * 2, none⟩)), (16, .pointer (some ⟨bo, 0 + j * 2, none⟩)), (17, .pointer (some ⟨sb, 0, none⟩)), (26, .slice (some ⟨q11, 0, none⟩) 5 5), (28, .pointer (some ⟨sb, 0, none⟩)), (31, .pointer (some ⟨bo, 0 + j * 2 + 1, none⟩)), (36, .string y0)] (fun w => Strm 25 w B sb (m + 20 + 1 + 1)) [(q11, 9, [.string y0, .string y0, .string ⟨#[]⟩, .string ⟨#[65]⟩, .string ⟨#[122, 101, 100]⟩])] [⟨.slice (some ⟨bo, 0, none⟩) 4 c, 158, 2, 4, l.flatMap csEnc⟩] [] := by
   intro q11
   rw [hW]
   refine wa_all [12, 17] (by kernel_rfl) rfl ⟨⟨_, rfl, ?_⟩, ⟨_, rfl, ?_⟩, trivial⟩
   ·refine wl_got (γ := ByteArray) (val := fun v => .string v) (φ := fun v => v ∈ ([y0, y0, ⟨#[]⟩, ⟨#[65]⟩, ⟨#[122, 101, 100]⟩] : List ByteArray)) rfl cb49 rfl rfl rfl rfl (fun wx hm => (some_any [y0, y0, ⟨#[]⟩, ⟨#[65]⟩, ⟨#[122, 101, 100]⟩] _ _ _ wx B sb _ hm.k (by omega) (by simp) (by simp) (hm.blkI 0 rfl) (hm.neRow 0 rfl rfl))) fun k12 hk12 => ?_
    refine wl_nil ?_
    refine nw 30 4063231 (fun _ _ => trivial) fun z => ?_
    have h := T4063231 q11 k12 hk12
    rw [hW] at h
    refine wa_weak ?_ ?_ h
    ·exact ⟨rfl, rfl, rfl, rfl, rfl, rfl, rfl, rfl, trivial⟩
    exact fun _ hm => hm.pick [0] [0] [] rfl rfl
   refine wl_ov (ov_elem1 (k := 1) (v := .string y1) sc9 rfl (fun _ hm => (SlT.ofOwn cs_len (hm.ownI 0 rfl) hl4)) hy rfl rfl) rfl ?_
   refine wl_nil ?_
   refine nw 30 4190207 (fun _ _ => trivial) fun z => ?_
   have h := J4190207 q11
   rw [hW] at h
   refine wa_weak ?_ ?_ h
   ·exact ⟨rfl, rfl, rfl, rfl, rfl, rfl, rfl, rfl, rfl, trivial⟩
   exact fun _ hm => hm.pick [0] [0] [] rfl rfl
  have J1961983 : ∀ (q11 : Nat), W 11 (lb 30 1961983) [(2, .slice none 0 0), (3, .slice (some ⟨bo, 0, none⟩) 4 c), (15, .pointer (some ⟨bo, 0 + j * 2, none⟩)), (16, .pointer (some ⟨bo, 0 + j * 2, none⟩)), (17, .pointer (some ⟨sb, 0, none⟩)), (26, .slice (some ⟨q11, 0, none⟩) 5 5), (28, .pointer (some ⟨sb, 0, none⟩)), (31, .pointer (some ⟨bo, 0 + j * 2 + 1, none⟩)), (35, .pointer (some ⟨bo, 0 + j * 2 + 0, none⟩))] (fun w => Strm 25 w B sb (m + 20 + 1 + 1)) [(q11, 9, [.string y0, .string y0, .string ⟨#[]⟩, .string ⟨#[65]⟩, .string ⟨#[122, 101, 100]⟩])] [⟨.slice (some ⟨bo, 0, none⟩) 4 c, 158, 2, 4, l.flatMap csEnc⟩] [] := by
   intro q11
   rw [hW]
   refine wa_all [12, 17, 21] (by kernel_rfl) rfl ⟨⟨_, rfl, ?_⟩, ⟨_, rfl, ?_⟩, ⟨_, rfl, ?_⟩, trivial⟩
   ·refine wl_got (γ := ByteArray) (val := fun v => .string v) (φ := fun v => v ∈ ([y0, y0, ⟨#[]⟩, ⟨#[65]⟩, ⟨#[122, 101, 100]⟩] : List ByteArray)) rfl cb49 rfl rfl rfl rfl (fun wx hm => (some_any [y0, y0, ⟨#[]⟩, ⟨#[65]⟩, ⟨#[122, 101, 100]⟩] _ _ _ wx B sb _ hm.k (by omega) (by simp) (by simp) (hm.blkI 0 rfl) (hm.neRow 0 rfl rfl))) fun k12 hk12 => ?_
    refine wl_nil ?_
    refine nw 30 1966079 (fun _ _ => trivial) fun z => ?_
    have h := J1966079 q11 k12 hk12
    rw [hW] at h
    refine wa_weak ?_ ?_ h
    ·exact ⟨rfl, rfl, rfl, rfl, rfl, rfl, rfl, rfl, trivial⟩
    exact fun _ hm => hm.pick [0] [0] [] rfl rfl
   ·refine wl_ov (ov_elem1 (k := 1) (v := .string y1) sc9 rfl (fun _ hm => (SlT.ofOwn cs_len (hm.ownI 0 rfl) hl4)) hy rfl rfl) rfl ?_
    refine wl_nil ?_
    refine nw 30 2093055 (fun _ _ => trivial) fun z => ?_
    have h := J2093055 q11
    rw [hW] at h
    refine wa_weak ?_ ?_ h
    ·exact ⟨rfl, rfl, rfl, rfl, rfl, rfl, rfl, rfl, rfl, trivial⟩
    exact fun _ hm => hm.pick [0] [0] [] rfl rfl
   refine wl_ov (ov_elem1 (k := 0) (v := .string y0) sc9 rfl (fun _ hm => (SlT.ofOwn cs_len (hm.ownI 0 rfl) hl4)) hy rfl rfl) rfl ?_
   refine wl_nil ?_
   refine nw 30 4059135 (fun _ _ => trivial) fun z => ?_
   have h := J4059135 q11
   rw [hW] at h
   refine wa_weak ?_ ?_ h
   ·exact ⟨rfl, rfl, rfl, rfl, rfl, rfl, rfl, rfl, rfl, trivial⟩
   exact fun _ hm => hm.pick [0] [0] [] rfl rfl
  have T8382463 : ∀ (q22 : Nat), W 9 (lb 30 8382463) [(2, .slice none 0 0), (3, .slice (some ⟨bo, 0, none⟩) 4 c), (15, .pointer (some ⟨bo, 0 + j * 2, none⟩)), (16, .pointer (some ⟨bo, 0 + j * 2, none⟩)), (17, .pointer (some ⟨sb, 0, none⟩)), (21, .string y0), (25, .string y0), (28, .pointer (some ⟨sb, 0, none⟩)), (37, .slice (some ⟨q22, 0, none⟩) 5 5)] (fun w => Strm 25 w B sb (m + 20 + 1 + 1)) [(q22, 9, [.string y1, .string ⟨#[109, 105, 110, 105]⟩, .string ⟨#[110, 111, 110, 101]⟩, .string ⟨#[65]⟩, .string y0])] [⟨.slice (some ⟨bo, 0, none⟩) 4 c, 158, 2, 4, l.flatMap csEnc⟩] [] := by
   intro q22
   rw [hW]
   refine wa1 11 rfl ?_
   refine wl_buildSlice (e := 9) (cs := [.string y0, .string y0, .string ⟨#[]⟩, .string ⟨#[65]⟩, .string ⟨#[122, 101, 100]⟩]) rfl (by kernel_rfl) rfl fun q11 => ?_
   refine wl_nil ?_
   refine nw 30 8384511 (fun _ _ => trivial) fun z => ?_
   refine wa1 12 rfl ?_
   refine wl_got (γ := ByteArray) (val := fun v => .string v) (φ := fun v => v ∈ ([y0, y0, ⟨#[]⟩, ⟨#[65]⟩, ⟨#[122, 101, 100]⟩] : List ByteArray)) rfl cb49 rfl rfl rfl rfl (fun wx hm => (some_any [y0, y0, ⟨#[]⟩, ⟨#[65]⟩, ⟨#[122, 101, 100]⟩] _ _ _ wx B sb _ hm.k (by omega) (by simp) (by simp) (hm.blkI 0 rfl) (hm.neRow 0 rfl rfl))) fun k12 hk12 => ?_
   refine wl_nil ?_
   refine nw 30 8388607 (fun _ _ => trivial) fun z => ?_
   refine wa1 23 rfl ?_
   refine wl_got (γ := ByteArray) (val := fun v => .string v) (φ := fun v => v ∈ ([y1, ⟨#[109, 105, 110, 105]⟩, ⟨#[110, 111, 110, 101]⟩, ⟨#[65]⟩, y0] : List ByteArray)) rfl cb49 rfl rfl rfl rfl (fun wx hm => (some_any [y1, ⟨#[109, 105, 110, 105]⟩, ⟨#[110, 111, 110, 101]⟩, ⟨#[65]⟩, y0] _ _ _ wx B sb _ hm.k (by omega) (by simp) (by simp) (hm.blkI 1 rfl) (hm.neRow 1 rfl rfl))) fun k23 hk23 => ?_
   refine wl_nil ?_
   refine nw 30 16777215 (fun _ _ => trivial) fun z => ?_
   refine wt 24 30 33554431 rfl z (ov_nilcheck rfl) ?_
   refine wt 25 30 67108863 rfl z (ov_field fo158_0 rfl rfl) ?_
   refine wa1 26 rfl ?_
   refine wl_storeE (l := l) (j := j) (r := 0) (el := ⟨y0, y1⟩) (el' := ⟨k12, y1⟩) 0 sc9 rfl rfl rfl rfl cs_len rfl hy hl4 (show 0 < 2 by decide) rfl rfl ?_
   refine wl_nil ?_
   refine nw 30 134217727 (fun _ _ => trivial) fun z => ?_
   refine wt 27 30 268435455 rfl z (ov_nilcheck rfl) ?_
   refine wt 28 30 536870911 rfl z (ov_field fo158_1 rfl rfl) ?_
   refine wa1 29 rfl ?_
   have hy2 : (l.set j ⟨k12, y1⟩)[j]? = some (⟨k12, y1⟩ : Cs) := by rw [List.getElem?_set_self (by omega)]
   have hl42 : (l.set j ⟨k12, y1⟩).length = 4 := by simp [hl4]
   refine wl_storeE (l := (l.set j ⟨k12, y1⟩)) (j := j) (r := 1) (el := ⟨k12, y1⟩) (el' := ⟨k12, k23⟩) 0 sc9 rfl rfl rfl rfl cs_len rfl hy2 hl42 (show 1 < 2 by decide) rfl rfl ?_
   refine wl_nil ?_
   refine nw 30 1073741823 (fun _ _ => trivial) fun z => ?_
   refine wa_done (by kernel_rfl) ?_
   refine nx_then (sr_ (mv_ rfl (sg_ rfl (nn_ ?_))))
   refine gw_ret ?_
   refine nx_ret1 rfl rfl fun wx hm => ?_
   exact ⟨some ⟨bo, 0, none⟩, c, _, rfl, hm.ownI 0 rfl, (by simp [hl4]), cs_mem (cs_mem hok ⟨(show k12.size ≤ 1000000 by rcases mem5 hk12 with h | h | h | h | h <;> rw [h] <;> first | assumption | decide), hy1⟩) ⟨(show k12.size ≤ 1000000 by rcases mem5 hk12 with h | h | h | h | h <;> rw [h] <;> first | assumption | decide), (show k23.size ≤ 1000000 by rcases mem5 hk23 with h | h | h | h | h <;> rw [h] <;> first | assumption | decide)⟩, hm.k.more (by omega), hm.g⟩
  have J4188159 : W 10 (lb 30 4188159) [(2, .slice none 0 0), (3, .slice (some ⟨bo, 0, none⟩) 4 c), (15, .pointer (some ⟨bo, 0 + j * 2, none⟩)), (16, .pointer (some ⟨bo, 0 + j * 2, none⟩)), (17, .pointer (some ⟨sb, 0, none⟩)), (21, .string y0), (25, .string y0), (28, .pointer (some ⟨sb, 0, none⟩)), (32, .string y1), (36, .string y0)] (fun w => Strm 25 w B sb (m + 20 + 1 + 1)) [] [⟨.slice (some ⟨bo, 0, none⟩) 4 c, 158, 2, 4, l.flatMap csEnc⟩] [] := by
   skip
   rw [hW]
   refine wa_all [11, 22] (by kernel_rfl) rfl ⟨⟨_, rfl, ?_⟩, ⟨_, rfl, ?_⟩, trivial⟩
   ·refine wl_buildSlice (e := 9) (cs := [.string y0, .string y0, .string ⟨#[]⟩, .string ⟨#[65]⟩, .string ⟨#[122, 101, 100]⟩]) rfl (by kernel_rfl) rfl fun q11 => ?_
    refine wl_nil ?_
    refine nw 30 4190207 (fun _ _ => trivial) fun z => ?_
    have h := J4190207 q11
    rw [hW] at h
    refine wa_weak ?_ ?_ h
    ·exact ⟨rfl, rfl, rfl, rfl, rfl, rfl, rfl, rfl, rfl, trivial⟩
    exact fun _ hm => hm.pick [0] [0] [] rfl rfl
   refine wl_buildSlice (e := 9) (cs := [.string y1, .string ⟨#[109, 105, 110, 105]⟩, .string ⟨#[110, 111, 110, 101]⟩, .string ⟨#[65]⟩, .string y0]) rfl (by kernel_rfl) rfl fun q22 => ?_
   refine wl_nil ?_
   refine nw 30 8382463 (fun _ _ => trivial) fun z => ?_
   have h := T8382463 q22
   rw [hW] at h
   refine wa_weak ?_ ?_ h
   ·exact ⟨rfl, rfl, rfl, rfl, rfl, rfl, rfl, rfl, rfl, trivial⟩
   exact fun _ hm => hm.pick [0] [0] [] rfl rfl
  have J2091007 : W 11 (lb 30 2091007) [(2, .slice none 0 0), (3, .slice (some ⟨bo, 0, none⟩) 4 c), (15, .pointer (some ⟨bo, 0 + j * 2, none⟩)), (16, .pointer (some ⟨bo, 0 + j * 2, none⟩)), (17, .pointer (some ⟨sb, 0, none⟩)), (21, .string y0), (25, .string y0), (28, .pointer (some ⟨sb, 0, none⟩)), (32, .string y1), (35, .pointer (some ⟨bo, 0 + j * 2 + 0, none⟩))] (fun w => Strm 25 w B sb (m + 20 + 1 + 1)) [] [⟨.slice (some ⟨bo, 0, none⟩) 4 c, 158, 2, 4, l.flatMap csEnc⟩] [] := by
   skip
   rw [hW]
   refine wa_all [11, 21] (by kernel_rfl) rfl ⟨⟨_, rfl, ?_⟩, ⟨_, rfl, ?_⟩, trivial⟩
   ·refine wl_buildSlice (e := 9) (cs := [.string y0, .string y0, .string ⟨#[]⟩, .string ⟨#[65]⟩, .string ⟨#[122, 101, 100]⟩]) rfl (by kernel_rfl) rfl fun q11 => ?_
    refine wl_nil ?_
    refine nw 30 2093055 (fun _ _ => trivial) fun z => ?_
    have h := J2093055 q11
    rw [hW] at h
    refine wa_weak ?_ ?_ h
    ·exact ⟨rfl, rfl, rfl, rfl, rfl, rfl, rfl, rfl, rfl, trivial⟩
    exact fun _ hm => hm.pick [0] [0] [] rfl rfl
   refine wl_ov (ov_elem1 (k := 0) (v := .string y0) sc9 rfl (fun _ hm => (SlT.ofOwn cs_len (hm.ownI 0 rfl) hl4)) hy rfl rfl) rfl ?_
   refine wl_nil ?_
   refine nw 30 4188159 (fun _ _ => trivial) fun z => ?_
   have h := J4188159 
   rw [hW] at h
   refine wa_weak ?_ ?_ h
   ·exact ⟨rfl, rfl, rfl, rfl, rfl, rfl, rfl, rfl, rfl, rfl, trivial⟩
   exact fun _ hm => hm.pick [] [0] [] rfl rfl
  have J4057087 : W 11 (lb 30 4057087) [(2, .slice none 0 0), (3, .slice (some ⟨bo, 0, none⟩) 4 c), (15, .pointer (some ⟨bo, 0 + j * 2, none⟩)), (16, .pointer (some ⟨bo, 0 + j * 2, none⟩)), (17, .pointer (some ⟨sb, 0, none⟩)), (21, .string y0), (25, .string y0), (28, .pointer (some ⟨sb, 0, none⟩)), (31, .pointer (some ⟨bo, 0 + j * 2 + 1, none⟩)), (36, .string y0)] (fun w => Strm 25 w B sb (m + 20 + 1 + 1)) [] [⟨.slice (some ⟨bo, 0, none⟩) 4 c, 158, 2, 4, l.flatMap csEnc⟩] [] := by
   skip
   rw [hW]
   refine wa_all [11, 17] (by kernel_rfl) rfl ⟨⟨_, rfl, ?_⟩, ⟨_, rfl, ?_⟩, trivial⟩
   ·refine wl_buildSlice (e := 9) (cs := [.string y0, .string y0, .string ⟨#[]⟩, .string ⟨#[65]⟩, .string ⟨#[122, 101, 100]⟩]) rfl (by kernel_rfl) rfl fun q11 => ?_
    refine wl_nil ?_
    refine nw 30 4059135 (fun _ _ => trivial) fun z => ?_
    have h := J4059135 q11
    rw [hW] at h
    refine wa_weak ?_ ?_ h
    ·exact ⟨rfl, rfl, rfl, rfl, rfl, rfl, rfl, rfl, rfl, trivial⟩
    exact fun _ hm => hm.pick [0] [0] [] rfl rfl
   refine wl_ov (ov_elem1 (k := 1) (v := .string y1) sc9 rfl (fun _ hm => (SlT.ofOwn cs_len (hm.ownI 0 rfl) hl4)) hy rfl rfl) rfl ?_
   refine wl_nil ?_
   refine nw 30 4188159 (fun _ _ => trivial) fun z => ?_
   have h := J4188159 
   rw [hW] at h
   refine wa_weak ?_ ?_ h
   ·exact ⟨rfl, rfl, rfl, rfl, rfl, rfl, rfl, rfl, rfl, rfl, trivial⟩
   exact fun _ hm => hm.pick [] [0] [] rfl rfl
  have J1959935 : W 12 (lb 30 1959935) [(2, .slice none 0 0), (3, .slice (some ⟨bo, 0, none⟩) 4 c), (15, .pointer (some ⟨bo, 0 + j * 2, none⟩)), (16, .pointer (some ⟨bo, 0 + j * 2, none⟩)), (17, .pointer (some ⟨sb, 0, none⟩)), (21, .string y0), (25, .string y0), (28, .pointer (some ⟨sb, 0, none⟩)), (31, .pointer (some ⟨bo, 0 + j * 2 + 1, none⟩)), (35, .pointer (some ⟨bo, 0 + j * 2 + 0, none⟩))] (fun w => Strm 25 w B sb (m + 20 + 1 + 1)) [] [⟨.slice (some ⟨bo, 0, none⟩) 4 c, 158, 2, 4, l.flatMap csEnc⟩] [] := by
   skip
   rw [hW]
   refine wa_all [11, 17, 21] (by kernel_rfl) rfl ⟨⟨_, rfl, ?_⟩, ⟨_, rfl, ?_⟩, ⟨_, rfl, ?_⟩, trivial⟩
   ·refine wl_buildSlice (e := 9) (cs := [.string y0, .string y0, .string ⟨#[]⟩, .string ⟨#[65]⟩, .string ⟨#[122, 101, 100]⟩]) rfl (by kernel_rfl) rfl fun q11 => ?_
    refine wl_nil ?_
    refine nw 30 1961983 (fun _ _ => trivial) fun z => ?_
    have h := J1961983 q11
    rw [hW] at h
    refine wa_weak ?_ ?_ h
    ·exact ⟨rfl, rfl, rfl, rfl, rfl, rfl, rfl, rfl, rfl, trivial⟩
    exact fun _ hm => hm.pick [0] [0] [] rfl rfl
   ·refine wl_ov (ov_elem1 (k := 1) (v := .string y1) sc9 rfl (fun _ hm => (SlT.ofOwn cs_len (hm.ownI 0 rfl) hl4)) hy rfl rfl) rfl ?_
    refine wl_nil ?_
    refine nw 30 2091007 (fun _ _ => trivial) fun z => ?_
    have h := J2091007 
    rw [hW] at h
    refine wa_weak ?_ ?_ h
    ·exact ⟨rfl, rfl, rfl, rfl, rfl, rfl, rfl, rfl, rfl, rfl, trivial⟩
    exact fun _ hm => hm.pick [] [0] [] rfl rfl
   refine wl_ov (ov_elem1 (k := 0) (v := .string y0) sc9 rfl (fun _ hm => (SlT.ofOwn cs_len (hm.ownI 0 rfl) hl4)) hy rfl rfl) rfl ?_
   refine wl_nil ?_
   refine nw 30 4057087 (fun _ _ => trivial) fun z => ?_
   have h := J4057087 
   rw [hW] at h
   refine wa_weak ?_ ?_ h
   ·exact ⟨rfl, rfl, rfl, rfl, rfl, rfl, rfl, rfl, rfl, rfl, trivial⟩
   exact fun _ hm => hm.pick [] [0] [] rfl rfl
  have T8381439 : ∀ (q22 : Nat), W 10 (lb 30 8381439) [(2, .slice none 0 0), (3, .slice (some ⟨bo, 0, none⟩) 4 c), (15, .pointer (some ⟨bo, 0 + j * 2, none⟩)), (16, .pointer (some ⟨bo, 0 + j * 2, none⟩)), (17, .pointer (some ⟨sb, 0, none⟩)), (21, .string y0), (24, .pointer (some ⟨bo, 0 + j * 2 + 0, none⟩)), (28, .pointer (some ⟨sb, 0, none⟩)), (37, .slice (some ⟨q22, 0, none⟩) 5 5)] (fun w => Strm 25 w B sb (m + 20 + 1 + 1)) [(q22, 9, [.string y1, .string ⟨#[109, 105, 110, 105]⟩, .string ⟨#[110, 111, 110, 101]⟩, .string ⟨#[65]⟩, .string y0])] [⟨.slice (some ⟨bo, 0, none⟩) 4 c, 158, 2, 4, l.flatMap csEnc⟩] [] := by
   intro q22
   rw [hW]
   refine wa1 10 rfl ?_
   refine wl_ov (ov_elem1 (k := 0) (v := .string y0) sc9 rfl (fun _ hm => (SlT.ofOwn cs_len (hm.ownI 0 rfl) hl4)) hy rfl rfl) rfl ?_
   refine wl_nil ?_
   refine nw 30 8382463 (fun _ _ => trivial) fun z => ?_
   refine wa1 11 rfl ?_
   refine wl_buildSlice (e := 9) (cs := [.string y0, .string y0, .string ⟨#[]⟩, .string ⟨#[65]⟩, .string ⟨#[122, 101, 100]⟩]) rfl (by kernel_rfl) rfl fun q11 => ?_
   refine wl_nil ?_
   refine nw 30 8384511 (fun _ _ => trivial) fun z => ?_
   refine wa1 12 rfl ?_
   refine wl_got (γ := ByteArray) (val := fun v => .string v) (φ := fun v => v ∈ ([y0, y0, ⟨#[]⟩, ⟨#[65]⟩, ⟨#[122, 101, 100]⟩] : List ByteArray)) rfl cb49 rfl rfl rfl rfl (fun wx hm => (some_any [y0, y0, ⟨#[]⟩, ⟨#[65]⟩, ⟨#[122, 101, 100]⟩] _ _ _ wx B sb _ hm.k (by omega) (by simp) (by simp) (hm.blkI 0 rfl) (hm.neRow 0 rfl rfl))) fun k12 hk12 => ?_
   refine wl_nil ?_
   refine nw 30 8388607 (fun _ _ => trivial) fun z => ?_
   refine wa1 23 rfl ?_
   refine wl_got (γ := ByteArray) (val := fun v => .string v) (φ := fun v => v ∈ ([y1, ⟨#[109, 105, 110, 105]⟩, ⟨#[110, 111, 110, 101]⟩, ⟨#[65]⟩, y0] : List ByteArray)) rfl cb49 rfl rfl rfl rfl (fun wx hm => (some_any [y1, ⟨#[109, 105, 110, 105]⟩, ⟨#[110, 111, 110, 101]⟩, ⟨#[65]⟩, y0] _ _ _ wx B sb _ hm.k (by omega) (by simp) (by simp) (hm.blkI 1 rfl) (hm.neRow 1 rfl rfl))) fun k23 hk23 => ?_
   refine wl_nil ?_
   refine nw 30 16777215 (fun _ _ => trivial) fun z => ?_
   refine wt 24 30 33554431 rfl z (ov_nilcheck rfl) ?_
   refine wt 25 30 67108863 rfl z (ov_field fo158_0 rfl rfl) ?_
   refine wa1 26 rfl ?_
   refine wl_storeE (l := l) (j := j) (r := 0) (el := ⟨y0, y1⟩) (el' := ⟨k12, y1⟩) 0 sc9 rfl rfl rfl rfl cs_len rfl hy hl4 (show 0 < 2 by decide) rfl rfl ?_
   refine wl_nil ?_
   refine nw 30 134217727 (fun _ _ => trivial) fun z => ?_
   refine wt 27 30 268435455 rfl z (ov_nilcheck rfl) ?_
   refine wt 28 30 536870911 rfl z (ov_field fo158_1 rfl rfl) ?_
   refine wa1 29 rfl ?_
   have hy2 : (l.set j ⟨k12, y1⟩)[j]? = some (⟨k12, y1⟩ : Cs) := by rw [List.getElem?_set_self (by omega)]
   have hl42 : (l.set j ⟨k12, y1⟩).length = 4 := by simp [hl4]
   refine wl_storeE (l := (l.set j ⟨k12, y1⟩)) (j := j) (r := 1) (el := ⟨k12, y1⟩) (el' := ⟨k12, k23⟩) 0 sc9 rfl rfl rfl rfl cs_len rfl hy2 hl42 (show 1 < 2 by decide) rfl rfl ?_
   refine wl_nil ?_
   refine nw 30 1073741823 (fun _ _ => trivial) fun z => ?_
   refine wa_done (by kernel_rfl) ?_
   refine nx_then (sr_ (mv_ rfl (sg_ rfl (nn_ ?_))))
   refine gw_ret ?_
   refine nx_ret1 rfl rfl fun wx hm => ?_
   exact ⟨some ⟨bo, 0, none⟩, c, _, rfl, hm.ownI 0 rfl, (by simp [hl4]), cs_mem (cs_mem hok ⟨(show k12.size ≤ 1000000 by rcases mem5 hk12 with h | h | h | h | h <;> rw [h] <;> first | assumption | decide), hy1⟩) ⟨(show k12.size ≤ 1000000 by rcases mem5 hk12 with h | h | h | h | h <;> rw [h] <;> first | assumption | decide), (show k23.size ≤ 1000000 by rcases mem5 hk23 with h | h | h | h | h <;> rw [h] <;> first | assumption | decide)⟩, hm.k.more (by omega), hm.g⟩
  have J4187135 : W 11 (lb 30 4187135) [(2, .slice none 0 0), (3, .slice (some ⟨bo, 0, none⟩) 4 c), (15, .pointer (some ⟨bo, 0 + j * 2, none⟩)), (16, .pointer (some ⟨bo, 0 + j * 2, none⟩)), (17, .pointer (some ⟨sb, 0, none⟩)), (21, .string y0), (24, .pointer (some ⟨bo, 0 + j * 2 + 0, none⟩)), (28, .pointer (some ⟨sb, 0, none⟩)), (32, .string y1), (36, .string y0)] (fun w => Strm 25 w B sb (m + 20 + 1 + 1)) [] [⟨.slice (some ⟨bo, 0, none⟩) 4 c, 158, 2, 4, l.flatMap csEnc⟩] [] := by
   skip
   rw [hW]
   refine wa_all [10, 22] (by kernel_rfl) rfl ⟨⟨_, rfl, ?_⟩, ⟨_, rfl, ?_⟩, trivial⟩
   ·refine wl_ov (ov_elem1 (k := 0) (v := .string y0) sc9 rfl (fun _ hm => (SlT.ofOwn cs_len (hm.ownI 0 rfl) hl4)) hy rfl rfl) rfl ?_
    refine wl_nil ?_
    refine nw 30 4188159 (fun _ _ => trivial) fun z => ?_
    have h := J4188159 
    rw [hW] at h
    refine wa_weak ?_ ?_ h
    ·exact ⟨rfl, rfl, rfl, rfl, rfl, rfl, rfl, rfl, rfl, rfl, trivial⟩
    exact fun _ hm => hm.pick [] [0] [] rfl rfl
   refine wl_buildSlice (e := 9) (cs := [.string y1, .string ⟨#[109, 105, 110, 105]⟩, .string ⟨#[110, 111, 110, 101]⟩, .string ⟨#[65]⟩, .string y0]) rfl (by kernel_rfl) rfl fun q22 => ?_
   refine wl_nil ?_
   refine nw 30 8381439 (fun _ _ => trivial) fun z => ?_
   have h := T8381439 q22
   rw [hW] at h
   refine wa_weak ?_ ?_ h
   ·exact ⟨rfl, rfl, rfl, rfl, rfl, rfl, rfl, rfl, rfl, trivial⟩
   exact fun _ hm => hm.pick [0] [0] [] rfl rfl
  have J2089983 : W 12 (lb 30 2089983) [(2, .slice none 0 0), (3, .slice (some ⟨bo, 0, none⟩) 4 c), (15, .pointer (some ⟨bo, 0 + j * 2, none⟩)), (16, .pointer (some ⟨bo, 0 + j * 2, none⟩)), (17, .pointer (some ⟨sb, 0, none⟩)), (21, .string y0), (24, .pointer (some ⟨bo, 0 + j * 2 + 0, none⟩)), (28, .pointer (some ⟨sb, 0, none⟩)), (32, .string y1), (35, .pointer (some ⟨bo, 0 + j * 2 + 0, none⟩))] (fun w => Strm 25 w B sb (m + 20 + 1 + 1)) [] [⟨.slice (some ⟨bo, 0, none⟩) 4 c, 158, 2, 4, l.flatMap csEnc⟩] [] := by
   skip
   rw [hW]
   refine wa_all [10, 21] (by kernel_rfl) rfl ⟨⟨_, rfl, ?_⟩, ⟨_, rfl, ?_⟩, trivial⟩
   ·refine wl_ov (ov_elem1 (k := 0) (v := .string y0) sc9 rfl (fun _ hm => (SlT.ofOwn cs_len (hm.ownI 0 rfl) hl4)) hy rfl rfl) rfl ?_
    refine wl_nil ?_
    refine nw 30 2091007 (fun _ _ => trivial) fun z => ?_
    have h := J2091007 
    rw [hW] at h
    refine wa_weak ?_ ?_ h
    ·exact ⟨rfl, rfl, rfl, rfl, rfl, rfl, rfl, rfl, rfl, rfl, trivial⟩
    exact fun _ hm => hm.pick [] [0] [] rfl rfl
   refine wl_ov (ov_elem1 (k := 0) (v := .string y0) sc9 rfl (fun _ hm => (SlT.ofOwn cs_len (hm.ownI 0 rfl) hl4)) hy rfl rfl) rfl ?_
   refine wl_nil ?_
   refine nw 30 4187135 (fun _ _ => trivial) fun z => ?_
   have h := J4187135 
   rw [hW] at h
   refine wa_weak ?_ ?_ h
   ·exact ⟨rfl, rfl, rfl, rfl, rfl, rfl, rfl, rfl, rfl, rfl, trivial⟩
   exact fun _ hm => hm.pick [] [0] [] rfl rfl
  have J4056063 : W 12 (lb 30 4056063) [(2, .slice none 0 0), (3, .slice (some ⟨bo, 0, none⟩) 4 c), (15, .pointer (some ⟨bo, 0 + j * 2, none⟩)), (16, .pointer (some ⟨bo, 0 + j * 2, none⟩)), (17, .pointer (some ⟨sb, 0, none⟩)), (21, .string y0), (24, .pointer (some ⟨bo, 0 + j * 2 + 0, none⟩)), (28, .pointer (some ⟨sb, 0, none⟩)), (31, .pointer (some ⟨bo, 0 + j * 2 + 1, none⟩)), (36, .string y0)] (fun w => Strm 25 w B sb (m + 20 + 1 + 1)) [] [⟨.slice (some ⟨bo, 0, none⟩) 4 c, 158, 2, 4, l.flatMap csEnc⟩] [] := by
   skip
   rw [hW]
   refine wa_all [10, 17] (by kernel_rfl) rfl ⟨⟨_, rfl, ?_⟩, ⟨_, rfl, ?_⟩, trivial⟩
   ·refine wl_ov (ov_elem1 (k := 0) (v := .string y0) sc9 rfl (fun _ hm => (SlT.ofOwn cs_len (hm.ownI 0 rfl) hl4)) hy rfl rfl) rfl ?_
    refine wl_nil ?_
    refine nw 30 4057087 (fun _ _ => trivial) fun z => ?_
    have h := J4057087 
    rw [hW] at h
    refine wa_weak ?_ ?_ h
    ·exact ⟨rfl, rfl, rfl, rfl, rfl, rfl, rfl, rfl, rfl, rfl, trivial⟩
    exact fun _ hm => hm.pick [] [0] [] rfl rfl
   refine wl_ov (ov_elem1 (k := 1) (v := .string y1) sc9 rfl (fun _ hm => (SlT.ofOwn cs_len (hm.ownI 0 rfl) hl4)) hy rfl rfl) rfl ?_
   refine wl_nil ?_
   refine nw 30 4187135 (fun _ _ => trivial) fun z => ?_
   have h := J4187135 
   rw [hW] at h
   refine wa_weak ?_ ?_ h
   ·exact ⟨rfl, rfl, rfl, rfl, rfl, rfl, rfl, rfl, rfl, rfl, trivial⟩
   exact fun _ hm => hm.pick [] [0] [] rfl rfl
  have J1958911 : W 13 (lb 30 1958911) [(2, .slice none 0 0), (3, .slice (some ⟨bo, 0, none⟩) 4 c), (15, .pointer (some ⟨bo, 0 + j * 2, none⟩)), (16, .pointer (some ⟨bo, 0 + j * 2, none⟩)), (17, .pointer (some ⟨sb, 0, none⟩)), (21, .string y0), (24, .pointer (some ⟨bo, 0 + j * 2 + 0, none⟩)), (28, .pointer (some ⟨sb, 0, none⟩)), (31, .pointer (some ⟨bo, 0 + j * 2 + 1, none⟩)), (35, .pointer (some ⟨bo, 0 + j * 2 + 0, none⟩))] (fun w => Strm 25 w B sb (m + 20 + 1 + 1)) [] [⟨.slice (some ⟨bo, 0, none⟩) 4 c, 158, 2, 4, l.flatMap csEnc⟩] [] := by
   skip
   rw [hW]
   refine wa_all [10, 17, 21] (by kernel_rfl) rfl ⟨⟨_, rfl, ?_⟩, ⟨_, rfl, ?_⟩, ⟨_, rfl, ?_⟩, trivial⟩
   ·refine wl_ov (ov_elem1 (k := 0) (v := .string y0) sc9 rfl (fun _ hm => (SlT.ofOwn cs_len (hm.ownI 0 rfl) hl4)) hy rfl rfl) rfl ?_
    refine wl_nil ?_
    refine nw 30 1959935 (fun _ _ => trivial) fun z => ?_
    have h := J1959935 
    rw [hW] at h
    refine wa_weak ?_ ?_ h
    ·exact ⟨rfl, rfl, rfl, rfl, rfl, rfl, rfl, rfl, rfl, rfl, trivial⟩
    exact fun _ hm => hm.pick [] [0] [] rfl rfl
   ·refine wl_ov (ov_elem1 (k := 1) (v := .string y1) sc9 rfl (fun _ hm => (SlT.ofOwn cs_len (hm.ownI 0 rfl) hl4)) hy rfl rfl) rfl ?_
    refine wl_nil ?_
    refine nw 30 2089983 (fun _ _ => trivial) fun z => ?_
    have h := J2089983 
    rw [hW] at h
    refine wa_weak ?_ ?_ h
    ·exact ⟨rfl, rfl, rfl, rfl, rfl, rfl, rfl, rfl, rfl, rfl, trivial⟩
    exact fun _ hm => hm.pick [] [0] [] rfl rfl
   refine wl_ov (ov_elem1 (k := 0) (v := .string y0) sc9 rfl (fun _ hm => (SlT.ofOwn cs_len (hm.ownI 0 rfl) hl4)) hy rfl rfl) rfl ?_
   refine wl_nil ?_
   refine nw 30 4056063 (fun _ _ => trivial) fun z => ?_
   have h := J4056063 
   rw [hW] at h
   refine wa_weak ?_ ?_ h
   ·exact ⟨rfl, rfl, rfl, rfl, rfl, rfl, rfl, rfl, rfl, rfl, trivial⟩
   exact fun _ hm => hm.pick [] [0] [] rfl rfl
  have T8382399 : ∀ (q22 : Nat), W 10 (lb 30 8382399) [(2, .slice none 0 0), (3, .slice (some ⟨bo, 0, none⟩) 4 c), (15, .pointer (some ⟨bo, 0 + j * 2, none⟩)), (16, .pointer (some ⟨bo, 0 + j * 2, none⟩)), (17, .pointer (some ⟨sb, 0, none⟩)), (20, .pointer (some ⟨bo, 0 + j * 2 + 0, none⟩)), (25, .string y0), (28, .pointer (some ⟨sb, 0, none⟩)), (37, .slice (some ⟨q22, 0, none⟩) 5 5)] (fun w => Strm 25 w B sb (m + 20 + 1 + 1)) [(q22, 9, [.string y1, .string ⟨#[109, 105, 110, 105]⟩, .string ⟨#[110, 111, 110, 101]⟩, .string ⟨#[65]⟩, .string y0])] [⟨.slice (some ⟨bo, 0, none⟩) 4 c, 158, 2, 4, l.flatMap csEnc⟩] [] := by
   intro q22
   rw [hW]
   refine wa1 6 rfl ?_
   refine wl_ov (ov_elem1 (k := 0) (v := .string y0) sc9 rfl (fun _ hm => (SlT.ofOwn cs_len (hm.ownI 0 rfl) hl4)) hy rfl rfl) rfl ?_
   refine wl_nil ?_
   refine nw 30 8382463 (fun _ _ => trivial) fun z => ?_
   refine wa1 11 rfl ?_
   refine wl_buildSlice (e := 9) (cs := [.string y0, .string y0, .string ⟨#[]⟩, .string ⟨#[65]⟩, .string ⟨#[122, 101, 100]⟩]) rfl (by kernel_rfl) rfl fun q11 => ?_
   refine wl_nil ?_
   refine nw 30 8384511 (fun _ _ => trivial) fun z => ?_
   refine wa1 12 rfl ?_
   refine wl_got (γ := ByteArray) (val := fun v => .string v) (φ := fun v => v ∈ ([y0, y0, ⟨#[]⟩, ⟨#[65]⟩, ⟨#[122, 101, 100]⟩] : List ByteArray)) rfl cb49 rfl rfl rfl rfl (fun wx hm => (some_any [y0, y0, ⟨#[]⟩, ⟨#[65]⟩, ⟨#[122, 101, 100]⟩] _ _ _ wx B sb _ hm.k (by omega) (by simp) (by simp) (hm.blkI 0 rfl) (hm.neRow 0 rfl rfl))) fun k12 hk12 => ?_
   refine wl_nil ?_
   refine nw 30 8388607 (fun _ _ => trivial) fun z => ?_
   refine wa1 23 rfl ?_
   refine wl_got (γ := ByteArray) (val := fun v => .string v) (φ := fun v => v ∈ ([y1, ⟨#[109, 105, 110, 105]⟩, ⟨#[110, 111, 110, 101]⟩, ⟨#[65]⟩, y0] : List ByteArray)) rfl cb49 rfl rfl rfl rfl (fun wx hm => (some_any [y1, ⟨#[109, 105, 110, 105]⟩, ⟨#[110, 111, 110, 101]⟩, ⟨#[65]⟩, y0] _ _ _ wx B sb _ hm.k (by omega) (by simp) (by simp) (hm.blkI 1 rfl) (hm.neRow 1 rfl rfl))) fun k23 hk23 => ?_
   refine wl_nil ?_
   refine nw 30 16777215 (fun _ _ => trivial) fun z => ?_
   refine wt 24 30 33554431 rfl z (ov_nilcheck rfl) ?_
   refine wt 25 30 67108863 rfl z (ov_field fo158_0 rfl rfl) ?_
   refine wa1 26 rfl ?_
   refine wl_storeE (l := l) (j := j) (r := 0) (el := ⟨y0, y1⟩) (el' := ⟨k12, y1⟩) 0 sc9 rfl rfl rfl rfl cs_len rfl hy hl4 (show 0 < 2 by decide) rfl rfl ?_
   refine wl_nil ?_
   refine nw 30 134217727 (fun _ _ => trivial) fun z => ?_
   refine wt 27 30 268435455 rfl z (ov_nilcheck rfl) ?_
   refine wt 28 30 536870911 rfl z (ov_field fo158_1 rfl rfl) ?_
   refine wa1 29 rfl ?_
   have hy2 : (l.set j ⟨k12, y1⟩)[j]? = some (⟨k12, y1⟩ : Cs) := by rw [List.getElem?_set_self (by omega)]
   have hl42 : (l.set j ⟨k12, y1⟩).length = 4 := by simp [hl4]
   refine wl_storeE (l := (l.set j ⟨k12, y1⟩)) (j := j) (r := 1) (el := ⟨k12, y1⟩) (el' := ⟨k12, k23⟩) 0 sc9 rfl rfl rfl rfl cs_len rfl hy2 hl42 (show 1 < 2 by decide) rfl rfl ?_
   refine wl_nil ?_
   refine nw 30 1073741823 (fun _ _ => trivial) fun z => ?_
   refine wa_done (by kernel_rfl) ?_
   refine nx_then (sr_ (mv_ rfl (sg_ rfl (nn_ ?_))))
   refine gw_ret ?_
   refine nx_ret1 rfl rfl fun wx hm => ?_
   exact ⟨some ⟨bo, 0, none⟩, c, _, rfl, hm.ownI 0 rfl, (by simp [hl4]), cs_mem (cs_mem hok ⟨(show k12.size ≤ 1000000 by rcases mem5 hk12 with h | h | h | h | h <;> rw [h] <;> first | assumption | decide), hy1⟩) ⟨(show k12.size ≤ 1000000 by rcases mem5 hk12 with h | h | h | h | h <;> rw [h] <;> first | assumption | decide), (show k23.size ≤ 1000000 by rcases mem5 hk23 with h | h | h | h | h <;> rw [h] <;> first | assumption | decide)⟩, hm.k.more (by omega), hm.g⟩
  have J4188095 : W 11 (lb 30 4188095) [(2, .slice none 0 0), (3, .slice (some ⟨bo, 0, none⟩) 4 c), (15, .pointer (some ⟨bo, 0 + j * 2, none⟩)), (16, .pointer (some ⟨bo, 0 + j * 2, none⟩)), (17, .pointer (some ⟨sb, 0, none⟩)), (20, .pointer (some ⟨bo, 0 + j * 2 + 0, none⟩)), (25, .string y0), (28, .pointer (some ⟨sb, 0, none⟩)), (32, .string y1), (36, .string y0)] (fun w => Strm 25 w B sb (m + 20 + 1 + 1)) [] [⟨.slice (some ⟨bo, 0, none⟩) 4 c, 158, 2, 4, l.flatMap csEnc⟩] [] := by
   skip
   rw [hW]
   refine wa_all [6, 22] (by kernel_rfl) rfl ⟨⟨_, rfl, ?_⟩, ⟨_, rfl, ?_⟩, trivial⟩
   ·refine wl_ov (ov_elem1 (k := 0) (v := .string y0) sc9 rfl (fun _ hm => (SlT.ofOwn cs_len (hm.ownI 0 rfl) hl4)) hy rfl rfl) rfl ?_
    refine wl_nil ?_
    refine nw 30 4188159 (fun _ _ => trivial) fun z => ?_
    have h := J4188159 
    rw [hW] at h
    refine wa_weak ?_ ?_ h
    ·exact ⟨rfl, rfl, rfl, rfl, rfl, rfl, rfl, rfl, rfl, rfl, trivial⟩
    exact fun _ hm => hm.pick [] [0] [] rfl rfl
   refine wl_buildSlice (e := 9) (cs := [.string y1, .string ⟨#[109, 105, 110, 105]⟩, .string ⟨#[110, 111, 110, 101]⟩, .string ⟨#[65]⟩, .string y0]) rfl (by kernel_rfl) rfl fun q22 => ?_
   refine wl_nil ?_
   refine nw 30 8382399 (fun _ _ => trivial) fun z => ?_
   have h := T8382399 q22
   rw [hW] at h
   refine wa_weak ?_ ?_ h
   ·exact ⟨rfl, rfl, rfl, rfl, rfl, rfl, rfl, rfl, rfl, trivial⟩
   exact fun _ hm => hm.pick [0] [0] [] rfl rfl
  have J2090943 : W 12 (lb 30 2090943) [(2, .slice none 0 0), (3, .slice (some ⟨bo, 0, none⟩) 4 c), (15, .pointer (some ⟨bo, 0 + j * 2, none⟩)), (16, .pointer (some ⟨bo, 0 + j * 2, none⟩)), (17, .pointer (some ⟨sb, 0, none⟩)), (20, .pointer (some ⟨bo, 0 + j * 2 + 0, none⟩)), (25, .string y0), (28, .pointer (some ⟨sb, 0, none⟩)), (32, .string y1), (35, .pointer (some ⟨bo, 0 + j * 2 + 0, none⟩))] (fun w => Strm 25 w B sb (m + 20 + 1 + 1)) [] [⟨.slice (some ⟨bo, 0, none⟩) 4 c, 158, 2, 4, l.flatMap csEnc⟩] [] := by
   skip
   rw [hW]
   refine wa_all [6, 21] (by kernel_rfl) rfl ⟨⟨_, rfl, ?_⟩, ⟨_, rfl, ?_⟩, trivial⟩
   ·refine wl_ov (ov_elem1 (k := 0) (v := .string y0) sc9 rfl (fun _ hm => (SlT.ofOwn cs_len (hm.ownI 0 rfl) hl4)) hy rfl rfl) rfl ?_
    refine wl_nil ?_
    refine nw 30 2091007 (fun _ _ => trivial) fun z => ?_
    have h := J2091007 
    rw [hW] at h
    refine wa_weak ?_ ?_ h
    ·exact ⟨rfl, rfl, rfl, rfl, rfl, rfl, rfl, rfl, rfl, rfl, trivial⟩
    exact fun _ hm => hm.pick [] [0] [] rfl rfl
   refine wl_ov (ov_elem1 (k := 0) (v := .string y0) sc9 rfl (fun _ hm => (SlT.ofOwn cs_len (hm.ownI 0 rfl) hl4)) hy rfl rfl) rfl ?_
   refine wl_nil ?_
   refine nw 30 4188095 (fun _ _ => trivial) fun z => ?_
   have h := J4188095 
   rw [hW] at h
   refine wa_weak ?_ ?_ h
   ·exact ⟨rfl, rfl, rfl, rfl, rfl, rfl, rfl, rfl, rfl, rfl, trivial⟩
   exact fun _ hm => hm.pick [] [0] [] rfl rfl
  have J4057023 : W 12 (lb 30 4057023) [(2, .slice none 0 0), (3, .slice (some ⟨bo, 0, none⟩) 4 c), (15, .pointer (some ⟨bo, 0 + j * 2, none⟩)), (16, .pointer (some ⟨bo, 0 + j * 2, none⟩)), (17, .pointer (some ⟨sb, 0, none⟩)), (20, .pointer (some ⟨bo, 0 + j * 2 + 0, none⟩)), (25, .string y0), (28, .pointer (some ⟨sb, 0, none⟩)), (31, .pointer (some ⟨bo, 0 + j * 2 + 1, none⟩)), (36, .string y0)] (fun w => Strm 25 w B sb (m + 20 + 1 + 1)) [] [⟨.slice (some ⟨bo, 0, none⟩) 4 c, 158, 2, 4, l.flatMap csEnc⟩] [] := by
   skip
   rw [hW]
   refine wa_all [6, 17] (by kernel_rfl) rfl ⟨⟨_, rfl, ?_⟩, ⟨_, rfl, ?_⟩, trivial⟩
   ·refine wl_ov (ov_elem1 (k := 0) (v := .string y0) sc9 rfl (fun _ hm => (SlT.ofOwn cs_len (hm.ownI 0 rfl) hl4)) hy rfl rfl) rfl ?_
    refine wl_nil ?_
    refine nw 30 4057087 (fun _ _ => trivial) fun z => ?_
    have h := J4057087 
    rw [hW] at h
    refine wa_weak ?_ ?_ h
    ·exact ⟨rfl, rfl, rfl, rfl, rfl, rfl, rfl, rfl, rfl, rfl, trivial⟩
    exact fun _ hm => hm.pick [] [0] [] rfl rfl
   refine wl_ov (ov_elem1 (k := 1) (v := .string y1) sc9 rfl (fun _ hm => (SlT.ofOwn cs_len (hm.ownI 0 rfl) hl4)) hy rfl rfl) rfl ?_
   refine wl_nil ?_
   refine nw 30 4188095 (fun _ _ => trivial) fun z => ?_
   have h := J4188095 
   rw [hW] at h
   refine wa_weak ?_ ?_ h
   ·exact ⟨rfl, rfl, rfl, rfl, rfl, rfl, rfl, rfl, rfl, rfl, trivial⟩
   exact fun _ hm => hm.pick [] [0] [] rfl rfl
  have J1959871 : W 13 (lb 30 1959871) [(2, .slice none 0 0), (3, .slice (some ⟨bo, 0, none⟩) 4 c), (15, .pointer (some ⟨bo, 0 + j * 2, none⟩)), (16, .pointer (some ⟨bo, 0 + j * 2, none⟩)), (17, .pointer (some ⟨sb, 0, none⟩)), (20, .pointer (some ⟨bo, 0 + j * 2 + 0, none⟩)), (25, .string y0), (28, .pointer (some ⟨sb, 0, none⟩)), (31, .pointer (some ⟨bo, 0 + j * 2 + 1, none⟩)), (35, .pointer (some ⟨bo, 0 + j * 2 + 0, none⟩))] (fun w => Strm 25 w B sb (m + 20 + 1 + 1)) [] [⟨.slice (some ⟨bo, 0, none⟩) 4 c, 158, 2, 4, l.flatMap csEnc⟩] [] := by
   skip
   rw [hW]
   refine wa_all [6, 17, 21] (by kernel_rfl) rfl ⟨⟨_, rfl, ?_⟩, ⟨_, rfl, ?_⟩, ⟨_, rfl, ?_⟩, trivial⟩
   ·refine wl_ov (ov_elem1 (k := 0) (v := .string y0) sc9 rfl (fun _ hm => (SlT.ofOwn cs_len (hm.ownI 0 rfl) hl4)) hy rfl rfl) rfl ?_
    refine wl_nil ?_
    refine nw 30 1959935 (fun _ _ => trivial) fun z => ?_
    have h := J1959935 
    rw [hW] at h
    refine wa_weak ?_ ?_ h
    ·exact ⟨rfl, rfl, rfl, rfl, rfl, rfl, rfl, rfl, rfl, rfl, trivial⟩
    exact fun _ hm => hm.pick [] [0] [] rfl rfl
   ·refine wl_ov (ov_elem1 (k := 1) (v := .string y1) sc9 rfl (fun _ hm => (SlT.ofOwn cs_len (hm.ownI 0 rfl) hl4)) hy rfl rfl) rfl ?_
    refine wl_nil ?_
    refine nw 30 2090943 (fun _ _ => trivial) fun z => ?_
    have h := J2090943 
    rw [hW] at h
    refine wa_weak ?_ ?_ h
    ·exact ⟨rfl, rfl, rfl, rfl, rfl, rfl, rfl, rfl, rfl, rfl, trivial⟩
    exact fun _ hm => hm.pick [] [0] [] rfl rfl
   refine wl_ov (ov_elem1 (k := 0) (v := .string y0) sc9 rfl (fun _ hm => (SlT.ofOwn cs_len (hm.ownI 0 rfl) hl4)) hy rfl rfl) rfl ?_
   refine wl_nil ?_
   refine nw 30 4057023 (fun _ _ => trivial) fun z => ?_
   have h := J4057023 
   rw [hW] at h
   refine wa_weak ?_ ?_ h
   ·exact ⟨rfl, rfl, rfl, rfl, rfl, rfl, rfl, rfl, rfl, rfl, trivial⟩
   exact fun _ hm => hm.pick [] [0] [] rfl rfl
  have J8381375 : ∀ (q22 : Nat), W 11 (lb 30 8381375) [(2, .slice none 0 0), (3, .slice (some ⟨bo, 0, none⟩) 4 c), (15, .pointer (some ⟨bo, 0 + j * 2, none⟩)), (16, .pointer (some ⟨bo, 0 + j * 2, none⟩)), (17, .pointer (some ⟨sb, 0, none⟩)), (20, .pointer (some ⟨bo, 0 + j * 2 + 0, none⟩)), (24, .pointer (some ⟨bo, 0 + j * 2 + 0, none⟩)), (28, .pointer (some ⟨sb, 0, none⟩)), (37, .slice (some ⟨q22, 0, none⟩) 5 5)] (fun w => Strm 25 w B sb (m + 20 + 1 + 1)) [(q22, 9, [.string y1, .string ⟨#[109, 105, 110, 105]⟩, .string ⟨#[110, 111, 110, 101]⟩, .string ⟨#[65]⟩, .string y0])] [⟨.slice (some ⟨bo, 0, none⟩) 4 c, 158, 2, 4, l.flatMap csEnc⟩] [] := by
   intro q22
   rw [hW]
   refine wa_all [6, 10] (by kernel_rfl) rfl ⟨⟨_, rfl, ?_⟩, ⟨_, rfl, ?_⟩, trivial⟩
   ·refine wl_ov (ov_elem1 (k := 0) (v := .string y0) sc9 rfl (fun _ hm => (SlT.ofOwn cs_len (hm.ownI 0 rfl) hl4)) hy rfl rfl) rfl ?_
    refine wl_nil ?_
    refine nw 30 8381439 (fun _ _ => trivial) fun z => ?_
    have h := T8381439 q22
    rw [hW] at h
    refine wa_weak ?_ ?_ h
    ·exact ⟨rfl, rfl, rfl, rfl, rfl, rfl, rfl, rfl, rfl, trivial⟩
    exact fun _ hm => hm.pick [0] [0] [] rfl rfl
   refine wl_ov (ov_elem1 (k := 0) (v := .string y0) sc9 rfl (fun _ hm => (SlT.ofOwn cs_len (hm.ownI 0 rfl) hl4)) hy rfl rfl) rfl ?_
   refine wl_nil ?_
   refine nw 30 8382399 (fun _ _ => trivial) fun z => ?_
   have h := T8382399 q22
   rw [hW] at h
   refine wa_weak ?_ ?_ h
   ·exact ⟨rfl, rfl, rfl, rfl, rfl, rfl, rfl, rfl, rfl, trivial⟩
   exact fun _ hm => hm.pick [0] [0] [] rfl rfl
  have J4187071 : W 12 (lb 30 4187071) [(2, .slice none 0 0), (3, .slice (some ⟨bo, 0, none⟩) 4 c), (15, .pointer (some ⟨bo, 0 + j * 2, none⟩)), (16, .pointer (some ⟨bo, 0 + j * 2, none⟩)), (17, .pointer (some ⟨sb, 0, none⟩)), (20, .pointer (some ⟨bo, 0 + j * 2 + 0, none⟩)), (24, .pointer (some ⟨bo, 0 + j * 2 + 0, none⟩)), (28, .pointer (some ⟨sb, 0, none⟩)), (32, .string y1), (36, .string y0)] (fun w => Strm 25 w B sb (m + 20 + 1 + 1)) [] [⟨.slice (some ⟨bo, 0, none⟩) 4 c, 158, 2, 4, l.flatMap csEnc⟩] [] := by
   skip
   rw [hW]
   refine wa_all [6, 10, 22] (by kernel_rfl) rfl ⟨⟨_, rfl, ?_⟩, ⟨_, rfl, ?_⟩, ⟨_, rfl, ?_⟩, trivial⟩
   ·refine wl_ov (ov_elem1 (k := 0) (v := .string y0) sc9 rfl (fun _ hm => (SlT.ofOwn cs_len (hm.ownI 0 rfl) hl4)) hy rfl rfl) rfl ?_
    refine wl_nil ?_
    refine nw 30 4187135 (fun _ _ => trivial) fun z => ?_
    have h := J4187135 
    rw [hW] at h
    refine wa_weak ?_ ?_ h
    ·exact ⟨rfl, rfl, rfl, rfl, rfl, rfl, rfl, rfl, rfl, rfl, trivial⟩
    exact fun _ hm => hm.pick [] [0] [] rfl rfl
   ·refine wl_ov (ov_elem1 (k := 0) (v := .string y0) sc9 rfl (fun _ hm => (SlT.ofOwn cs_len (hm.ownI 0 rfl) hl4)) hy rfl rfl) rfl ?_
    refine wl_nil ?_
    refine nw 30 4188095 (fun _ _ => trivial) fun z => ?_
    have h := J4188095 
    rw [hW] at h
    refine wa_weak ?_ ?_ h
    ·exact ⟨rfl, rfl, rfl, rfl, rfl, rfl, rfl, rfl, rfl, rfl, trivial⟩
    exact fun _ hm => hm.pick [] [0] [] rfl rfl
   refine wl_buildSlice (e := 9) (cs := [.string y1, .string ⟨#[109, 105, 110, 105]⟩, .string ⟨#[110, 111, 110, 101]⟩, .string ⟨#[65]⟩, .string y0]) rfl (by kernel_rfl) rfl fun q22 => ?_
   refine wl_nil ?_
   refine nw 30 8381375 (fun _ _ => trivial) fun z => ?_
   have h := J8381375 q22
   rw [hW] at h
   refine wa_weak ?_ ?_ h
   ·exact ⟨rfl, rfl, rfl, rfl, rfl, rfl, rfl, rfl, rfl, trivial⟩
   exact fun _ hm => hm.pick [0] [0] [] rfl rfl
  have J2089919 : W 13 (lb 30 2089919) [(2, .slice none 0 0), (3, .slice (some ⟨bo, 0, none⟩) 4 c), (15, .pointer (some ⟨bo, 0 + j * 2, none⟩)), (16, .pointer (some ⟨bo, 0 + j * 2, none⟩)), (17, .pointer (some ⟨sb, 0, none⟩)), (20, .pointer (some ⟨bo, 0 + j * 2 + 0, none⟩)), (24, .pointer (some ⟨bo, 0 + j * 2 + 0, none⟩)), (28, .pointer (some ⟨sb, 0, none⟩)), (32, .string y1), (35, .pointer (some ⟨bo, 0 + j * 2 + 0, none⟩))] (fun w => Strm 25 w B sb (m + 20 + 1 + 1)) [] [⟨.slice (some ⟨bo, 0, none⟩) 4 c, 158, 2, 4, l.flatMap csEnc⟩] [] := by
   skip
   rw [hW]
   refine wa_all [6, 10, 21] (by kernel_rfl) rfl ⟨⟨_, rfl, ?_⟩, ⟨_, rfl, ?_⟩, ⟨_, rfl, ?_⟩, trivial⟩
   ·refine wl_ov (ov_elem1 (k := 0) (v := .string y0) sc9 rfl (fun _ hm => (SlT.ofOwn cs_len (hm.ownI 0 rfl) hl4)) hy rfl rfl) rfl ?_
    refine wl_nil ?_
    refine nw 30 2089983 (fun _ _ => trivial) fun z => ?_
    have h := J2089983 
    rw [hW] at h
    refine wa_weak ?_ ?_ h
    ·exact ⟨rfl, rfl, rfl, rfl, rfl, rfl, rfl, rfl, rfl, rfl, trivial⟩
    exact fun _ hm => hm.pick [] [0] [] rfl rfl
   ·refine wl_ov (ov_elem1 (k := 0) (v := .string y0) sc9 rfl (fun _ hm => (SlT.ofOwn cs_len (hm.ownI 0 rfl) hl4)) hy rfl rfl) rfl ?_
    refine wl_nil ?_
    refine nw 30 2090943 (fun _ _ => trivial) fun z => ?_
    have h := J2090943 
    rw [hW] at h
    refine wa_weak ?_ ?_ h
    ·exact ⟨rfl, rfl, rfl, rfl, rfl, rfl, rfl, rfl, rfl, rfl, trivial⟩
    exact fun _ hm => hm.pick [] [0] [] rfl rfl
   refine wl_ov (ov_elem1 (k := 0) (v := .string y0) sc9 rfl (fun _ hm => (SlT.ofOwn cs_len (hm.ownI 0 rfl) hl4)) hy rfl rfl) rfl ?_
   refine wl_nil ?_
   refine nw 30 4187071 (fun _ _ => trivial) fun z => ?_
   have h := J4187071 
   rw [hW] at h
   refine wa_weak ?_ ?_ h
   ·exact ⟨rfl, rfl, rfl, rfl, rfl, rfl, rfl, rfl, rfl, rfl, trivial⟩
   exact fun _ hm => hm.pick [] [0] [] rfl rfl
  have J4055999 : W 13 (lb 30 4055999) [(2, .slice none 0 0), (3, .slice (some ⟨bo, 0, none⟩) 4 c), (15, .pointer (some ⟨bo, 0 + j * 2, none⟩)), (16, .pointer (some ⟨bo, 0 + j * 2, none⟩)), (17, .pointer (some ⟨sb, 0, none⟩)), (20, .pointer (some ⟨bo, 0 + j * 2 + 0, none⟩)), (24, .pointer (some ⟨bo, 0 + j * 2 + 0, none⟩)), (28, .pointer (some ⟨sb, 0, none⟩)), (31, .pointer (some ⟨bo, 0 + j * 2 + 1, none⟩)), (36, .string y0)] (fun w => Strm 25 w B sb (m + 20 + 1 + 1)) [] [⟨.slice (some ⟨bo, 0, none⟩) 4 c, 158, 2, 4, l.flatMap csEnc⟩] [] := by
   skip
   rw [hW]
   refine wa_all [6, 10, 17] (by kernel_rfl) rfl ⟨⟨_, rfl, ?_⟩, ⟨_, rfl, ?_⟩, ⟨_, rfl, ?_⟩, trivial⟩
   ·refine wl_ov (ov_elem1 (k := 0) (v := .string y0) sc9 rfl (fun _ hm => (SlT.ofOwn cs_len (hm.ownI 0 rfl) hl4)) hy rfl rfl) rfl ?_
    refine wl_nil ?_
    refine nw 30 4056063 (fun _ _ => trivial) fun z => ?_
    have h := J4056063 
    rw [hW] at h
    refine wa_weak ?_ ?_ h
    ·exact ⟨rfl, rfl, rfl, rfl, rfl, rfl, rfl, rfl, rfl, rfl, trivial⟩
    exact fun _ hm => hm.pick [] [0] [] rfl rfl
   ·refine wl_ov (ov_elem1 (k := 0) (v := .string y0) sc9 rfl (fun _ hm => (SlT.ofOwn cs_len (hm.ownI 0 rfl) hl4)) hy rfl rfl) rfl ?_
    refine wl_nil ?_
    refine nw 30 4057023 (fun _ _ => trivial) fun z => ?_
    have h := J4057023 
    rw [hW] at h
    refine wa_weak ?_ ?_ h
    ·exact ⟨rfl, rfl, rfl, rfl, rfl, rfl, rfl, rfl, rfl, rfl, trivial⟩
    exact fun _ hm => hm.pick [] [0] [] rfl rfl
   refine wl_ov (ov_elem1 (k := 1) (v := .string y1) sc9 rfl (fun _ hm => (SlT.ofOwn cs_len (hm.ownI 0 rfl) hl4)) hy rfl rfl) rfl ?_
   refine wl_nil ?_
   refine nw 30 4187071 (fun _ _ => trivial) fun z => ?_
   have h := J4187071 
   rw [hW] at h
   refine wa_weak ?_ ?_ h
   ·exact ⟨rfl, rfl, rfl, rfl, rfl, rfl, rfl, rfl, rfl, rfl, trivial⟩
   exact fun _ hm => hm.pick [] [0] [] rfl rfl
  have J1958847 : W 14 (lb 30 1958847) [(2, .slice none 0 0), (3, .slice (some ⟨bo, 0, none⟩) 4 c), (15, .pointer (some ⟨bo, 0 + j * 2, none⟩)), (16, .pointer (some ⟨bo, 0 + j * 2, none⟩)), (17, .pointer (some ⟨sb, 0, none⟩)), (20, .pointer (some ⟨bo, 0 + j * 2 + 0, none⟩)), (24, .pointer (some ⟨bo, 0 + j * 2 + 0, none⟩)), (28, .pointer (some ⟨sb, 0, none⟩)), (31, .pointer (some ⟨bo, 0 + j * 2 + 1, none⟩)), (35, .pointer (some ⟨bo, 0 + j * 2 + 0, none⟩))] (fun w => Strm 25 w B sb (m + 20 + 1 + 1)) [] [⟨.slice (some ⟨bo, 0, none⟩) 4 c, 158, 2, 4, l.flatMap csEnc⟩] [] := by
   skip
   rw [hW]
   refine wa_all [6, 10, 17, 21] (by kernel_rfl) rfl ⟨⟨_, rfl, ?_⟩, ⟨_, rfl, ?_⟩, ⟨_, rfl, ?_⟩, ⟨_, rfl, ?_⟩, trivial⟩
   ·refine wl_ov (ov_elem1 (k := 0) (v := .string y0) sc9 rfl (fun _ hm => (SlT.ofOwn cs_len (hm.ownI 0 rfl) hl4)) hy rfl rfl) rfl ?_
    refine wl_nil ?_
    refine nw 30 1958911 (fun _ _ => trivial) fun z => ?_
    have h := J1958911 
    rw [hW] at h
    refine wa_weak ?_ ?_ h
    ·exact ⟨rfl, rfl, rfl, rfl, rfl, rfl, rfl, rfl, rfl, rfl, trivial⟩
    exact fun _ hm => hm.pick [] [0] [] rfl rfl
   ·refine wl_ov (ov_elem1 (k := 0) (v := .string y0) sc9 rfl (fun _ hm => (SlT.ofOwn cs_len (hm.ownI 0 rfl) hl4)) hy rfl rfl) rfl ?_
    refine wl_nil ?_
    refine nw 30 1959871 (fun _ _ => trivial) fun z => ?_
    have h := J1959871 
    rw [hW] at h
    refine wa_weak ?_ ?_ h
    ·exact ⟨rfl, rfl, rfl, rfl, rfl, rfl, rfl, rfl, rfl, rfl, trivial⟩
    exact fun _ hm => hm.pick [] [0] [] rfl rfl
   ·refine wl_ov (ov_elem1 (k := 1) (v := .string y1) sc9 rfl (fun _ hm => (SlT.ofOwn cs_len (hm.ownI 0 rfl) hl4)) hy rfl rfl) rfl ?_
    refine wl_nil ?_
    refine nw 30 2089919 (fun _ _ => trivial) fun z => ?_
    have h := J2089919 
    rw [hW] at h
    refine wa_weak ?_ ?_ h
    ·exact ⟨rfl, rfl, rfl, rfl, rfl, rfl, rfl, rfl, rfl, rfl, trivial⟩
    exact fun _ hm => hm.pick [] [0] [] rfl rfl
   refine wl_ov (ov_elem1 (k := 0) (v := .string y0) sc9 rfl (fun _ hm => (SlT.ofOwn cs_len (hm.ownI 0 rfl) hl4)) hy rfl rfl) rfl ?_
   refine wl_nil ?_
   refine nw 30 4055999 (fun _ _ => trivial) fun z => ?_
   have h := J4055999 
   rw [hW] at h
   refine wa_weak ?_ ?_ h
   ·exact ⟨rfl, rfl, rfl, rfl, rfl, rfl, rfl, rfl, rfl, rfl, trivial⟩
   exact fun _ hm => hm.pick [] [0] [] rfl rfl
  rw [hW]
  have h := J1958847 
  rw [hW] at h
  refine wa_weak ?_ ?_ h
  ·exact ⟨rfl, rfl, rfl, rfl, rfl, rfl, rfl, rfl, rfl, rfl, trivial⟩
  exact fun _ hm => hm.pick [] [0] [] rfl rfl
 have hf : f1 = false := by simpa using hh
 clear hh
 refine gw_skip (nx_then (sr_ (mv_ rfl (sg_ rfl (nn_ ?_)))))
 refine gw_ret ?_
 refine nx_ret1 rfl rfl fun wx hm => ?_
 exact ⟨A, c, l, rfl, hm.ownI 0 rfl, hl4, hok, hm.k.more (by omega), hm.g⟩
end Go.Proofs.YtempjmpfdniecaaGreatDoor
namespace Go.Proofs.YtempjmpfdniecaaGreatDoor
open Go.RowKit
theorem firstE_zero (x : Int) : firstE [0, x] = x := by
  simp only [firstE]; split <;> simp_all
end Go.Proofs.YtempjmpfdniecaaGreatDoor
namespace Go.Proofs.YtempjmpfdniecaaGreatDoor
open Go.RowKit
structure Bk where
  key : ByteArray
  cls : ByteArray
  fr : Int
  to_ : Int
  made : Int
  odds : Int
def bkEnc (b : Bk) : List Value := [.string b.key, .string b.cls, .int .i64 b.fr, .int .i64 b.to_, .int .i64 b.made, .int .i64 b.odds]
theorem bk_len (b : Bk) : (bkEnc b).length = 6 := rfl
def BkOk (b : Bk) : Prop := b.key.size ≤ 1000000 ∧ b.cls.size ≤ 1000000
def leO (p : Option Bk) (b : Bk) : Bool := match p with
  | none => false
  | some q => leB b.key q.key
def bookE (p : Option Bk) (b : Bk) : Int :=
  if !keyB b.key then 5 else if !keyB b.cls then 5 else if leO p b then 7 else
  if b.fr < 0 then 1 else if b.to_ ≤ b.fr then 1 else if 5761439 < b.to_ then 1 else if !inB b.made 0 b.fr then 1 else if !inB b.odds 0 100 then 1 else 0
def formE (l : List Bk) : Int := if 500 < l.length then 2 else scanE bookE none l
def prevK (l : List Bk) (k : Nat) : ByteArray := match prevOf l k with
  | none => ⟨#[]⟩
  | some q => q.key
theorem prevK_succ {l : List Bk} {k : Nat} {x : Bk} (h : l[k]? = some x) : prevK l (k + 1) = x.key := by
  unfold prevK prevOf; rw [if_neg (by omega), Nat.add_sub_cancel, h]
theorem leO_prevK {l : List Bk} {k : Nat} {b : Bk} (h : keyB b.key = true) : leB b.key (prevK l k) = leO (prevOf l k) b := by
  unfold prevK leO
  cases prevOf l k with
  | none => exact key_low h
  | some q => rfl
theorem bookE_ok {p : Option Bk} {b : Bk} (h : bookE p b = 0) : 0 ≤ b.fr ∧ b.fr < b.to_ ∧ b.to_ ≤ 5761439 ∧ 0 ≤ b.made ∧ b.made ≤ b.fr ∧ 0 ≤ b.odds ∧ b.odds ≤ 100 := by
  unfold bookE at h
  repeat (split at h; · cases h)
  rename_i h1 h2 h3 h4 h5 h6 h7 h8
  simp [inB] at h7 h8
  omega
theorem formed_any (l : List Bk) (A : Option Addr) (n c : Nat) (w : World) (hl : SlT bkEnc 6 92 w A n l) (hok : ∀ b ∈ l, BkOk b) (hn : n ≤ 1000000) :
  Calls Tryz.prog 253 #[.slice A n c] w (GotE w (formE l)) := by
 refine gw_enter ⟨75, w, none, []⟩ Tryz.func253 rfl Tryz.ntmps253 rfl (mem0 (X := [SlOld bkEnc 6 92 w.heap.size none A n l]) (allF_cons hl.old allF_nil) (allL_cons SlOld.lasts allL_nil)) ?_
 refine sr_ ?_
 have hlen := hl.len
 refine sg_ rfl (nn_ (gw_seq (sr_ (mv_ rfl (wl_ov (ov_len es76 rfl) rfl ?_)))))
 refine wl_ov (ov_gtr rfl rfl) rfl ?_
 refine nn_ ?_
 refine gw_cond rfl (fun hh => ?_) (fun hh => ?_)
 ·have h1 : 500 < ((n : Nat) : Int) := by simpa using hh
  clear hh
  refine sr_ (sg_ rfl (nn_ ?_))
  refine gw_ret ?_
  refine nx_then_ret ?_
  refine nx_ret1 rfl rfl fun wx hm => ?_
  exact ⟨ret_int (by unfold formE; rw [if_pos (by omega)]), hm.g⟩
 have h1 : ¬ (500 < ((n : Nat) : Int)) := by simpa using hh
 clear hh
 refine gw_skip (nx_then (gw_seq (sr_ (mv_ rfl (wl_ov (ov_len es76 rfl) rfl (mv_ rfl (nn_ (gw_block ?_))))))))
 refine gw_loop (γ := Nat) (fun (k : Nat) => k ≤ n ∧ formE l = scanE bookE (prevOf l k) (l.drop k)) (fun (k : Nat) => [(0, .slice A n c), (8, .slice A n c), (9, .int .i64 ((n : Nat) : Int)), (10, .int .i64 ((k : Nat) : Int))]) (fun (k : Nat) => fun _ => True) (fun (k : Nat) => []) (fun (k : Nat) => []) (fun (k : Nat) => [SlOld bkEnc 6 92 w.heap.size none A n l]) (fun (k : Nat) => n - k) 0 ⟨Nat.zero_le _, by unfold formE; rw [if_neg (by omega)]; rfl⟩ ⟨rfl, rfl, rfl, rfl, trivial⟩ (fun _ hm => hm.pick [] [] [0] rfl rfl) ?_
 intro k hinv
 replace hinv : k ≤ n ∧ formE l = scanE bookE (prevOf l k) (l.drop k) := hinv
 refine sr_ (wl_ov (ov_lss rfl rfl) rfl (nn_ (gw_seq ?_)))
 refine gw_cond rfl (fun hh => ?_) (fun hh => ?_)
 ·have hk : ((k : Nat) : Int) < ((n : Nat) : Int) := by simpa using hh
  clear hh
  refine gw_skip (nx_then (gw_seq (gw_block (sr_ ?_))))
  obtain ⟨b, off, hA, _, _⟩ := hl.get (by omega)
  subst hA
  obtain ⟨x, hx⟩ : ∃ x, l[k]? = some x := ⟨_, List.getElem?_eq_getElem (by omega)⟩
  obtain ⟨ke, cl, fr, tt, ma, od⟩ := x
  have hat := scanE_at bookE l k _ hx
  obtain ⟨hk1, hk2⟩ := hok _ (List.mem_of_getElem? hx)
  have hk1 : ke.size ≤ 1000000 := hk1
  have hk2 : cl.size ≤ 1000000 := hk2
  refine mv_ rfl ?_
  refine wl_ov (ov_index (j := k) es76 rfl rfl (by omega)) rfl ?_
  refine wl_ov (ov_elem (vs := [.string ke, .string cl, .int .i64 fr, .int .i64 tt, .int .i64 ma, .int .i64 od]) rz92 rfl (fun _ hm => (hm.fact 0 rfl).1) hx rfl rfl) rfl ?_
  refine wl_alloc zc92 rfl fun g1 => ?_
  refine sg_ rfl ?_
  refine wl_stores (cs' := [.string ke, .string cl, .int .i64 fr, .int .i64 tt, .int .i64 ma, .int .i64 od]) 0 rz92 rfl rfl rfl rfl rfl rfl rfl rfl ?_
  refine nn_ (gw_block (sr_ (fd_ fo92_0 rfl rfl (lk_ sc9 0 rfl rfl rfl ?_))))
  refine wl_callw rfl cb69 rfl rfl (fun wx hm => (isKey_any _ wx (by omega))) ?_
  refine wl_ov (ov_un_not rfl) rfl (mv_ rfl ?_)
  rcases Bool.eq_false_or_eq_true (!(keyB ke)) with h2 | h2
  ·refine wl_set 20 rfl (congrArg Value.bool h2) ?_
   refine goff rfl rfl rfl (goff rfl rfl rfl (goff rfl rfl rfl (goff rfl rfl rfl (pt_ rfl rfl (sg_ rfl (nn_ (ct_ rfl (sr_ (sg_ rfl (nn_ ?_))))))))))
   refine gw_ret ?_
   refine nx_blk_ret (nx_blk_ret (nx_then_ret (nx_then_ret (nx_blk_ret (nx_then_ret ?_)))))
   have hE : bookE (prevOf l k) ⟨ke, cl, fr, tt, ma, od⟩ = 5 := by unfold bookE; simp [h2]
   refine nx_ret1 rfl rfl fun wx hm => ?_
   exact ⟨ret_int (by rw [hinv.2, hat, if_neg (by rw [hE]; decide), hE]), hm.g⟩
  refine wl_set 20 rfl (congrArg Value.bool h2) ?_
  refine wl_guard_on rfl rfl rfl (fd_ fo92_1 rfl rfl (wl_guard_on rfl rfl rfl (lk_ sc9 0 rfl rfl rfl (wl_guard_on rfl rfl rfl ?_))))
  refine wl_callw rfl cb69 rfl rfl (fun wx hm => (isKey_any _ wx (by omega))) ?_
  refine wl_guard_on rfl rfl rfl (wl_ov (ov_un_not rfl) rfl (pf_ rfl rfl (sg_ rfl (nn_ ?_))))
  refine gw_cond rfl (fun hh => ?_) (fun hh => ?_)
  ·have h3 : (keyB cl) = false := by simpa using hh
   clear hh
   refine sr_ (sg_ rfl (nn_ ?_))
   refine gw_ret ?_
   refine nx_blk_ret (nx_blk_ret (nx_then_ret (nx_then_ret (nx_blk_ret (nx_then_ret ?_)))))
   have hE : bookE (prevOf l k) ⟨ke, cl, fr, tt, ma, od⟩ = 5 := by unfold bookE; simp [h2, h3]
   refine nx_ret1 rfl rfl fun wx hm => ?_
   exact ⟨ret_int (by rw [hinv.2, hat, if_neg (by rw [hE]; decide), hE]), hm.g⟩
  have h3 : (keyB cl) = true := by simpa using hh
  clear hh
  refine gw_seq ?_
  by_cases hk0 : k = 0
  ·have hO : leO (prevOf l k) ⟨ke, cl, fr, tt, ma, od⟩ = false := by rw [prevOf_zero hk0]; rfl
   refine gd (fun wz => Blk wz g1 92 [.string ke, .string cl, .int .i64 fr, .int .i64 tt, .int .i64 ma, .int .i64 od] ∧ (SlOld bkEnc 6 92 w.heap.size none (some ⟨b, off, none⟩) n l) wz ∧ True) mixed (fun _ hm => ⟨hm.bl 0, hm.fa 0, trivial⟩) fun z => ?_
   refine wt 0 14 1 rfl z (ov_move rfl) ?_
   refine wt 1 14 3 rfl z (ov_gtr rfl rfl) ?_
   refine wa_set 28 (v' := .bool false) rfl (congrArg Value.bool (decide_eq_false (by omega))) ?_
   refine wt 2 14 7 rfl z (ov_move rfl) ?_
   refine wtf 3 14 15 rfl rfl rfl z ?_
   refine wtf 4 14 31 rfl rfl rfl z ?_
   refine wtf 5 14 63 rfl rfl rfl z ?_
   refine wtf 6 14 127 rfl rfl rfl z ?_
   refine wtf 7 14 255 rfl rfl rfl z ?_
   refine wtf 8 14 511 rfl rfl rfl z ?_
   refine wtf 9 14 1023 rfl rfl rfl z ?_
   refine wtf 10 14 2047 rfl rfl rfl z ?_
   refine wtf 11 14 4095 rfl rfl rfl z ?_
   refine wt 12 14 8191 rfl z (ov_pick_f rfl rfl) ?_
   refine wt 13 14 16383 rfl z (ov_assign rfl) ?_
   refine wa_done (by kernel_rfl) ?_
   refine nx_then (cf_ rfl (sr_ (fd_ fo92_2 rfl rfl (fd_ fo27_0 rfl rfl (lk_ sc3 0 rfl rfl rfl (wl_ov (ov_lss rfl rfl) rfl (mv_ rfl ?_)))))))
   rcases Bool.eq_false_or_eq_true (decide (fr < 0)) with h4 | h4
   ·refine wl_set 45 rfl (congrArg Value.bool h4) ?_
    replace h4 := of_decide_eq_true h4
    refine goff rfl rfl rfl (goff rfl rfl rfl (goff rfl rfl rfl (goff rfl rfl rfl (goff rfl rfl rfl (goff rfl rfl rfl (goff rfl rfl rfl (pt_ rfl rfl (mv_ rfl (goff rfl rfl rfl (goff rfl rfl rfl (goff rfl rfl rfl (goff rfl rfl rfl (pt_ rfl rfl ?_)))))))))))))
    refine sg_ rfl (nn_ (ct_ rfl (sr_ (sg_ rfl (nn_ ?_)))))
    refine gw_ret ?_
    refine nx_blk_ret (nx_blk_ret (nx_then_ret (nx_then_ret (nx_blk_ret (nx_then_ret ?_)))))
    have hE : bookE (prevOf l k) ⟨ke, cl, fr, tt, ma, od⟩ = 1 := by unfold bookE; simp [h2, h3, hO, h4]
    refine nx_ret1 rfl rfl fun wx hm => ?_
    exact ⟨ret_int (by rw [hinv.2, hat, if_neg (by rw [hE]; decide), hE]), hm.g⟩
   refine wl_set 45 rfl (congrArg Value.bool h4) ?_
   replace h4 := of_decide_eq_false h4
   refine wl_guard_on rfl rfl rfl (fd_ fo92_2 rfl rfl (wl_guard_on rfl rfl rfl (fd_ fo27_0 rfl rfl (wl_guard_on rfl rfl rfl (lk_ sc3 0 rfl rfl rfl (wl_guard_on rfl rfl rfl (fd_ fo92_2 rfl rfl (wl_guard_on rfl rfl rfl (fd_ fo27_1 rfl rfl (wl_guard_on rfl rfl rfl (lk_ sc3 0 rfl rfl rfl (wl_guard_on rfl rfl rfl ?_))))))))))))
   refine wl_ov (ov_geq rfl rfl) rfl ?_
   refine pf_ rfl rfl (mv_ rfl ?_)
   rcases Bool.eq_false_or_eq_true (decide (tt ≤ fr)) with h5 | h5
   ·refine wl_set 54 rfl (congrArg Value.bool h5) ?_
    replace h5 := of_decide_eq_true h5
    refine goff rfl rfl rfl (goff rfl rfl rfl (goff rfl rfl rfl (goff rfl rfl rfl (pt_ rfl rfl (sg_ rfl (nn_ (ct_ rfl (sr_ (sg_ rfl (nn_ ?_))))))))))
    refine gw_ret ?_
    refine nx_blk_ret (nx_blk_ret (nx_then_ret (nx_then_ret (nx_blk_ret (nx_then_ret ?_)))))
    have hE : bookE (prevOf l k) ⟨ke, cl, fr, tt, ma, od⟩ = 1 := by unfold bookE; simp [h2, h3, hO, h4, h5]
    refine nx_ret1 rfl rfl fun wx hm => ?_
    exact ⟨ret_int (by rw [hinv.2, hat, if_neg (by rw [hE]; decide), hE]), hm.g⟩
   refine wl_set 54 rfl (congrArg Value.bool h5) ?_
   replace h5 := of_decide_eq_false h5
   refine wl_guard_on rfl rfl rfl (fd_ fo92_2 rfl rfl (wl_guard_on rfl rfl rfl (fd_ fo27_1 rfl rfl (wl_guard_on rfl rfl rfl (lk_ sc3 0 rfl rfl rfl (wl_guard_on rfl rfl rfl ?_))))))
   refine wl_ov (ov_gtr rfl rfl) rfl ?_
   refine pf_ rfl rfl (sg_ rfl (nn_ ?_))
   refine gw_cond rfl (fun hh => ?_) (fun hh => ?_)
   ·have h6 : 5761439 < tt := by simpa using hh
    clear hh
    refine sr_ (sg_ rfl (nn_ ?_))
    refine gw_ret ?_
    refine nx_blk_ret (nx_blk_ret (nx_then_ret (nx_then_ret (nx_blk_ret (nx_then_ret ?_)))))
    have hE : bookE (prevOf l k) ⟨ke, cl, fr, tt, ma, od⟩ = 1 := by unfold bookE; simp [h2, h3, hO, h4, h5, h6]
    refine nx_ret1 rfl rfl fun wx hm => ?_
    exact ⟨ret_int (by rw [hinv.2, hat, if_neg (by rw [hE]; decide), hE]), hm.g⟩
   have h6 : ¬ (5761439 < tt) := by simpa using hh
   clear hh
   refine sr_ (fd_ fo92_3 rfl rfl (lk_ sc3 0 rfl rfl rfl (fd_ fo92_2 rfl rfl (fd_ fo27_0 rfl rfl (lk_ sc3 0 rfl rfl rfl ?_)))))
   refine wl_callw rfl cb166 rfl rfl (fun wx hm => (in_any _ _ _ wx)) ?_
   refine wl_ov (ov_un_not rfl) rfl (mv_ rfl ?_)
   rcases Bool.eq_false_or_eq_true (!(inB ma 0 fr)) with h7 | h7
   ·refine wl_set 68 rfl (congrArg Value.bool h7) ?_
    refine goff rfl rfl rfl (goff rfl rfl rfl (goff rfl rfl rfl (goff rfl rfl rfl (pt_ rfl rfl (sg_ rfl (nn_ (ct_ rfl (sr_ (sg_ rfl (nn_ ?_))))))))))
    refine gw_ret ?_
    refine nx_blk_ret (nx_blk_ret (nx_then_ret (nx_then_ret (nx_blk_ret (nx_then_ret ?_)))))
    have hE : bookE (prevOf l k) ⟨ke, cl, fr, tt, ma, od⟩ = 1 := by unfold bookE; simp [h2, h3, hO, h4, h5, h6, h7]
    refine nx_ret1 rfl rfl fun wx hm => ?_
    exact ⟨ret_int (by rw [hinv.2, hat, if_neg (by rw [hE]; decide), hE]), hm.g⟩
   refine wl_set 68 rfl (congrArg Value.bool h7) ?_
   refine wl_guard_on rfl rfl rfl (fd_ fo92_4 rfl rfl (wl_guard_on rfl rfl rfl (lk_ sc3 0 rfl rfl rfl (wl_guard_on rfl rfl rfl ?_))))
   refine wl_callw rfl cb166 rfl rfl (fun wx hm => (in_any _ _ _ wx)) ?_
   refine wl_guard_on rfl rfl rfl (wl_ov (ov_un_not rfl) rfl (pf_ rfl rfl (sg_ rfl (nn_ ?_))))
   refine gw_cond rfl (fun hh => ?_) (fun hh => ?_)
   ·have h8 : (inB od 0 100) = false := by simpa using hh
    clear hh
    refine sr_ (sg_ rfl (nn_ ?_))
    refine gw_ret ?_
    refine nx_blk_ret (nx_blk_ret (nx_then_ret (nx_then_ret (nx_blk_ret (nx_then_ret ?_)))))
    have hE : bookE (prevOf l k) ⟨ke, cl, fr, tt, ma, od⟩ = 1 := by unfold bookE; simp [h2, h3, hO, h4, h5, h6, h7, h8]
    refine nx_ret1 rfl rfl fun wx hm => ?_
    exact ⟨ret_int (by rw [hinv.2, hat, if_neg (by rw [hE]; decide), hE]), hm.g⟩
   have h8 : (inB od 0 100) = true := by simpa using hh
   clear hh
   refine gw_skip (nx_blk_nrm (nx_blk_nrm (nx_then (gw_region ?_))))
   have hE : bookE (prevOf l k) ⟨ke, cl, fr, tt, ma, od⟩ = 0 := by unfold bookE; simp [h2, h3, hO, h4, h5, h6, h7, h8]
   refine ad_ rfl rfl (mv_ rfl (wl_nil ?_))
   exact nx_round (k + 1) ⟨by omega, by rw [hinv.2, hat, if_pos hE]⟩ (by omega) ⟨rfl, rfl, rfl, (some_int (by omega)), trivial⟩ (fun _ hm => hm.pick [] [] [0] rfl rfl)
  obtain ⟨y, hy⟩ : ∃ x, l[k - 1]? = some x := ⟨_, List.getElem?_eq_getElem (by omega)⟩
  obtain ⟨pk, p1, p2, p3, p4, p5⟩ := y
  refine gd (fun wz => Blk wz g1 92 [.string ke, .string cl, .int .i64 fr, .int .i64 tt, .int .i64 ma, .int .i64 od] ∧ (SlOld bkEnc 6 92 w.heap.size none (some ⟨b, off, none⟩) n l) wz ∧ True) mixed (fun _ hm => ⟨hm.bl 0, hm.fa 0, trivial⟩) fun z => ?_
  refine wt 0 14 1 rfl z (ov_move rfl) ?_
  refine wt 1 14 3 rfl z (ov_gtr rfl rfl) ?_
  refine wa_set 28 (v' := .bool true) rfl (congrArg Value.bool (decide_eq_true (by omega))) ?_
  refine wt 2 14 7 rfl z (ov_move rfl) ?_
  refine wto 3 14 15 rfl rfl rfl z (ov_field fo92_0 rfl rfl) ?_
  refine wto 4 14 31 rfl rfl rfl z (ov_load sc9 rfl (fun _ hm => hm.1) rfl) ?_
  refine wto 5 14 63 rfl rfl rfl z (ov_move rfl) ?_
  refine wto 6 14 127 rfl rfl rfl z (ov_move rfl) ?_
  refine wto 7 14 255 rfl rfl rfl z (ov_sub rfl rfl (by omega) (by omega)) ?_
  refine wa_set 34 (v' := .int .i64 ((k - 1 : Nat) : Int)) rfl (congrArg (Value.int .i64) (by omega)) ?_
  refine wto 8 14 511 rfl rfl rfl z (ov_index (j := k - 1) es76 rfl rfl (by omega)) ?_
  refine wto 9 14 1023 rfl rfl rfl z (ov_field fo92_0 rfl rfl) ?_
  refine wto 10 14 2047 rfl rfl rfl z (ov_elem1 (k := 0) (v := .string pk) sc9 rfl (fun _ hm => (hm.2.1).1) hy rfl rfl) ?_
  refine wto 11 14 4095 rfl rfl rfl z (ov_sleq rfl rfl) ?_
  refine wt 12 14 8191 rfl z (ov_pick_t rfl rfl) ?_
  refine wt 13 14 16383 rfl z (ov_assign rfl) ?_
  refine wa_done (by kernel_rfl) ?_
  refine nx_then ?_
  refine gw_cond rfl (fun hh => ?_) (fun hh => ?_)
  ·have h9 : (Op.bytesLess ke.toList pk.toList || ke.toList == pk.toList) = true := by simpa using hh
   clear hh
   refine sr_ ?_
   have hO : leO (prevOf l k) ⟨ke, cl, fr, tt, ma, od⟩ = true := by rw [prevOf_pos hk0 hy]; exact h9
   refine sg_ rfl (nn_ ?_)
   refine gw_ret ?_
   refine nx_blk_ret (nx_blk_ret (nx_then_ret (nx_then_ret (nx_blk_ret (nx_then_ret ?_)))))
   have hE : bookE (prevOf l k) ⟨ke, cl, fr, tt, ma, od⟩ = 7 := by unfold bookE; simp [h2, h3, hO]
   refine nx_ret1 rfl rfl fun wx hm => ?_
   exact ⟨ret_int (by rw [hinv.2, hat, if_neg (by rw [hE]; decide), hE]), hm.g⟩
  have h9 : (Op.bytesLess ke.toList pk.toList || ke.toList == pk.toList) = false := by simpa using hh
  clear hh
  refine sr_ ?_
  have hO : leO (prevOf l k) ⟨ke, cl, fr, tt, ma, od⟩ = false := by rw [prevOf_pos hk0 hy]; exact h9
  refine fd_ fo92_2 rfl rfl (fd_ fo27_0 rfl rfl (lk_ sc3 0 rfl rfl rfl (wl_ov (ov_lss rfl rfl) rfl (mv_ rfl ?_))))
  rcases Bool.eq_false_or_eq_true (decide (fr < 0)) with h4 | h4
  ·refine wl_set 45 rfl (congrArg Value.bool h4) ?_
   replace h4 := of_decide_eq_true h4
   refine goff rfl rfl rfl (goff rfl rfl rfl (goff rfl rfl rfl (goff rfl rfl rfl (goff rfl rfl rfl (goff rfl rfl rfl (goff rfl rfl rfl (pt_ rfl rfl (mv_ rfl (goff rfl rfl rfl (goff rfl rfl rfl (goff rfl rfl rfl (goff rfl rfl rfl (pt_ rfl rfl ?_)))))))))))))
   refine sg_ rfl (nn_ (ct_ rfl (sr_ (sg_ rfl (nn_ ?_)))))
   refine gw_ret ?_
   refine nx_blk_ret (nx_blk_ret (nx_then_ret (nx_then_ret (nx_blk_ret (nx_then_ret ?_)))))
   have hE : bookE (prevOf l k) ⟨ke, cl, fr, tt, ma, od⟩ = 1 := by unfold bookE; simp [h2, h3, hO, h4]
   refine nx_ret1 rfl rfl fun wx hm => ?_
   exact ⟨ret_int (by rw [hinv.2, hat, if_neg (by rw [hE]; decide), hE]), hm.g⟩
  refine wl_set 45 rfl (congrArg Value.bool h4) ?_
  replace h4 := of_decide_eq_false h4
  refine wl_guard_on rfl rfl rfl (fd_ fo92_2 rfl rfl (wl_guard_on rfl rfl rfl (fd_ fo27_0 rfl rfl (wl_guard_on rfl rfl rfl (lk_ sc3 0 rfl rfl rfl (wl_guard_on rfl rfl rfl (fd_ fo92_2 rfl rfl (wl_guard_on rfl rfl rfl (fd_ fo27_1 rfl rfl (wl_guard_on rfl rfl rfl (lk_ sc3 0 rfl rfl rfl (wl_guard_on rfl rfl rfl ?_))))))))))))
  refine wl_ov (ov_geq rfl rfl) rfl ?_
  refine pf_ rfl rfl (mv_ rfl ?_)
  rcases Bool.eq_false_or_eq_true (decide (tt ≤ fr)) with h5 | h5
  ·refine wl_set 54 rfl (congrArg Value.bool h5) ?_
   replace h5 := of_decide_eq_true h5
   refine goff rfl rfl rfl (goff rfl rfl rfl (goff rfl rfl rfl (goff rfl rfl rfl (pt_ rfl rfl (sg_ rfl (nn_ (ct_ rfl (sr_ (sg_ rfl (nn_ ?_))))))))))
   refine gw_ret ?_
   refine nx_blk_ret (nx_blk_ret (nx_then_ret (nx_then_ret (nx_blk_ret (nx_then_ret ?_)))))
   have hE : bookE (prevOf l k) ⟨ke, cl, fr, tt, ma, od⟩ = 1 := by unfold bookE; simp [h2, h3, hO, h4, h5]
   refine nx_ret1 rfl rfl fun wx hm => ?_
   exact ⟨ret_int (by rw [hinv.2, hat, if_neg (by rw [hE]; decide), hE]), hm.g⟩
  refine wl_set 54 rfl (congrArg Value.bool h5) ?_
  replace h5 := of_decide_eq_false h5
  refine wl_guard_on rfl rfl rfl (fd_ fo92_2 rfl rfl (wl_guard_on rfl rfl rfl (fd_ fo27_1 rfl rfl (wl_guard_on rfl rfl rfl (lk_ sc3 0 rfl rfl rfl (wl_guard_on rfl rfl rfl ?_))))))
  refine wl_ov (ov_gtr rfl rfl) rfl ?_
  refine pf_ rfl rfl (sg_ rfl (nn_ ?_))
  refine gw_cond rfl (fun hh => ?_) (fun hh => ?_)
  ·have h6 : 5761439 < tt := by simpa using hh
   clear hh
   refine sr_ (sg_ rfl (nn_ ?_))
   refine gw_ret ?_
   refine nx_blk_ret (nx_blk_ret (nx_then_ret (nx_then_ret (nx_blk_ret (nx_then_ret ?_)))))
   have hE : bookE (prevOf l k) ⟨ke, cl, fr, tt, ma, od⟩ = 1 := by unfold bookE; simp [h2, h3, hO, h4, h5, h6]
   refine nx_ret1 rfl rfl fun wx hm => ?_
   exact ⟨ret_int (by rw [hinv.2, hat, if_neg (by rw [hE]; decide), hE]), hm.g⟩
  have h6 : ¬ (5761439 < tt) := by simpa using hh
  clear hh
  refine sr_ (fd_ fo92_3 rfl rfl (lk_ sc3 0 rfl rfl rfl (fd_ fo92_2 rfl rfl (fd_ fo27_0 rfl rfl (lk_ sc3 0 rfl rfl rfl ?_)))))
  refine wl_callw rfl cb166 rfl rfl (fun wx hm => (in_any _ _ _ wx)) ?_
  refine wl_ov (ov_un_not rfl) rfl (mv_ rfl ?_)
  rcases Bool.eq_false_or_eq_true (!(inB ma 0 fr)) with h7 | h7
  ·refine wl_set 68 rfl (congrArg Value.bool h7) ?_
   refine goff rfl rfl rfl (goff rfl rfl rfl (goff rfl rfl rfl (goff rfl rfl rfl (pt_ rfl rfl (sg_ rfl (nn_ (ct_ rfl (sr_ (sg_ rfl (nn_ ?_))))))))))
   refine gw_ret ?_
   refine nx_blk_ret (nx_blk_ret (nx_then_ret (nx_then_ret (nx_blk_ret (nx_then_ret ?_)))))
   have hE : bookE (prevOf l k) ⟨ke, cl, fr, tt, ma, od⟩ = 1 := by unfold bookE; simp [h2, h3, hO, h4, h5, h6, h7]
   refine nx_ret1 rfl rfl fun wx hm => ?_
   exact ⟨ret_int (by rw [hinv.2, hat, if_neg (by rw [hE]; decide), hE]), hm.g⟩
  refine wl_set 68 rfl (congrArg Value.bool h7) ?_
  refine wl_guard_on rfl rfl rfl (fd_ fo92_4 rfl rfl (wl_guard_on rfl rfl rfl (lk_ sc3 0 rfl rfl rfl (wl_guard_on rfl rfl rfl ?_))))
  refine wl_callw rfl cb166 rfl rfl (fun wx hm => (in_any _ _ _ wx)) ?_
  refine wl_guard_on rfl rfl rfl (wl_ov (ov_un_not rfl) rfl (pf_ rfl rfl (sg_ rfl (nn_ ?_))))
  refine gw_cond rfl (fun hh => ?_) (fun hh => ?_)
  ·have h8 : (inB od 0 100) = false := by simpa using hh
   clear hh
   refine sr_ (sg_ rfl (nn_ ?_))
   refine gw_ret ?_
   refine nx_blk_ret (nx_blk_ret (nx_then_ret (nx_then_ret (nx_blk_ret (nx_then_ret ?_)))))
   have hE : bookE (prevOf l k) ⟨ke, cl, fr, tt, ma, od⟩ = 1 := by unfold bookE; simp [h2, h3, hO, h4, h5, h6, h7, h8]
   refine nx_ret1 rfl rfl fun wx hm => ?_
   exact ⟨ret_int (by rw [hinv.2, hat, if_neg (by rw [hE]; decide), hE]), hm.g⟩
  have h8 : (inB od 0 100) = true := by simpa using hh
  clear hh
  refine gw_skip (nx_blk_nrm (nx_blk_nrm (nx_then (gw_region ?_))))
  have hE : bookE (prevOf l k) ⟨ke, cl, fr, tt, ma, od⟩ = 0 := by unfold bookE; simp [h2, h3, hO, h4, h5, h6, h7, h8]
  refine ad_ rfl rfl (mv_ rfl (wl_nil ?_))
  exact nx_round (k + 1) ⟨by omega, by rw [hinv.2, hat, if_pos hE]⟩ (by omega) ⟨rfl, rfl, rfl, (some_int (by omega)), trivial⟩ (fun _ hm => hm.pick [] [] [0] rfl rfl)
 have hk : ¬ (((k : Nat) : Int) < ((n : Nat) : Int)) := by simpa using hh
 clear hh
 refine gw_exit ?_
 refine nx_then_exit (nx_then_exit ?_)
 refine nx_blk_here ?_
 refine nx_then (sr_ (sg_ rfl (nn_ ?_)))
 refine gw_ret ?_
 refine nx_ret1 rfl rfl fun wx hm => ?_
 exact ⟨ret_int (by rw [hinv.2, scanE_end _ _ _ _ (by omega)]), hm.g⟩
theorem bookingForm_any (l : List Bk) (A : Option Addr) (n c : Nat) (w : World) (hl : SlT bkEnc 6 92 w A n l) (hok : ∀ b ∈ l, BkOk b) (hn : n ≤ 1000000) :
  Calls Tryz.prog 137 #[.slice A n c] w (GotE w (formE l)) := by
 refine gw_enter ⟨69, w, none, []⟩ Tryz.func137 rfl Tryz.ntmps137 rfl (mem0 (X := [SlOld bkEnc 6 92 w.heap.size none A n l]) (allF_cons hl.old allF_nil) (allL_cons SlOld.lasts allL_nil)) ?_
 refine sr_ ?_
 have hlen := hl.len
 refine sg_ rfl (nn_ (gw_seq (sr_ (mv_ rfl (wl_ov (ov_len es76 rfl) rfl ?_)))))
 refine wl_ov (ov_gtr rfl rfl) rfl ?_
 refine nn_ ?_
 refine gw_cond rfl (fun hh => ?_) (fun hh => ?_)
 ·have h1 : 500 < ((n : Nat) : Int) := by simpa using hh
  clear hh
  refine sr_ (sg_ rfl (nn_ ?_))
  refine gw_ret ?_
  refine nx_then_ret ?_
  refine nx_ret1 rfl rfl fun wx hm => ?_
  exact ⟨ret_int (by unfold formE; rw [if_pos (by omega)]), hm.g⟩
 have h1 : ¬ (500 < ((n : Nat) : Int)) := by simpa using hh
 clear hh
 refine gw_skip (nx_then (sr_ (sg_ rfl (nn_ (gw_seq (sr_ (mv_ rfl (wl_ov (ov_len es76 rfl) rfl (mv_ rfl (wl_nil ?_))))))))))
 refine nx_then (gw_block ?_)
 refine gw_loop (γ := Nat) (fun (k : Nat) => k ≤ n ∧ formE l = scanE bookE (prevOf l k) (l.drop k)) (fun (k : Nat) => [(3, .string (prevK l k)), (9, .slice A n c), (10, .int .i64 ((n : Nat) : Int)), (11, .int .i64 ((k : Nat) : Int))]) (fun (k : Nat) => fun _ => True) (fun (k : Nat) => []) (fun (k : Nat) => []) (fun (k : Nat) => [SlOld bkEnc 6 92 w.heap.size none A n l]) (fun (k : Nat) => n - k) 0 ⟨Nat.zero_le _, by unfold formE; rw [if_neg (by omega)]; rfl⟩ ⟨rfl, rfl, rfl, rfl, trivial⟩ (fun _ hm => hm.pick [] [] [0] rfl rfl) ?_
 intro k hinv
 replace hinv : k ≤ n ∧ formE l = scanE bookE (prevOf l k) (l.drop k) := hinv
 refine sr_ (wl_ov (ov_lss rfl rfl) rfl (nn_ (gw_seq ?_)))
 refine gw_cond rfl (fun hh => ?_) (fun hh => ?_)
 ·have hk : ((k : Nat) : Int) < ((n : Nat) : Int) := by simpa using hh
  clear hh
  refine gw_skip (nx_then (gw_seq (gw_block (sr_ ?_))))
  obtain ⟨b, off, hA, _, _⟩ := hl.get (by omega)
  subst hA
  obtain ⟨x, hx⟩ : ∃ x, l[k]? = some x := ⟨_, List.getElem?_eq_getElem (by omega)⟩
  obtain ⟨ke, cl, fr, tt, ma, od⟩ := x
  have hat := scanE_at bookE l k _ hx
  obtain ⟨hk1, hk2⟩ := hok _ (List.mem_of_getElem? hx)
  have hk1 : ke.size ≤ 1000000 := hk1
  have hk2 : cl.size ≤ 1000000 := hk2
  refine wl_ov (ov_index (j := k) es76 rfl rfl (by omega)) rfl ?_
  refine wl_ov (ov_elem (vs := [.string ke, .string cl, .int .i64 fr, .int .i64 tt, .int .i64 ma, .int .i64 od]) rz92 rfl (fun _ hm => (hm.fact 0 rfl).1) hx rfl rfl) rfl ?_
  refine wl_alloc zc92 rfl fun g1 => ?_
  refine wl_stores (cs' := [.string ke, .string cl, .int .i64 fr, .int .i64 tt, .int .i64 ma, .int .i64 od]) 0 rz92 rfl rfl rfl rfl rfl rfl rfl rfl ?_
  refine nn_ (gw_seq (gw_block (sr_ (fd_ fo92_0 rfl rfl (lk_ sc9 0 rfl rfl rfl ?_)))))
  refine wl_callv rfl cb197 rfl rfl (fun wx hm => (key_any _ wx (by omega))) ?_
  refine wl_ov (ov_un_not rfl) rfl (mv_ rfl ?_)
  rcases Bool.eq_false_or_eq_true (!(keyB ke)) with h2 | h2
  ·refine wl_set 20 rfl (congrArg Value.bool h2) ?_
   refine goff rfl rfl rfl (goff rfl rfl rfl (goff rfl rfl rfl (goff rfl rfl rfl (pt_ rfl rfl (sg_ rfl (nn_ (ct_ rfl (sr_ (sg_ rfl (nn_ ?_))))))))))
   refine gw_ret ?_
   refine nx_blk_ret (nx_then_ret (nx_blk_ret (nx_then_ret (nx_then_ret (nx_blk_ret (nx_then_ret ?_))))))
   have hE : bookE (prevOf l k) ⟨ke, cl, fr, tt, ma, od⟩ = 5 := by unfold bookE; simp [h2]
   refine nx_ret1 rfl rfl fun wx hm => ?_
   exact ⟨ret_int (by rw [hinv.2, hat, if_neg (by rw [hE]; decide), hE]), hm.g⟩
  refine wl_set 20 rfl (congrArg Value.bool h2) ?_
  refine wl_guard_on rfl rfl rfl (fd_ fo92_1 rfl rfl (wl_guard_on rfl rfl rfl (lk_ sc9 0 rfl rfl rfl (wl_guard_on rfl rfl rfl ?_))))
  refine wl_callv rfl cb197 rfl rfl (fun wx hm => (key_any _ wx (by omega))) ?_
  refine wl_guard_on rfl rfl rfl (wl_ov (ov_un_not rfl) rfl (pf_ rfl rfl (sg_ rfl (nn_ ?_))))
  refine gw_cond rfl (fun hh => ?_) (fun hh => ?_)
  ·have h3 : (keyB cl) = false := by simpa using hh
   clear hh
   refine sr_ (sg_ rfl (nn_ ?_))
   refine gw_ret ?_
   refine nx_blk_ret (nx_then_ret (nx_blk_ret (nx_then_ret (nx_then_ret (nx_blk_ret (nx_then_ret ?_))))))
   have hE : bookE (prevOf l k) ⟨ke, cl, fr, tt, ma, od⟩ = 5 := by unfold bookE; simp [h2, h3]
   refine nx_ret1 rfl rfl fun wx hm => ?_
   exact ⟨ret_int (by rw [hinv.2, hat, if_neg (by rw [hE]; decide), hE]), hm.g⟩
  have h3 : (keyB cl) = true := by simpa using hh
  clear hh
  refine sr_ (fd_ fo92_0 rfl rfl (lk_ sc9 0 rfl rfl rfl (mv_ rfl ?_)))
  refine wl_ov (ov_sleq rfl rfl) rfl ?_
  refine sg_ rfl (nn_ ?_)
  refine gw_cond rfl (fun hh => ?_) (fun hh => ?_)
  ·have h9 : (Op.bytesLess ke.toList (prevK l k).toList || ke.toList == (prevK l k).toList) = true := by simpa using hh
   clear hh
   refine sr_ ?_
   have hO : leO (prevOf l k) ⟨ke, cl, fr, tt, ma, od⟩ = true := (leO_prevK (b := ⟨ke, cl, fr, tt, ma, od⟩) (by simpa using h2)).symm.trans h9
   refine sg_ rfl (nn_ ?_)
   refine gw_ret ?_
   refine nx_blk_ret (nx_then_ret (nx_blk_ret (nx_then_ret (nx_then_ret (nx_blk_ret (nx_then_ret ?_))))))
   have hE : bookE (prevOf l k) ⟨ke, cl, fr, tt, ma, od⟩ = 7 := by unfold bookE; simp [h2, h3, hO]
   refine nx_ret1 rfl rfl fun wx hm => ?_
   exact ⟨ret_int (by rw [hinv.2, hat, if_neg (by rw [hE]; decide), hE]), hm.g⟩
  have h9 : (Op.bytesLess ke.toList (prevK l k).toList || ke.toList == (prevK l k).toList) = false := by simpa using hh
  clear hh
  refine sr_ ?_
  have hO : leO (prevOf l k) ⟨ke, cl, fr, tt, ma, od⟩ = false := (leO_prevK (b := ⟨ke, cl, fr, tt, ma, od⟩) (by simpa using h2)).symm.trans h9
  refine fd_ fo92_2 rfl rfl (fd_ fo27_0 rfl rfl (lk_ sc3 0 rfl rfl rfl (wl_ov (ov_lss rfl rfl) rfl (mv_ rfl ?_))))
  rcases Bool.eq_false_or_eq_true (decide (fr < 0)) with h4 | h4
  ·refine wl_set 36 rfl (congrArg Value.bool h4) ?_
   replace h4 := of_decide_eq_true h4
   refine goff rfl rfl rfl (goff rfl rfl rfl (goff rfl rfl rfl (goff rfl rfl rfl (goff rfl rfl rfl (goff rfl rfl rfl (goff rfl rfl rfl (pt_ rfl rfl (mv_ rfl (goff rfl rfl rfl (goff rfl rfl rfl (goff rfl rfl rfl (goff rfl rfl rfl (pt_ rfl rfl ?_)))))))))))))
   refine mv_ rfl (goff rfl rfl rfl (goff rfl rfl rfl (goff rfl rfl rfl (goff rfl rfl rfl (goff rfl rfl rfl (goff rfl rfl rfl (goff rfl rfl rfl (pt_ rfl rfl (mv_ rfl (goff rfl rfl rfl (goff rfl rfl rfl (goff rfl rfl rfl (goff rfl rfl rfl ?_)))))))))))))
   refine pt_ rfl rfl (sg_ rfl (nn_ (ct_ rfl (sr_ (sg_ rfl (nn_ ?_))))))
   refine gw_ret ?_
   refine nx_blk_ret (nx_then_ret (nx_blk_ret (nx_then_ret (nx_then_ret (nx_blk_ret (nx_then_ret ?_))))))
   have hE : bookE (prevOf l k) ⟨ke, cl, fr, tt, ma, od⟩ = 1 := by unfold bookE; simp [h2, h3, hO, h4]
   refine nx_ret1 rfl rfl fun wx hm => ?_
   exact ⟨ret_int (by rw [hinv.2, hat, if_neg (by rw [hE]; decide), hE]), hm.g⟩
  refine wl_set 36 rfl (congrArg Value.bool h4) ?_
  replace h4 := of_decide_eq_false h4
  refine wl_guard_on rfl rfl rfl (fd_ fo92_2 rfl rfl (wl_guard_on rfl rfl rfl (fd_ fo27_0 rfl rfl (wl_guard_on rfl rfl rfl (lk_ sc3 0 rfl rfl rfl (wl_guard_on rfl rfl rfl (fd_ fo92_2 rfl rfl (wl_guard_on rfl rfl rfl (fd_ fo27_1 rfl rfl (wl_guard_on rfl rfl rfl (lk_ sc3 0 rfl rfl rfl (wl_guard_on rfl rfl rfl ?_))))))))))))
  refine wl_ov (ov_geq rfl rfl) rfl ?_
  refine pf_ rfl rfl (mv_ rfl ?_)
  rcases Bool.eq_false_or_eq_true (decide (tt ≤ fr)) with h5 | h5
  ·refine wl_set 45 rfl (congrArg Value.bool h5) ?_
   replace h5 := of_decide_eq_true h5
   refine goff rfl rfl rfl (goff rfl rfl rfl (goff rfl rfl rfl (goff rfl rfl rfl (pt_ rfl rfl (mv_ rfl (goff rfl rfl rfl (goff rfl rfl rfl (goff rfl rfl rfl (goff rfl rfl rfl (goff rfl rfl rfl (goff rfl rfl rfl (goff rfl rfl rfl (pt_ rfl rfl ?_)))))))))))))
   refine mv_ rfl (goff rfl rfl rfl (goff rfl rfl rfl (goff rfl rfl rfl (goff rfl rfl rfl (pt_ rfl rfl (sg_ rfl (nn_ (ct_ rfl (sr_ (sg_ rfl (wl_nil ?_)))))))))))
   refine nx_then ?_
   refine gw_ret ?_
   refine nx_blk_ret (nx_then_ret (nx_blk_ret (nx_then_ret (nx_then_ret (nx_blk_ret (nx_then_ret ?_))))))
   have hE : bookE (prevOf l k) ⟨ke, cl, fr, tt, ma, od⟩ = 1 := by unfold bookE; simp [h2, h3, hO, h4, h5]
   refine nx_ret1 rfl rfl fun wx hm => ?_
   exact ⟨ret_int (by rw [hinv.2, hat, if_neg (by rw [hE]; decide), hE]), hm.g⟩
  refine wl_set 45 rfl (congrArg Value.bool h5) ?_
  replace h5 := of_decide_eq_false h5
  refine wl_guard_on rfl rfl rfl (fd_ fo92_2 rfl rfl (wl_guard_on rfl rfl rfl (fd_ fo27_1 rfl rfl (wl_guard_on rfl rfl rfl (lk_ sc3 0 rfl rfl rfl (wl_guard_on rfl rfl rfl ?_))))))
  refine wl_ov (ov_gtr rfl rfl) rfl ?_
  refine pf_ rfl rfl (mv_ rfl ?_)
  rcases Bool.eq_false_or_eq_true (decide (5761439 < tt)) with h6 | h6
  ·refine wl_set 51 rfl (congrArg Value.bool h6) ?_
   replace h6 := of_decide_eq_true h6
   refine goff rfl rfl rfl (goff rfl rfl rfl (goff rfl rfl rfl (goff rfl rfl rfl (goff rfl rfl rfl (goff rfl rfl rfl (goff rfl rfl rfl (pt_ rfl rfl (mv_ rfl (goff rfl rfl rfl (goff rfl rfl rfl (goff rfl rfl rfl (goff rfl rfl rfl (pt_ rfl rfl ?_)))))))))))))
   refine sg_ rfl (nn_ (ct_ rfl (sr_ (sg_ rfl (nn_ ?_)))))
   refine gw_ret ?_
   refine nx_blk_ret (nx_then_ret (nx_blk_ret (nx_then_ret (nx_then_ret (nx_blk_ret (nx_then_ret ?_))))))
   have hE : bookE (prevOf l k) ⟨ke, cl, fr, tt, ma, od⟩ = 1 := by unfold bookE; simp [h2, h3, hO, h4, h5, h6]
   refine nx_ret1 rfl rfl fun wx hm => ?_
   exact ⟨ret_int (by rw [hinv.2, hat, if_neg (by rw [hE]; decide), hE]), hm.g⟩
  refine wl_set 51 rfl (congrArg Value.bool h6) ?_
  replace h6 := of_decide_eq_false h6
  refine wl_guard_on rfl rfl rfl (fd_ fo92_3 rfl rfl (wl_guard_on rfl rfl rfl (lk_ sc3 0 rfl rfl rfl (wl_guard_on rfl rfl rfl (fd_ fo92_2 rfl rfl (wl_guard_on rfl rfl rfl (fd_ fo27_0 rfl rfl (wl_guard_on rfl rfl rfl (lk_ sc3 0 rfl rfl rfl (wl_guard_on rfl rfl rfl ?_))))))))))
  refine wl_callw rfl cb154 rfl rfl (fun wx hm => (rin_any _ _ _ wx)) ?_
  refine wl_guard_on rfl rfl rfl (wl_ov (ov_un_not rfl) rfl (pf_ rfl rfl (mv_ rfl ?_)))
  rcases Bool.eq_false_or_eq_true (!(inB ma 0 fr)) with h7 | h7
  ·refine wl_set 60 rfl (congrArg Value.bool h7) ?_
   refine goff rfl rfl rfl (goff rfl rfl rfl (goff rfl rfl rfl (goff rfl rfl rfl (pt_ rfl rfl (sg_ rfl (nn_ (ct_ rfl (sr_ (sg_ rfl (nn_ ?_))))))))))
   refine gw_ret ?_
   refine nx_blk_ret (nx_then_ret (nx_blk_ret (nx_then_ret (nx_then_ret (nx_blk_ret (nx_then_ret ?_))))))
   have hE : bookE (prevOf l k) ⟨ke, cl, fr, tt, ma, od⟩ = 1 := by unfold bookE; simp [h2, h3, hO, h4, h5, h6, h7]
   refine nx_ret1 rfl rfl fun wx hm => ?_
   exact ⟨ret_int (by rw [hinv.2, hat, if_neg (by rw [hE]; decide), hE]), hm.g⟩
  refine wl_set 60 rfl (congrArg Value.bool h7) ?_
  refine wl_guard_on rfl rfl rfl (fd_ fo92_4 rfl rfl (wl_guard_on rfl rfl rfl (lk_ sc3 0 rfl rfl rfl (wl_guard_on rfl rfl rfl ?_))))
  refine wl_callw rfl cb154 rfl rfl (fun wx hm => (rin_any _ _ _ wx)) ?_
  refine wl_guard_on rfl rfl rfl (wl_ov (ov_un_not rfl) rfl (pf_ rfl rfl (sg_ rfl (nn_ ?_))))
  refine gw_cond rfl (fun hh => ?_) (fun hh => ?_)
  ·have h8 : (inB od 0 100) = false := by simpa using hh
   clear hh
   refine sr_ (sg_ rfl (nn_ ?_))
   refine gw_ret ?_
   refine nx_blk_ret (nx_then_ret (nx_blk_ret (nx_then_ret (nx_then_ret (nx_blk_ret (nx_then_ret ?_))))))
   have hE : bookE (prevOf l k) ⟨ke, cl, fr, tt, ma, od⟩ = 1 := by unfold bookE; simp [h2, h3, hO, h4, h5, h6, h7, h8]
   refine nx_ret1 rfl rfl fun wx hm => ?_
   exact ⟨ret_int (by rw [hinv.2, hat, if_neg (by rw [hE]; decide), hE]), hm.g⟩
  have h8 : (inB od 0 100) = true := by simpa using hh
  clear hh
  refine gw_skip (nx_blk_nrm (nx_then (gw_region ?_)))
  have hE : bookE (prevOf l k) ⟨ke, cl, fr, tt, ma, od⟩ = 0 := by unfold bookE; simp [h2, h3, hO, h4, h5, h6, h7, h8]
  refine fd_ fo92_0 rfl rfl (lk_ sc9 0 rfl rfl rfl (sg_ rfl (wl_nil (nx_blk_nrm (nx_then (gw_region (ad_ rfl rfl (mv_ rfl (wl_nil ?_)))))))))
  exact nx_round (k + 1) ⟨by omega, by rw [hinv.2, hat, if_pos hE]⟩ (by omega) ⟨(congrArg (fun z => some (Value.string z)) (prevK_succ hx).symm), rfl, rfl, (some_int (by omega)), trivial⟩ (fun _ hm => hm.pick [] [] [0] rfl rfl)
 have hk : ¬ (((k : Nat) : Int) < ((n : Nat) : Int)) := by simpa using hh
 clear hh
 refine gw_exit ?_
 refine nx_then_exit (nx_then_exit ?_)
 refine nx_blk_here ?_
 refine nx_then (sr_ (sg_ rfl (nn_ ?_)))
 refine gw_ret ?_
 refine nx_ret1 rfl rfl fun wx hm => ?_
 exact ⟨ret_int (by rw [hinv.2, scanE_end _ _ _ _ (by omega)]), hm.g⟩
end Go.Proofs.YtempjmpfdniecaaGreatDoor
namespace Go.Proofs.YtempjmpfdniecaaGreatDoor
/-- How many times are on at a moment. -/
def onT (T : List (Int × Int)) (x : Int) : Nat := T.countP (fun t => inB x t.1 (t.2 - 1))
theorem on_iff {t : Int × Int} {x : Int} : inB x t.1 (t.2 - 1) = true ↔ (t.1 ≤ x ∧ x < t.2) := by
  rw [inB_iff]; omega
theorem onT_pos {T : List (Int × Int)} {x : Int} (h : 0 < onT T x) : ∃ t ∈ T, t.1 ≤ x ∧ x < t.2 := by
  unfold onT at h
  obtain ⟨t, ht, h2⟩ := List.countP_pos_iff.1 h
  exact ⟨t, ht, on_iff.1 h2⟩
/-- Of those that are on, one began last. -/
theorem latest : ∀ (T : List (Int × Int)) (x : Int), (∃ t ∈ T, t.1 ≤ x ∧ x < t.2) → ∃ t ∈ T, (t.1 ≤ x ∧ x < t.2) ∧ ∀ u ∈ T, (u.1 ≤ x ∧ x < u.2) → u.1 ≤ t.1
  | [], _, ⟨_, h, _⟩ => by cases h
  | t :: r, x, h => by
    by_cases hr : ∃ u ∈ r, u.1 ≤ x ∧ x < u.2
    · obtain ⟨u, hu, h1, h2⟩ := latest r x hr
      by_cases ht : (t.1 ≤ x ∧ x < t.2) ∧ u.1 < t.1
      · refine ⟨t, List.mem_cons_self .., ht.1, fun v hv hon => ?_⟩
        rcases List.mem_cons.1 hv with rfl | hv
        · omega
        · have := h2 v hv hon; omega
      · refine ⟨u, List.mem_cons_of_mem _ hu, h1, fun v hv hon => ?_⟩
        rcases List.mem_cons.1 hv with rfl | hv
        · omega
        · exact h2 v hv hon
    · obtain ⟨u, hu, hon⟩ := h
      rcases List.mem_cons.1 hu with rfl | hu
      · refine ⟨u, List.mem_cons_self .., hon, fun v hv hv2 => ?_⟩
        rcases List.mem_cons.1 hv with rfl | hv
        · omega
        · exact absurd ⟨v, hv, hv2⟩ hr
      · exact absurd ⟨u, hu, hon⟩ hr
/-- The number does not fall from the last beginning on. -/
theorem onT_dom {T : List (Int × Int)} {x : Int} (h : 0 < onT T x) : ∃ t ∈ T, t.1 ≤ x ∧ ∀ z, t.1 ≤ z → z ≤ x → onT T x ≤ onT T z := by
  obtain ⟨t, ht, h1, h2⟩ := latest T x (onT_pos h)
  refine ⟨t, ht, h1.1, fun z hz1 hz2 => ?_⟩
  unfold onT
  refine List.countP_mono_left fun u hu hon => ?_
  have h3 := on_iff.1 hon
  have h4 := h2 u hu h3
  exact on_iff.2 (by omega)
theorem onT_le (T : List (Int × Int)) (x : Int) : onT T x ≤ T.length := List.countP_le_length
/-- One moment more is looked at. -/
def busyS (f : Int → Nat) (st : Int × Int) (x : Int) : Int × Int := if st.1 < (f x : Int) then ((f x : Int), x) else st
def busyF (f : Int → Nat) (S : List Int) : Int × Int := S.foldl (busyS f) (-1, 0)
theorem busyF_take {f : Int → Nat} {S : List Int} {k : Nat} {x : Int} (h : S[k]? = some x) : busyF f (S.take (k + 1)) = busyS f (busyF f (S.take k)) x := by
  unfold busyF
  rw [List.take_add_one, h, List.foldl_append]; rfl
/-- n is the greatest number at the moments M, at the least such moment. -/
def IsTopM (f : Int → Nat) (M : List Int) (st : Int × Int) : Prop := st.2 ∈ M ∧ (f st.2 : Int) = st.1 ∧ ∀ x ∈ M, (f x : Int) ≤ st.1 ∧ ((f x : Int) = st.1 → st.2 ≤ x)
theorem busyF_top {f : Int → Nat} {S : List Int} (hs : S.Pairwise (fun a b => a ≤ b)) : ∀ k, k < S.length → IsTopM f (S.take (k + 1)) (busyF f (S.take (k + 1)))
  | 0, h => by
    cases S with
    | nil => simp at h
    | cons x r =>
      have e : busyF f ((x :: r).take (0 + 1)) = ((f x : Int), x) := by
        show busyS f (-1, 0) x = _
        unfold busyS
        rw [if_pos (by dsimp only; omega)]
      rw [e]
      refine ⟨by simp, rfl, fun y hy => ?_⟩
      have hyx : y = x := by simpa using hy
      subst hyx
      exact ⟨Int.le_refl _, fun _ => Int.le_refl _⟩
  | k + 1, h => by
    have ih := busyF_top (f := f) hs k (by omega)
    have hx : S[k + 1]? = some (S[k + 1]) := List.getElem?_eq_getElem h
    have hle : ∀ y ∈ S.take (k + 1), y ≤ S[k + 1] := fun y hy => by
      obtain ⟨i, hi, rfl⟩ := List.getElem_of_mem hy
      rw [List.length_take] at hi
      rw [List.getElem_take]
      exact List.pairwise_iff_getElem.1 hs i (k + 1) (by omega) h (by omega)
    rw [busyF_take hx]
    generalize S[k + 1] = x at *
    generalize busyF f (S.take (k + 1)) = st at *
    obtain ⟨h1, h2, h3⟩ := ih
    rw [List.take_add_one, hx]
    unfold busyS
    by_cases hc : st.1 < (f x : Int)
    · rw [if_pos hc]
      refine ⟨by simp, rfl, fun y hy => ?_⟩
      dsimp only
      rcases List.mem_append.1 hy with hy | hy
      · have := (h3 y hy).1
        exact ⟨by omega, fun e => by omega⟩
      · have hyx : y = x := by simpa using hy
        subst hyx
        exact ⟨Int.le_refl _, fun _ => Int.le_refl _⟩
    · rw [if_neg hc]
      refine ⟨List.mem_append_left _ h1, h2, fun y hy => ?_⟩
      rcases List.mem_append.1 hy with hy | hy
      · exact h3 y hy
      · have hyx : y = x := by simpa using hy
        subst hyx
        exact ⟨by omega, fun _ => hle _ h1⟩
theorem busyF_all {f : Int → Nat} {S : List Int} (hs : S.Pairwise (fun a b => a ≤ b)) (hn : 0 < S.length) : IsTopM f S (busyF f S) := by
  have h := busyF_top (f := f) hs (S.length - 1) (by omega)
  rw [show S.length - 1 + 1 = S.length by omega, List.take_length] at h
  exact h
end Go.Proofs.YtempjmpfdniecaaGreatDoor
namespace Go.Proofs.YtempjmpfdniecaaGreatDoor
open Go.RowKit
section
variable {P : Program} {c : Cx} {ops : Array Oper} {Q : Exit → Act → World → Prop} {rest : List Oper} {S : List (Nat × Value)} {K : World → Prop} {L : List (Nat × TypeId × List Value)} {O : List Own} {X : List (World → Prop)}
variable {d : Nat} {ty : TypeId} {pos : String} {aft : Array Edge}
theorem wl_callr {f : FuncId} {x : Operand} {ags : List Operand} {ats : Array TypeId} {vs fs cs : List Value} {v : Value} {r : Own} {xs' : List Value} (i : Nat) (hO : O[i]? = some r) (hT : c.Tt.contains r.e = false) (hx : rd S x = some (.func (.func f) fs.toArray cs.toArray)) (hf : callableB P f = true) (ha : evArgs S ags = some vs) (hd : Nat.ble (d + 1) c.n = true)
    (hC : ∀ w, Mem c K L O X w → Calls P f (fs ++ vs ++ cs).toArray w (fun e w' => e = .returned v ∧ w'.ownsRow c.w0.heap.size r.e r.sz r.v r.n xs' ∧ w.grownBy w' r.v.ownBlock)) (h : WL P c ops Q rest ((d, v) :: S) K L (setOwn ⟨r.v, r.e, r.sz, r.n, xs'⟩ O i) X) :
    WL P c ops Q (⟨some d, .call ⟨.value x, ags.toArray, ats⟩, ty, pos, aft, none⟩ :: rest) S K L O X :=
  wl_callG (γ := Unit) (val := fun _ => v) (φ := fun _ => True) (K' := fun _ => K) (L' := fun _ => L) (O' := fun _ => setOwn ⟨r.v, r.e, r.sz, r.n, xs'⟩ O i) (X' := fun _ => X) hx hf ha hd (fun w hm => (hC w hm).mono fun _ _ ⟨he, ho, hg⟩ => ⟨(), he, trivial, hm.append hO hT ho hg (.inl rfl)⟩) (fun _ _ => h)
end
end Go.Proofs.YtempjmpfdniecaaGreatDoor
namespace Go.Proofs
open Go.Shelf
def Tryz.lays189_ren : Go.Shelf.Ren := ⟨fun | 189 => 136 | 125 => 195 | 257 => 231 | 128 => 262 | 129 => 263 | 294 => 285 | 295 => 286 | 296 => 287 | 297 => 288 | 298 => 289 | 299 => 290 | 216 => 291 | 300 => 292 | 301 => 293 | 328 => 328 | 329 => 309 | 330 => 310 | 331 => 329 | 332 => 330 | 215 => 183 | 343 => 361 | n => n, fun | 28 => 22 | 3 => 3 | 46 => 247 | 0 => 0 | 51 => 298 | 53 => 300 | 4 => 4 | 183 => 292 | 182 => 291 | 131 => 99 | 5 => 5 | 9 => 9 | 218 => 329 | 222 => 333 | 228 => 359 | 229 => 342 | n => n, fun | n => n⟩
theorem Tryz.lays189 : Go.Proofs.Lays.n189 Tryz.prog Tryz.lays189_ren := {
  mixed := by kernel_rfl
  f125 := Tryz.func195.trans (congrArg some (by kernel_rfl))
  f128 := Tryz.func262.trans (congrArg some (by kernel_rfl))
  f129 := Tryz.func263.trans (congrArg some (by kernel_rfl))
  f189 := Tryz.func136.trans (congrArg some (by kernel_rfl))
  f215 := Tryz.func183.trans (congrArg some (by kernel_rfl))
  f216 := Tryz.func291.trans (congrArg some (by kernel_rfl))
  f257 := Tryz.func231.trans (congrArg some (by kernel_rfl))
  f294 := Tryz.func285.trans (congrArg some (by kernel_rfl))
  f295 := Tryz.func286.trans (congrArg some (by kernel_rfl))
  f296 := Tryz.func287.trans (congrArg some (by kernel_rfl))
  f297 := Tryz.func288.trans (congrArg some (by kernel_rfl))
  f298 := Tryz.func289.trans (congrArg some (by kernel_rfl))
  f299 := Tryz.func290.trans (congrArg some (by kernel_rfl))
  f300 := Tryz.func292.trans (congrArg some (by kernel_rfl))
  f301 := Tryz.func293.trans (congrArg some (by kernel_rfl))
  f328 := Tryz.func328.trans (congrArg some (by kernel_rfl))
  f329 := Tryz.func309.trans (congrArg some (by kernel_rfl))
  f330 := Tryz.func310.trans (congrArg some (by kernel_rfl))
  f331 := Tryz.func329.trans (congrArg some (by kernel_rfl))
  f332 := Tryz.func330.trans (congrArg some (by kernel_rfl))
  f343 := Tryz.func361.trans (congrArg some (by kernel_rfl))
  t0 := Tryz.underlying0
  a0 := Tryz.isAgg0
  z0 := Tryz.sizeOf0
  v0 := Tryz.zeroValue0
  t3 := Tryz.underlying3
  a3 := Tryz.isAgg3
  z3 := Tryz.sizeOf3
  v3 := Tryz.zeroValue3
  t4 := Tryz.underlying4
  a4 := Tryz.isAgg4
  z4 := Tryz.sizeOf4
  v4 := Tryz.zeroValue4
  t5 := Tryz.underlying5
  a5 := Tryz.isAgg5
  z5 := Tryz.sizeOf5
  v5 := Tryz.zeroValue5
  t9 := Tryz.underlying9
  a9 := Tryz.isAgg9
  z9 := Tryz.sizeOf9
  v9 := Tryz.zeroValue9
  t28 := Tryz.underlying22
  a28 := Tryz.isAgg22
  z28 := Tryz.sizeOf22
  v28 := Tryz.zeroValue22
  t46 := Tryz.underlying247
  a46 := Tryz.isAgg247
  z46 := Tryz.sizeOf247
  v46 := Tryz.zeroValue247
  t51 := Tryz.underlying298
  a51 := Tryz.isAgg298
  z51 := Tryz.sizeOf298
  v51 := Tryz.zeroValue298
  t53 := Tryz.underlying300
  a53 := Tryz.isAgg300
  z53 := Tryz.sizeOf300
  v53 := Tryz.zeroValue300
  t131 := Tryz.underlying99
  a131 := Tryz.isAgg99
  z131 := Tryz.sizeOf99
  v131 := Tryz.zeroValue99
  t182 := Tryz.underlying291
  a182 := Tryz.isAgg291
  z182 := Tryz.sizeOf291
  v182 := Tryz.zeroValue291
  t183 := Tryz.underlying292
  a183 := Tryz.isAgg292
  z183 := Tryz.sizeOf292
  v183 := Tryz.zeroValue292
  t218 := Tryz.underlying329
  a218 := Tryz.isAgg329
  z218 := Tryz.sizeOf329
  v218 := Tryz.zeroValue329
  t222 := Tryz.underlying333
  a222 := Tryz.isAgg333
  z222 := Tryz.sizeOf333
  v222 := Tryz.zeroValue333
  t228 := Tryz.underlying359
  a228 := Tryz.isAgg359
  z228 := Tryz.sizeOf359
  v228 := Tryz.zeroValue359
  t229 := Tryz.underlying342
  a229 := Tryz.isAgg342
  z229 := Tryz.sizeOf342
  v229 := Tryz.zeroValue342 }
end Go.Proofs
namespace Go.Proofs.YtempjmpfdniecaaGreatDoor
open Go.RowKit Go.Sort
def iEnc (z : Int) : List Value := [.int .i64 z]
theorem i_len (z : Int) : (iEnc z).length = 1 := rfl
theorem i_flat : ∀ l : List Int, l.flatMap iEnc = l.map (Value.int .i64)
  | [] => rfl
  | x :: r => by rw [List.flatMap_cons, i_flat r]; rfl
def sortI (l : List Int) : List Int := l.mergeSort fun x y => decide (x ≤ y)
theorem sortI_len (l : List Int) : (sortI l).length = l.length := by unfold sortI; simp
theorem sortI_mem {l : List Int} {x : Int} : x ∈ sortI l ↔ x ∈ l := by unfold sortI; simp
theorem sortI_pair (l : List Int) : (sortI l).Pairwise (fun a b => a ≤ b) := by
  have h := List.pairwise_mergeSort (le := fun x y : Int => decide (x ≤ y)) (fun a b c h1 h2 => by simp at *; omega) (fun a b => by simp; omega) l
  exact h.imp (fun h => by simpa using h)
theorem sort_own (zs : List Int) (g n cap base : Nat) (w : World) (h : w.ownsRow base 3 1 (.slice (some ⟨g, 0, none⟩) n cap) n (zs.flatMap iEnc)) (hn : zs.length = n) (hn1 : n ≤ 1000000) :
    Calls Tryz.prog 136 #[.slice (some ⟨g, 0, none⟩) n cap] w (fun e w' => e = .returned (.tuple #[]) ∧ w'.ownsRow base 3 1 (.slice (some ⟨g, 0, none⟩) n cap) n ((sortI zs).flatMap iEnc) ∧ w.grownBy w' (some g)) := by
  subst hn
  obtain ⟨h1, h2⟩ := h
  rcases h2 with ⟨h2, _⟩ | ⟨g', cap', cur, hv, hbase, hh, hle, hmax, hcs, htk⟩
  · cases h2
  · injection hv with hA _ hc
    have hgg : g' = g := by injection hA with hA; injection hA with hA; exact hA.symm
    subst hgg hc
    rw [Nat.mul_one] at hcs htk
    have hcell : ∀ j, j < zs.length → cur[j]? = some (Value.int .i64 zs[j]!) := fun j hj => by
      have h3 : (cur.toList.take zs.length)[j]? = some (Value.int .i64 zs[j]!) := by
        rw [htk, i_flat, List.getElem?_map, List.getElem?_eq_getElem hj, Option.map_some]
        congr 2
        exact (getElem!_pos zs j hj).symm
      rw [List.getElem?_take, if_pos (by omega)] at h3
      simpa using h3
    have hH : Holds (Value.int .i64) w g' 0 zs.toArray := fun j hj => by
      have hj' : j < zs.length := by simpa using hj
      refine ⟨?_, ?_⟩
      · rw [Nat.zero_add, cell_of_row w g' j cur _ (0, 0) hh, hcell j hj']
        simp [hj']
      · exact frozen_of_row w g' (0 + j) cur _ hh
    have hblk : g' < w.heap.size := (Array.getElem?_eq_some_iff.1 hh).1
    have hcon := Any.slices_Sort_int Tryz.lays189 g' 0 cap zs w hH hblk (by omega)
    refine Calls.mono hcon ?_
    rintro e w' ⟨rfl, m, os, rfl⟩
    have hsz : (zs.mergeSort fun x y => decide (x ≤ y)).toArray.size = zs.length := by simp
    have hnew : (grow (putRow (Value.int .i64) (Sort.ahead w m) g' 0 (zs.mergeSort fun x y => decide (x ≤ y)).toArray) os).heap[g']? = some (.cells (putCells (Value.int .i64) 0 (zs.mergeSort fun x y => decide (x ≤ y)).toArray cur) 3 (0, 0)) := by
      unfold grow putRow mapBlock Sort.ahead
      simp only
      rw [Array.getElem?_append_left (by simpa using hblk), Array.getElem?_modify, if_pos rfl, hh]; rfl
    refine ⟨rfl, ⟨by rw [i_flat, List.length_map, sortI_len, Nat.mul_one], .inr ⟨g', cap, _, rfl, hbase, hnew, hle, hmax, by simp [putCells, hcs], ?_⟩⟩, ⟨rfl, rfl, rfl, by simp [grow, putRow, mapBlock], fun k hk hne => ?_⟩⟩
    · rw [i_flat, Nat.mul_one]
      refine List.ext_getElem? fun j => ?_
      rw [List.getElem?_take]
      by_cases hj : j < zs.length
      · have hjc : j < cur.size := by omega
        have hj2 : j < (sortI zs).length := by rw [sortI_len]; omega
        rw [if_pos hj, List.getElem?_map, List.getElem?_eq_getElem hj2]
        unfold putCells
        simp only [Array.getElem?_toList, Array.getElem?_mapIdx]
        rw [Array.getElem?_eq_getElem hjc]
        simp only [Option.map_some]
        rw [if_pos (by rw [hsz]; omega)]
        congr 2
        simp only [Nat.sub_zero]
        rw [getElem!_pos _ j (by rw [hsz]; omega)]
        rfl
      · rw [if_neg hj, List.getElem?_eq_none (by rw [List.length_map, sortI_len]; omega)]
    · unfold grow putRow mapBlock Sort.ahead
      simp only
      rw [Array.getElem?_append_left (by simpa using hk), Array.getElem?_modify, if_neg (fun e => hne (by rw [e]))]
end Go.Proofs.YtempjmpfdniecaaGreatDoor
namespace Go.Proofs.YtempjmpfdniecaaGreatDoor
open Go.RowKit
/-- A booking that the generators draw. -/
def BkB (b : Bk) : Prop := b.key.size ≤ 100 ∧ b.cls.size ≤ 100 ∧ (-2000000000000000 ≤ b.fr ∧ b.fr ≤ 2000000000000000) ∧ (-2000000000000000 ≤ b.to_ ∧ b.to_ ≤ 2000000000000000) ∧ (-2000000000000000 ≤ b.made ∧ b.made ≤ 2000000000000000) ∧ (-2000000000000000 ≤ b.odds ∧ b.odds ≤ 2000000000000000)
theorem bkB_ok {b : Bk} (h : BkB b) : BkOk b := ⟨by have := h.1; omega, by have := h.2.1; omega⟩
theorem bk_snoc {l : List Bk} {x : Bk} (h : ∀ y ∈ l, BkB y) (h1 : BkB x) : ∀ y ∈ l ++ [x], BkB y := fun y hy => by
  rcases List.mem_append.1 hy with hy | hy
  · exact h y hy
  · rw [List.mem_singleton.1 hy]; exact h1
theorem bk_set {l : List Bk} {x : Bk} {j : Nat} (h : ∀ y ∈ l, BkB y) (h1 : BkB x) : ∀ y ∈ l.set j x, BkB y := fun y hy => by
  rcases List.mem_or_eq_of_mem_set hy with hy | rfl
  · exact h y hy
  · exact h1
theorem gbookings_ownQ (q : Nat) (w : World) (B sb m : Nat) (hS : Strm 25 w B sb m) (hm : m ≤ 100000000) (hq : q ≤ 9) :
  Calls Tryz.prog 48 #[.pointer (some ⟨sb, 0, none⟩), .int .i64 ((q : Nat) : Int)] w (fun e w' => ∃ (A : Option Addr) (n c : Nat) (l : List Bk), e = .returned (.slice A n c) ∧ w'.ownsRow w.heap.size 92 6 (.slice A n c) n (l.flatMap bkEnc) ∧ l.length = n ∧ (∀ x ∈ l, BkB x) ∧ n ≤ q ∧ n ≤ c ∧ Strm 25 w' B sb (m + 1000) ∧ w.grownBy w' (some sb)) := by
 refine gw_enter ⟨99, w, (some sb), []⟩ Tryz.func48 rfl Tryz.ntmps48 rfl (memS (X := []) hS allF_nil allL_nil) ?_
 refine sr_ ?_
 refine wl_nilOwn 92 6 ?_
 refine sg_ rfl (nn_ (sr_ (sg_ rfl (nn_ (gw_seq (sr_ ?_))))))
 refine wl_buildSlice (e := 9) (cs := [.string ⟨#[98, 97]⟩, .string ⟨#[98, 98]⟩, .string ⟨#[98, 99]⟩, .string ⟨#[98, 100]⟩, .string ⟨#[98, 101]⟩, .string ⟨#[98, 102]⟩, .string ⟨#[98, 103]⟩, .string ⟨#[98, 104]⟩, .string ⟨#[98, 105]⟩]) rfl (by kernel_rfl) rfl fun g1 => ?_
 refine mv_ rfl ?_
 refine wl_ov (ov_min rfl rfl) rfl ?_
 refine wl_set 12 (v' := .int .i64 ((q : Nat) : Int)) rfl (congrArg (Value.int .i64) (by omega)) ?_
 refine wl_ov (ov_sliceHi (hi := q) es103 rfl rfl rfl (by omega)) rfl ?_
 refine wl_ov (ov_len es103 rfl) rfl (mv_ rfl (nn_ (gw_block ?_)))
 refine gw_loop (γ := Nat × Value × List Bk × List Value) (fun g => g.1 ≤ q ∧ g.2.2.1.length = g.1 ∧ (∀ x ∈ g.2.2.1, BkB x) ∧ (g.2.1 = .slice none 0 0 ∨ 0 < g.1) ∧ g.2.2.2 = g.2.2.1.flatMap bkEnc) (fun g => [(0, .pointer (some ⟨sb, 0, none⟩)), (4, .slice none 0 0), (5, g.2.1), (13, .slice (some ⟨g1, 0, none⟩) q 9), (14, .int .i64 ((q : Nat) : Int)), (15, .int .i64 ((g.1 : Nat) : Int))]) (fun g => fun w => Strm 25 w B sb (m + 20 * g.1)) (fun g => [(g1, 9, [.string ⟨#[98, 97]⟩, .string ⟨#[98, 98]⟩, .string ⟨#[98, 99]⟩, .string ⟨#[98, 100]⟩, .string ⟨#[98, 101]⟩, .string ⟨#[98, 102]⟩, .string ⟨#[98, 103]⟩, .string ⟨#[98, 104]⟩, .string ⟨#[98, 105]⟩])]) (fun g => [⟨g.2.1, 92, 6, g.1, g.2.2.2⟩]) (fun g => []) (fun g => q - g.1) (0, .slice none 0 0, [], []) ⟨Nat.zero_le _, rfl, (fun _ h => by cases h), .inl rfl, rfl⟩ ⟨rfl, rfl, rfl, rfl, rfl, rfl, trivial⟩ (fun _ hm => (hm.more rfl (by first | omega | (dsimp only; omega))).pick [0] [0] [] rfl rfl) ?_
 rintro ⟨k, v, l, xs⟩ hinv
 replace hinv : k ≤ q ∧ l.length = k ∧ (∀ x ∈ l, BkB x) ∧ (v = .slice none 0 0 ∨ 0 < k) ∧ xs = l.flatMap bkEnc := hinv
 dsimp only
 refine sr_ ?_
 obtain ⟨hi0, hi2, hi3, hi4, rfl⟩ := hinv
 refine wl_ov (ov_lss rfl rfl) rfl (nn_ (gw_seq ?_))
 refine gw_cond rfl (fun hh => ?_) (fun hh => ?_)
 ·have hk : ((k : Nat) : Int) < ((q : Nat) : Int) := by simpa using hh
  clear hh
  refine gw_skip (nx_then (gw_seq (gw_block (sr_ ?_))))
  obtain ⟨nm, hx⟩ : ∃ x, ([⟨#[98, 97]⟩, ⟨#[98, 98]⟩, ⟨#[98, 99]⟩, ⟨#[98, 100]⟩, ⟨#[98, 101]⟩, ⟨#[98, 102]⟩, ⟨#[98, 103]⟩, ⟨#[98, 104]⟩, ⟨#[98, 105]⟩] : List ByteArray)[k]? = some x := ⟨_, List.getElem?_eq_getElem (by simp; omega)⟩
  have hnm : nm.size ≤ 100 := mem_sz (List.mem_of_getElem? hx) (by decide)
  refine wl_ov (ov_index (j := k) es103 rfl rfl (by omega)) rfl ?_
  refine wl_ov (ov_elem1 (k := 0) (v := .string nm) sc9 rfl (fun _ hm => (SlT.ofBlk (l := [⟨#[98, 97]⟩, ⟨#[98, 98]⟩, ⟨#[98, 99]⟩, ⟨#[98, 100]⟩, ⟨#[98, 101]⟩, ⟨#[98, 102]⟩, ⟨#[98, 103]⟩, ⟨#[98, 104]⟩, ⟨#[98, 105]⟩]) sg_len (hm.blkI 0 rfl))) hx rfl rfl) rfl ?_
  refine sg_ rfl (nn_ (sr_ (mv_ rfl ?_)))
  refine wl_buildSlice (e := 3) (cs := [.int .i64 0, .int .i64 10, .int .i64 10, .int .i64 20, .int .i64 25, .int .i64 30, .int .i64 100]) rfl (by kernel_rfl) rfl fun g2 => ?_
  refine wl_got (γ := Int) (val := fun v => .int .i64 v) (φ := fun v => v ∈ ([0, 10, 10, 20, 25, 30, 100] : List Int)) rfl cb11 rfl rfl rfl rfl (fun wx hm => (pick_any [0, 10, 10, 20, 25, 30, 100] _ _ _ wx B sb _ hm.k (by omega) (by simp) (by simp) (hm.blkI 0 rfl) (hm.neRow 0 rfl rfl))) fun v3 hv3 => ?_
  have bv3 : 0 ≤ v3 ∧ v3 ≤ 100 := mem_rng hv3 (by decide)
  have bv30 := bv3.1
  have bv31 := bv3.2
  clear bv3
  refine sg_ rfl (nn_ (gw_region (mv_ rfl (mv_ rfl (mv_ rfl ?_)))))
  refine wl_buildSlice (e := 9) (cs := [.string ⟨#[109, 105, 110, 105]⟩, .string ⟨#[109, 105, 110, 105]⟩, .string ⟨#[109, 105, 100, 105]⟩, .string ⟨#[109, 97, 120, 105]⟩, .string ⟨#[98, 105, 103]⟩]) rfl (by kernel_rfl) rfl fun g4 => ?_
  refine wl_got (γ := ByteArray) (val := fun v => .string v) (φ := fun v => v ∈ ([⟨#[109, 105, 110, 105]⟩, ⟨#[109, 105, 110, 105]⟩, ⟨#[109, 105, 100, 105]⟩, ⟨#[109, 97, 120, 105]⟩, ⟨#[98, 105, 103]⟩] : List ByteArray)) rfl cb49 rfl rfl rfl rfl (fun wx hm => (some_any [⟨#[109, 105, 110, 105]⟩, ⟨#[109, 105, 110, 105]⟩, ⟨#[109, 105, 100, 105]⟩, ⟨#[109, 97, 120, 105]⟩, ⟨#[98, 105, 103]⟩] _ _ _ wx B sb _ hm.k (by omega) (by simp) (by simp) (hm.blkI 0 rfl) (hm.neRow 0 rfl rfl))) fun s5 hs5 => ?_
  have zs5 : s5.size ≤ 100 := mem_sz hs5 (by decide)
  refine mv_ rfl (mv_ rfl (mv_ rfl ?_))
  refine wl_buildSlice (e := 3) (cs := [.int .i64 1, .int .i64 5, .int .i64 10, .int .i64 10, .int .i64 20, .int .i64 100]) rfl (by kernel_rfl) rfl fun g6 => ?_
  refine wl_got (γ := Int) (val := fun v => .int .i64 v) (φ := fun v => v ∈ ([1, 5, 10, 10, 20, 100] : List Int)) rfl cb11 rfl rfl rfl rfl (fun wx hm => (pick_any [1, 5, 10, 10, 20, 100] _ _ _ wx B sb _ hm.k (by omega) (by simp) (by simp) (hm.blkI 0 rfl) (hm.neRow 0 rfl rfl))) fun v7 hv7 => ?_
  have bv7 : 1 ≤ v7 ∧ v7 ≤ 100 := mem_rng hv7 (by decide)
  have bv70 := bv7.1
  have bv71 := bv7.2
  clear bv7
  refine ad_ rfl rfl ?_
  refine wl_ov (ov_build (cs := [.int .i64 v3, .int .i64 (v3 + v7)]) rfl (by kernel_rfl)) rfl ?_
  refine mv_ rfl (mv_ rfl ?_)
  refine wl_ov (ov_min rfl rfl) rfl ?_
  refine wl_got (γ := Int) (val := fun v => .int .i64 v) (φ := fun v => 0 ≤ v ∧ (v ≤ min v3 9 ∨ v = 0)) rfl cb26 rfl rfl rfl rfl (fun wx hm => (range_any _ _ wx B sb _ hm.k (by omega) (by omega) (by omega) (by omega) (by omega))) fun v8 hv8 => ?_
  refine mv_ rfl ?_
  refine wl_buildSlice (e := 3) (cs := [.int .i64 0, .int .i64 10, .int .i64 50, .int .i64 75, .int .i64 90, .int .i64 100]) rfl (by kernel_rfl) rfl fun g9 => ?_
  refine wl_got (γ := Int) (val := fun v => .int .i64 v) (φ := fun v => v ∈ ([0, 10, 50, 75, 90, 100] : List Int)) rfl cb11 rfl rfl rfl rfl (fun wx hm => (pick_any [0, 10, 50, 75, 90, 100] _ _ _ wx B sb _ hm.k (by omega) (by simp) (by simp) (hm.blkI 0 rfl) (hm.neRow 0 rfl rfl))) fun v10 hv10 => ?_
  have bv10 : 0 ≤ v10 ∧ v10 ≤ 100 := mem_rng hv10 (by decide)
  have bv100 := bv10.1
  have bv101 := bv10.2
  clear bv10
  refine wl_ov (ov_build (cs := [.string nm, .string s5, .int .i64 v3, .int .i64 (v3 + v7), .int .i64 v8, .int .i64 v10]) rfl (by kernel_rfl)) rfl ?_
  refine wl_buildSlice (e := 92) (cs := [.string nm, .string s5, .int .i64 v3, .int .i64 (v3 + v7), .int .i64 v8, .int .i64 v10]) rfl (by kernel_rfl) rfl fun g11 => ?_
  refine wl_append (news := [.string nm, .string s5, .int .i64 v3, .int .i64 (v3 + v7), .int .i64 v8, .int .i64 v10]) 0 0 ap76 rfl rfl rfl rfl rfl rfl rfl (by omega) (by unfold maxLen; omega) rfl rfl fun v2 hv2 => ?_
  refine sg_ rfl (wl_nil (nx_blk_nrm (nx_then (gw_region (ad_ rfl rfl (mv_ rfl (wl_nil ?_)))))))
  exact nx_round (k + 1, v2, l ++ [⟨nm, s5, v3, v3 + v7, v8, v10⟩], l.flatMap bkEnc ++ ([.string nm, .string s5, .int .i64 v3, .int .i64 (v3 + v7), .int .i64 v8, .int .i64 v10] : List Value)) ⟨by dsimp only; omega, by simp [hi2], bk_snoc hi3 ⟨by dsimp only; omega, by dsimp only; omega, ⟨by dsimp only; omega, by dsimp only; omega⟩, ⟨by dsimp only; omega, by dsimp only; omega⟩, ⟨by dsimp only; omega, by dsimp only; omega⟩, by dsimp only; omega, by dsimp only; omega⟩, .inr (Nat.succ_pos _), by simp [bkEnc]⟩ (by dsimp only; omega) ⟨rfl, rfl, rfl, rfl, rfl, (some_int (by omega)), trivial⟩ (fun _ hm => (hm.more rfl (by first | omega | (dsimp only; omega))).pick [5] [0] [] rfl rfl)
 have hk : ¬ (((k : Nat) : Int) < ((q : Nat) : Int)) := by simpa using hh
 clear hh
 refine gw_exit ?_
 refine nx_then_exit (nx_then_exit ?_)
 refine nx_blk_here ?_
 refine nx_then (gw_seq (sr_ ?_))
 refine wl_look (R := ∃ A cc, v = .slice A k cc) (fun wx hm => own_slice (hm.ownI 0 rfl)) ?_
 rintro ⟨A, c, rfl⟩
 refine mv_ rfl (wl_ov (ov_len es76 rfl) rfl ?_)
 refine wl_ov (ov_gtr rfl rfl) rfl ?_
 refine mv_ rfl ?_
 rcases Bool.eq_false_or_eq_true (decide (0 < ((k : Nat) : Int))) with hb | hb
 ·refine wl_set 48 rfl (congrArg Value.bool hb) ?_
  have hk0 : 0 < k := by simpa using hb
  refine wl_guard_on rfl rfl rfl (mv_ rfl (wl_guard_on rfl rfl rfl ?_))
  refine wl_got (γ := Bool) (val := fun v => .bool v) (φ := fun v => True) rfl cb64 rfl rfl rfl rfl (fun wx hm => ((flip_any _ wx B sb _ hm.k (by omega) (by omega) (by omega)).mono fun _ _ ⟨v, he, hS, hg⟩ => ⟨v, trivial, he, hS, hg⟩)) fun f12 _ => ?_
  refine pt_ rfl rfl (nn_ ?_)
  refine gw_cond rfl (fun hh => ?_) (fun hh => ?_)
  ·have hf : f12 = true := by simpa using hh
   clear hh
   refine sr_ ?_
   refine wl_look (R := ∃ g, A = some ⟨g, 0, none⟩) (fun wx hm => own_addr (hm.ownI 0 rfl) hk0) ?_
   rintro ⟨bo, rfl⟩
   refine mv_ rfl (mv_ rfl (mv_ rfl (wl_ov (ov_len es76 rfl) rfl ?_)))
   refine wl_got (γ := Int) (val := fun v => .int .i64 v) (φ := fun v => IsBelow ((k : Nat) : Int) v) rfl cb66 rfl rfl rfl rfl (fun wx hm => (next_any _ wx B sb _ hm.k (by omega) (by omega) (by omega))) fun vj hvj => ?_
   have hj := isBelow_lt hvj (by omega)
   obtain ⟨i, rfl⟩ := Int.eq_ofNat_of_zero_le hj.1
   have hij : i < k := by omega
   obtain ⟨y, hy⟩ : ∃ y, l[i]? = some y := ⟨_, List.getElem?_eq_getElem (by omega)⟩
   obtain ⟨y0, y1, y2, y3, y4, y5⟩ := y
   have hyB := hi3 _ (List.mem_of_getElem? hy)
   unfold BkB at hyB
   dsimp only at hyB
   obtain ⟨hy0, hy1, ⟨hy2, hy2b⟩, ⟨hy3, hy3b⟩, ⟨hy4, hy4b⟩, hy5, hy5b⟩ := hyB
   refine wl_ov (ov_index (j := i) es76 rfl rfl (by omega)) rfl ?_
   refine sg_ rfl (nn_ (sr_ (mv_ rfl ?_)))
   refine wl_got (γ := Int) (val := fun v => .int .i64 v) (φ := fun v => IsBelow 5 v) rfl cb66 rfl rfl rfl rfl (fun wx hm => (next_any _ wx B sb _ hm.k (by omega) (by omega) (by omega))) fun vk hvk => ?_
   refine nn_ (gw_block (sr_ (wl_ov (ov_eql rfl rfl) rfl (sg_ rfl (nn_ ?_)))))
   refine gw_cond rfl (fun hh => ?_) (fun hh => ?_)
   ·have hc0 : vk = 0 := by simpa using hh
    clear hh
    refine gw_region (mv_ rfl (mv_ rfl ?_))
    refine wl_buildSlice (e := 9) (cs := [.string ⟨#[]⟩, .string ⟨#[65]⟩, .string ⟨#[98, 97]⟩, .string ⟨#[122, 122]⟩]) rfl (by kernel_rfl) rfl fun g13 => ?_
    refine wl_got (γ := ByteArray) (val := fun v => .string v) (φ := fun v => v ∈ ([⟨#[]⟩, ⟨#[65]⟩, ⟨#[98, 97]⟩, ⟨#[122, 122]⟩] : List ByteArray)) rfl cb49 rfl rfl rfl rfl (fun wx hm => (some_any [⟨#[]⟩, ⟨#[65]⟩, ⟨#[98, 97]⟩, ⟨#[122, 122]⟩] _ _ _ wx B sb _ hm.k (by omega) (by simp) (by simp) (hm.blkI 0 rfl) (hm.neRow 0 rfl rfl))) fun s14 hs14 => ?_
    have zs14 : s14.size ≤ 100 := mem_sz hs14 (by decide)
    refine wl_ov (ov_nilcheck rfl) rfl (fd_ fo92_0 rfl rfl ?_)
    refine wl_storeE (l := l) (j := i) (r := 0) (el := ⟨y0, y1, y2, y3, y4, y5⟩) (el' := ⟨s14, y1, y2, y3, y4, y5⟩) 0 sc9 rfl rfl rfl rfl bk_len rfl hy hi2 (show 0 < 6 by decide) rfl rfl ?_
    refine wl_nil (nx_blk_nrm (nx_then (sr_ (mv_ rfl (sg_ rfl (nn_ ?_))))))
    refine gw_ret ?_
    refine nx_ret1 rfl rfl fun wx hm => ?_
    exact ⟨some ⟨bo, 0, none⟩, k, c, (l.set i ⟨s14, y1, y2, y3, y4, y5⟩), rfl, hm.ownI 0 rfl, (by simp; exact hi2), bk_set hi3 ⟨by dsimp only; omega, by dsimp only; omega, ⟨by dsimp only; omega, by dsimp only; omega⟩, ⟨by dsimp only; omega, by dsimp only; omega⟩, ⟨by dsimp only; omega, by dsimp only; omega⟩, by dsimp only; omega, by dsimp only; omega⟩, hi0, own_cap (hm.ownI 0 rfl), hm.k.more (by omega), hm.g⟩
   have hc0 : ¬ (vk = 0) := by simpa using hh
   clear hh
   refine sr_ (wl_ov (ov_eql rfl rfl) rfl (sg_ rfl (nn_ ?_)))
   refine gw_cond rfl (fun hh => ?_) (fun hh => ?_)
   ·have hc1 : vk = 1 := by simpa using hh
    clear hh
    refine gw_region (mv_ rfl (mv_ rfl ?_))
    refine wl_buildSlice (e := 9) (cs := [.string ⟨#[110, 111, 110, 101]⟩, .string ⟨#[]⟩, .string ⟨#[65]⟩]) rfl (by kernel_rfl) rfl fun g15 => ?_
    refine wl_got (γ := ByteArray) (val := fun v => .string v) (φ := fun v => v ∈ ([⟨#[110, 111, 110, 101]⟩, ⟨#[]⟩, ⟨#[65]⟩] : List ByteArray)) rfl cb49 rfl rfl rfl rfl (fun wx hm => (some_any [⟨#[110, 111, 110, 101]⟩, ⟨#[]⟩, ⟨#[65]⟩] _ _ _ wx B sb _ hm.k (by omega) (by simp) (by simp) (hm.blkI 0 rfl) (hm.neRow 0 rfl rfl))) fun s16 hs16 => ?_
    have zs16 : s16.size ≤ 100 := mem_sz hs16 (by decide)
    refine wl_ov (ov_nilcheck rfl) rfl (fd_ fo92_1 rfl rfl ?_)
    refine wl_storeE (l := l) (j := i) (r := 1) (el := ⟨y0, y1, y2, y3, y4, y5⟩) (el' := ⟨y0, s16, y2, y3, y4, y5⟩) 0 sc9 rfl rfl rfl rfl bk_len rfl hy hi2 (show 1 < 6 by decide) rfl rfl ?_
    refine wl_nil (nx_blk_nrm (nx_then (sr_ (mv_ rfl (sg_ rfl (nn_ ?_))))))
    refine gw_ret ?_
    refine nx_ret1 rfl rfl fun wx hm => ?_
    exact ⟨some ⟨bo, 0, none⟩, k, c, (l.set i ⟨y0, s16, y2, y3, y4, y5⟩), rfl, hm.ownI 0 rfl, (by simp; exact hi2), bk_set hi3 ⟨by dsimp only; omega, by dsimp only; omega, ⟨by dsimp only; omega, by dsimp only; omega⟩, ⟨by dsimp only; omega, by dsimp only; omega⟩, ⟨by dsimp only; omega, by dsimp only; omega⟩, by dsimp only; omega, by dsimp only; omega⟩, hi0, own_cap (hm.ownI 0 rfl), hm.k.more (by omega), hm.g⟩
   have hc1 : ¬ (vk = 1) := by simpa using hh
   clear hh
   refine sr_ (wl_ov (ov_eql rfl rfl) rfl (sg_ rfl (nn_ ?_)))
   refine gw_cond rfl (fun hh => ?_) (fun hh => ?_)
   ·have hc2 : vk = 2 := by simpa using hh
    clear hh
    refine gw_region (mv_ rfl (mv_ rfl ?_))
    refine wl_got (γ := Int) (val := fun v => .int .i64 v) (φ := fun v => -2000000000000000 ≤ v ∧ v ≤ 2000000000000000) rfl cb88 rfl rfl rfl rfl (fun wx hm => (odd_any _ _ wx B sb _ hm.k (by omega) (by omega) (by omega) (by omega))) fun v17 hv17 => ?_
    refine mv_ rfl ?_
    refine wl_got (γ := Int) (val := fun v => .int .i64 v) (φ := fun v => -2000000000000000 ≤ v ∧ v ≤ 2000000000000000) rfl cb88 rfl rfl rfl rfl (fun wx hm => (odd_any _ _ wx B sb _ hm.k (by omega) (by omega) (by omega) (by omega))) fun v18 hv18 => ?_
    refine wl_ov (ov_build (cs := [.int .i64 v17, .int .i64 v18]) rfl (by kernel_rfl)) rfl ?_
    refine wl_ov (ov_nilcheck rfl) rfl (fd_ fo92_2 rfl rfl ?_)
    refine wl_storesE (l := l) (j := i) (r := 2) (el := ⟨y0, y1, y2, y3, y4, y5⟩) (el' := ⟨y0, y1, v17, v18, y4, y5⟩) 0 rz27 rfl rfl rfl rfl rfl bk_len rfl hy hi2 (by decide) rfl rfl ?_
    refine wl_nil (nx_blk_nrm (nx_then (sr_ (mv_ rfl (sg_ rfl (nn_ ?_))))))
    refine gw_ret ?_
    refine nx_ret1 rfl rfl fun wx hm => ?_
    exact ⟨some ⟨bo, 0, none⟩, k, c, (l.set i ⟨y0, y1, v17, v18, y4, y5⟩), rfl, hm.ownI 0 rfl, (by simp; exact hi2), bk_set hi3 ⟨by dsimp only; omega, by dsimp only; omega, ⟨by dsimp only; omega, by dsimp only; omega⟩, ⟨by dsimp only; omega, by dsimp only; omega⟩, ⟨by dsimp only; omega, by dsimp only; omega⟩, by dsimp only; omega, by dsimp only; omega⟩, hi0, own_cap (hm.ownI 0 rfl), hm.k.more (by omega), hm.g⟩
   have hc2 : ¬ (vk = 2) := by simpa using hh
   clear hh
   refine sr_ (wl_ov (ov_eql rfl rfl) rfl (sg_ rfl (nn_ ?_)))
   refine gw_cond rfl (fun hh => ?_) (fun hh => ?_)
   ·have hc3 : vk = 3 := by simpa using hh
    clear hh
    refine gw_region (mv_ rfl (mv_ rfl ?_))
    refine wl_got (γ := Int) (val := fun v => .int .i64 v) (φ := fun v => -2000000000000000 ≤ v ∧ v ≤ 2000000000000000) rfl cb88 rfl rfl rfl rfl (fun wx hm => (odd_any _ _ wx B sb _ hm.k (by omega) (by omega) (by omega) (by omega))) fun v19 hv19 => ?_
    refine wl_ov (ov_nilcheck rfl) rfl (fd_ fo92_3 rfl rfl ?_)
    refine wl_storeE (l := l) (j := i) (r := 4) (el := ⟨y0, y1, y2, y3, y4, y5⟩) (el' := ⟨y0, y1, y2, y3, v19, y5⟩) 0 sc3 rfl rfl rfl rfl bk_len rfl hy hi2 (show 4 < 6 by decide) rfl rfl ?_
    refine wl_nil (nx_blk_nrm (nx_then (sr_ (mv_ rfl (sg_ rfl (nn_ ?_))))))
    refine gw_ret ?_
    refine nx_ret1 rfl rfl fun wx hm => ?_
    exact ⟨some ⟨bo, 0, none⟩, k, c, (l.set i ⟨y0, y1, y2, y3, v19, y5⟩), rfl, hm.ownI 0 rfl, (by simp; exact hi2), bk_set hi3 ⟨by dsimp only; omega, by dsimp only; omega, ⟨by dsimp only; omega, by dsimp only; omega⟩, ⟨by dsimp only; omega, by dsimp only; omega⟩, ⟨by dsimp only; omega, by dsimp only; omega⟩, by dsimp only; omega, by dsimp only; omega⟩, hi0, own_cap (hm.ownI 0 rfl), hm.k.more (by omega), hm.g⟩
   have hc3 : ¬ (vk = 3) := by simpa using hh
   clear hh
   refine gw_region (mv_ rfl (mv_ rfl ?_))
   refine wl_got (γ := Int) (val := fun v => .int .i64 v) (φ := fun v => -2000000000000000 ≤ v ∧ v ≤ 2000000000000000) rfl cb88 rfl rfl rfl rfl (fun wx hm => (odd_any _ _ wx B sb _ hm.k (by omega) (by omega) (by omega) (by omega))) fun v20 hv20 => ?_
   refine wl_ov (ov_nilcheck rfl) rfl (fd_ fo92_4 rfl rfl ?_)
   refine wl_storeE (l := l) (j := i) (r := 5) (el := ⟨y0, y1, y2, y3, y4, y5⟩) (el' := ⟨y0, y1, y2, y3, y4, v20⟩) 0 sc3 rfl rfl rfl rfl bk_len rfl hy hi2 (show 5 < 6 by decide) rfl rfl ?_
   refine wl_nil (nx_blk_nrm (nx_then (sr_ (mv_ rfl (sg_ rfl (nn_ ?_))))))
   refine gw_ret ?_
   refine nx_ret1 rfl rfl fun wx hm => ?_
   exact ⟨some ⟨bo, 0, none⟩, k, c, (l.set i ⟨y0, y1, y2, y3, y4, v20⟩), rfl, hm.ownI 0 rfl, (by simp; exact hi2), bk_set hi3 ⟨by dsimp only; omega, by dsimp only; omega, ⟨by dsimp only; omega, by dsimp only; omega⟩, ⟨by dsimp only; omega, by dsimp only; omega⟩, ⟨by dsimp only; omega, by dsimp only; omega⟩, by dsimp only; omega, by dsimp only; omega⟩, hi0, own_cap (hm.ownI 0 rfl), hm.k.more (by omega), hm.g⟩
  have hf : f12 = false := by simpa using hh
  clear hh
  refine gw_skip (nx_then (sr_ (mv_ rfl (sg_ rfl (nn_ ?_)))))
  refine gw_ret ?_
  refine nx_ret1 rfl rfl fun wx hm => ?_
  exact ⟨A, k, c, l, rfl, hm.ownI 0 rfl, hi2, hi3, hi0, own_cap (hm.ownI 0 rfl), hm.k.more (by omega), hm.g⟩
 refine wl_set 48 rfl (congrArg Value.bool hb) ?_
 refine goff rfl rfl rfl (goff rfl rfl rfl (pf_ rfl rfl (nn_ (cf_ rfl (gw_skip (nx_then (sr_ (mv_ rfl (sg_ rfl (nn_ ?_))))))))))
 refine gw_ret ?_
 refine nx_ret1 rfl rfl fun wx hm => ?_
 exact ⟨A, k, c, l, rfl, hm.ownI 0 rfl, hi2, hi3, hi0, own_cap (hm.ownI 0 rfl), hm.k.more (by omega), hm.g⟩
theorem gbookings_ownB (q : Nat) (w : World) (B sb m : Nat) (hS : Strm 25 w B sb m) (hm : m ≤ 100000000) (hq : q ≤ 9) :
    Calls Tryz.prog 48 #[.pointer (some ⟨sb, 0, none⟩), .int .i64 ((q : Nat) : Int)] w (fun e w' => ∃ (A : Option Addr) (n c : Nat) (l : List Bk), e = .returned (.slice A n c) ∧ w'.ownsRow w.heap.size 92 6 (.slice A n c) n (l.flatMap bkEnc) ∧ l.length = n ∧ (∀ x ∈ l, BkB x) ∧ n ≤ 9 ∧ n ≤ c ∧ Strm 25 w' B sb (m + 1000) ∧ w.grownBy w' (some sb)) :=
  (gbookings_ownQ q w B sb m hS hm hq).mono fun _ _ ⟨A, n, c, l, he, ho, hl, hB, hn, h⟩ => ⟨A, n, c, l, he, ho, hl, hB, Nat.le_trans hn hq, h⟩
theorem gbookings_own (q : Nat) (w : World) (B sb m : Nat) (hS : Strm 25 w B sb m) (hm : m ≤ 100000000) (hq : q ≤ 9) :
    Calls Tryz.prog 48 #[.pointer (some ⟨sb, 0, none⟩), .int .i64 ((q : Nat) : Int)] w (fun e w' => ∃ (A : Option Addr) (n c : Nat) (l : List Bk), e = .returned (.slice A n c) ∧ w'.ownsRow w.heap.size 92 6 (.slice A n c) n (l.flatMap bkEnc) ∧ l.length = n ∧ (∀ x ∈ l, BkOk x) ∧ n ≤ 9 ∧ n ≤ c ∧ Strm 25 w' B sb (m + 1000) ∧ w.grownBy w' (some sb)) :=
  (gbookings_ownB q w B sb m hS hm hq).mono fun _ _ ⟨A, n, c, l, he, ho, hl, hB, h⟩ => ⟨A, n, c, l, he, ho, hl, fun x hx => bkB_ok (hB x hx), h⟩
theorem gbookings_anyQ (q : Nat) (w : World) (B sb m : Nat) (hS : Strm 25 w B sb m) (hm : m ≤ 100000000) (hq : q ≤ 9) :
    Calls Tryz.prog 48 #[.pointer (some ⟨sb, 0, none⟩), .int .i64 ((q : Nat) : Int)] w (fun e w' => ∃ (A : Option Addr) (n c : Nat) (l : List Bk), e = .returned (.slice A n c) ∧ SlT bkEnc 6 92 w' A n l ∧ (∀ x ∈ l, BkOk x) ∧ n ≤ q ∧ n ≤ c ∧ Strm 25 w' B sb (m + 1000) ∧ w.grownBy w' (some sb)) :=
  (gbookings_ownQ q w B sb m hS hm hq).mono fun _ _ ⟨A, n, c, l, he, ho, hl, hB, h⟩ => ⟨A, n, c, l, he, SlT.ofOwn bk_len ho hl, fun x hx => bkB_ok (hB x hx), h⟩
end Go.Proofs.YtempjmpfdniecaaGreatDoor
