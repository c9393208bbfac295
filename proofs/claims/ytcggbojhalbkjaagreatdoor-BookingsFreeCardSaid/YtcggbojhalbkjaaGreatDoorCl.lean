/- Classes: the checks, the classes above one, steps. -/
import Derived.Test.YtcggbojhalbkjaaGreatDoorCp
import Derived.Test.YtcggbojhalbkjaaGreatDoorSz
import Derived.Test.YtcggbojhalbkjaaGreatDoorTy
import Derived.Test.YtcggbojhalbkjaaGreatDoorWkey
import Derived.Test.YtcggbojhalbkjaaGreatDoorPv
import Derived.Test.YtcggbojhalbkjaaGreatDoorRk
import Derived.Test.YtcggbojhalbkjaaGreatDoorSi
import Derived.Test.YtcggbojhalbkjaaGreatDoorTw
import Derived.Test.YtcggbojhalbkjaaGreatDoorAw
import Derived.Test.YtcggbojhalbkjaaGreatDoorSu
namespace Go.Proofs.YtcggbojhalbkjaaGreatDoor
open Go.RowKit

theorem prevCs_le {l : List Cs} {k : Nat} {b : Cs} (h : keyB b.key = true) : leB b.key (prevCs l k) = leCs (prevOf l k) b := by
  unfold prevCs leCs
  cases prevOf l k with
  | none => exact key_low h
  | some q => rfl
theorem cls_scan {l : List Cs} {v : Int} (h30 : ¬ 30 < l.length) (h : scanE csE none l = v) (hv : v ≠ 0) : classesE l = v := by
  unfold classesE
  rw [if_neg h30, if_pos (by rw [h]; exact hv), h]
theorem cls_up {l : List Cs} (h30 : ¬ 30 < l.length) (h : scanE csE none l = 0) (hu : l.any (upB l) = true) : classesE l = 8 := by
  unfold classesE
  rw [if_neg h30, if_neg (by rw [h]; decide), if_pos hu]
theorem cls_loop {l : List Cs} (h30 : ¬ 30 < l.length) (h : scanE csE none l = 0) (hu : l.any (upB l) = false) : classesE l = if loopB l l.length = true then 14 else 0 := by
  unfold classesE
  rw [if_neg h30, if_neg (by rw [h]; decide), if_neg (by rw [hu]; decide)]
theorem any_at {α : Type} {p : α → Bool} {l : List α} {k : Nat} {x : α} (h : l[k]? = some x) : (l.drop k).any p = (p x || (l.drop (k + 1)).any p) := by
  obtain ⟨hk, rfl⟩ := List.getElem?_eq_some_iff.1 h
  rw [List.drop_eq_getElem_cons hk, List.any_cons]
theorem any_end {α : Type} {p : α → Bool} {l : List α} {k : Nat} (h : l.length ≤ k) : (l.drop k).any p = false := by rw [List.drop_eq_nil_of_le h]; rfl
theorem sg_one : ∀ (x : ByteArray), ∀ v ∈ sgEnc x, v.oneCell' = true := fun x v hv => by
  simp only [sgEnc, List.mem_singleton] at hv
  subst hv; rfl
theorem path_more {l : List Cs} {n i : Nat} {k : ByteArray} (h : emptyS (upOf l k) = false) (hi : i < n) : pathN l (n - i) k = upOf l k :: pathN l (n - (i + 1)) (upOf l k) := by
  rw [show n - i = (n - (i + 1)) + 1 by omega]
  show (if emptyS (upOf l k) = true then [] else _) = _
  rw [if_neg (by rw [h]; decide)]
theorem path_stop {l : List Cs} {n : Nat} {k : ByteArray} (h : emptyS (upOf l k) = true) : pathN l n k = [] := by
  cases n with
  | zero => rfl
  | succ n =>
    show (if emptyS (upOf l k) = true then [] else _) = _
    rw [if_pos h]
def keysE (l : List Cs) (ks : List ByteArray) : Int := if classesE l ≠ 0 then classesE l else if ks.any (fun k => decide (ixP (csP k) l 0 < 0)) = true then 8 else 0
def stepsV (l : List Cs) (a b : ByteArray) : Int := if a.toList = b.toList then 0 else if ixP (fun y => b.toList == y.toList) (pathN l l.length a) 0 < 0 then -1 else ixP (fun y => b.toList == y.toList) (pathN l l.length a) 0 + 1

set_option maxRecDepth 100000 in
set_option maxHeartbeats 400000 in
theorem pred_classAt_1_lot (ke : ByteArray) (up : ByteArray) (gk : Nat) (k : ByteArray) (w : World) (hk : Blk w gk 9 [.string k]) :
    Calls Tryz.prog 177 #[.agg #[.string ke, .string up], .pointer (some ⟨gk, 0, none⟩)] w (fun e w' => e = .returned (.bool (csP k ⟨ke, up⟩)) ∧ w.grownBy w' none) := by
  refine gw_enter ⟨8, w, none, []⟩ Tryz.func177 rfl Tryz.ntmps177 rfl (mem0 (X := [BlkOld w.heap.size none gk 9 [.string k]]) (allF_cons hk.old allF_nil) (allL_cons BlkOld.lasts allL_nil)) ?_
  refine gw_seq ?_
  refine gw_region ?_
  refine wl_box rfl rfl rfl fun g1 => ?_
  refine wl_ov (ov_assign rfl) rfl ?_
  refine wl_nil ?_
  refine nx_then ?_
  refine gw_seq ?_
  refine gw_region ?_
  refine wl_ov (ov_field fo135_0 rfl rfl) rfl ?_
  refine wl_ov (ov_load sc9 rfl (fun _ hm => hm.blkI 0 rfl) rfl) rfl ?_
  refine wl_ov (ov_load (v := .string k) sc9 rfl (fun _ hm => (hm.fact 0 rfl).2) rfl) rfl ?_
  refine wl_ov (ov_seql rfl rfl) rfl ?_
  refine wl_ov (ov_assign rfl) rfl ?_
  refine wl_nil ?_
  refine nx_then ?_
  refine gw_ret ?_
  refine nx_ret1 rfl rfl fun wx hm => ?_
  exact ⟨rfl, hm.g⟩

set_option maxRecDepth 100000 in
set_option maxHeartbeats 400000 in
theorem index_classAt_1_lot (l : List Cs) (A : Option Addr) (n c0 : Nat) (gk : Nat) (k : ByteArray) (w : World) (hl : SlT csEnc 2 135 w A n l) (hn : n ≤ 1000000) (hk : Blk w gk 9 [.string k]) :
    Calls Tryz.prog 91 #[.slice A n c0, .func (.func 177) #[] #[.pointer (some ⟨gk, 0, none⟩)]] w (GotE w (ixP (csP k) l 0)) := by
  refine gw_enter ⟨19, w, none, []⟩ Tryz.func91 rfl Tryz.ntmps91 rfl (mem0 (X := [SlOld csEnc 2 135 w.heap.size none A n l, BlkOld w.heap.size none gk 9 [.string k]]) (allF_cons hl.old (allF_cons hk.old allF_nil)) (allL_cons SlOld.lasts (allL_cons BlkOld.lasts allL_nil))) ?_
  refine gw_seq ?_
  refine gw_region ?_
  have hlen := hl.len
  refine wl_ov (ov_assign rfl) rfl ?_
  refine wl_nil ?_
  refine nx_then ?_
  refine gw_seq ?_
  refine gw_seq ?_
  refine gw_region ?_
  refine wl_ov (ov_move rfl) rfl ?_
  refine wl_ov (ov_len es50 rfl) rfl ?_
  refine wl_ov (ov_move rfl) rfl ?_
  refine wl_nil ?_
  refine nx_then ?_
  refine gw_block ?_
  refine gw_loop (γ := Nat) (fun (i : Nat) => i ≤ n ∧ ixP (csP k) l 0 = ixP (csP k) (l.drop i) i) (fun (i : Nat) => [(0, .slice A n c0), (1, .func (.func 177) #[] #[.pointer (some ⟨gk, 0, none⟩)]), (7, .int .i64 ((n : Nat) : Int)), (8, .int .i64 ((i : Nat) : Int))]) (fun (i : Nat) => fun _ => True) (fun (i : Nat) => []) (fun (i : Nat) => []) (fun (i : Nat) => [SlOld csEnc 2 135 w.heap.size none A n l, BlkOld w.heap.size none gk 9 [.string k]]) (fun (i : Nat) => n - i) 0 ⟨Nat.zero_le _, rfl⟩ ⟨rfl, rfl, rfl, rfl, trivial⟩ (fun _ hm => hm.pick [] [] [0, 1] rfl rfl) ?_
  intro i hinv
  replace hinv : i ≤ n ∧ ixP (csP k) l 0 = ixP (csP k) (l.drop i) i := hinv
  refine gw_seq ?_
  refine gw_region ?_
  refine wl_ov (ov_lss rfl rfl) rfl ?_
  refine wl_nil ?_
  refine nx_then ?_
  refine gw_seq ?_
  refine gw_cond rfl (fun hh => ?_) (fun hh => ?_)
  · have hi : ((i : Nat) : Int) < ((n : Nat) : Int) := by simpa using hh
    clear hh
    refine gw_skip ?_
    refine nx_then ?_
    refine gw_seq ?_
    refine gw_block ?_
    refine gw_seq ?_
    refine gw_region ?_
    obtain ⟨b, off, hA, _, _⟩ := hl.get (by omega)
    subst hA
    obtain ⟨x, hx⟩ : ∃ x, l[i]? = some x := ⟨_, List.getElem?_eq_getElem (by omega)⟩
    obtain ⟨ke, up⟩ := x
    have hat := ixP_at (p := csP k) hx
    refine wl_ov (ov_move rfl) rfl ?_
    refine wl_ov (ov_assign rfl) rfl ?_
    refine wl_nil ?_
    refine nx_then ?_
    refine gw_seq ?_
    refine gw_region ?_
    refine wl_ov (ov_move rfl) rfl ?_
    refine wl_ov (ov_move rfl) rfl ?_
    refine wl_ov (ov_move rfl) rfl ?_
    refine wl_ov (ov_index (j := i) es50 rfl rfl (by omega)) rfl ?_
    refine wl_ov (ov_elem (vs := [.string ke, .string up]) rz135 rfl (fun _ hm => (hm.fact 0 rfl).1) hx rfl rfl) rfl ?_
    refine wl_callv rfl cb177 rfl rfl (fun wx hm => (pred_classAt_1_lot ke up gk k wx (hm.fact 1 rfl).2)) ?_
    refine wl_nil ?_
    refine nx_then ?_
    refine gw_cond rfl (fun hh => ?_) (fun hh => ?_)
    · have hq : (csP k ⟨ke, up⟩) = true := by simpa using hh
      clear hh
      refine gw_seq ?_
      refine gw_region ?_
      refine wl_ov (ov_move rfl) rfl ?_
      refine wl_ov (ov_assign rfl) rfl ?_
      refine wl_nil ?_
      refine nx_then ?_
      refine gw_ret ?_
      refine nx_blk_ret ?_
      refine nx_then_ret ?_
      refine nx_then_ret ?_
      refine nx_blk_ret ?_
      refine nx_then_ret ?_
      refine nx_ret1 rfl rfl fun wx hm => ?_
      exact ⟨ret_int (by rw [hinv.2, hat, if_pos hq]), hm.g⟩
    · have hq : (csP k ⟨ke, up⟩) = false := by simpa using hh
      clear hh
      refine gw_skip ?_
      refine nx_blk_nrm ?_
      refine nx_then ?_
      refine gw_region ?_
      refine wl_ov (ov_add rfl rfl (by omega) (by omega)) rfl ?_
      refine wl_ov (ov_move rfl) rfl ?_
      refine wl_nil ?_
      exact nx_round (i + 1) ⟨by omega, by rw [hinv.2, hat, if_neg (by rw [hq]; decide)]⟩ (by omega) ⟨rfl, rfl, rfl, (some_int (by omega)), trivial⟩ (fun _ hm => hm.pick [] [] [0, 1] rfl rfl)
  · have hi : ¬ (((i : Nat) : Int) < ((n : Nat) : Int)) := by simpa using hh
    clear hh
    refine gw_exit ?_
    refine nx_then_exit ?_
    refine nx_then_exit ?_
    refine nx_blk_here ?_
    refine nx_then ?_
    refine gw_seq ?_
    refine gw_region ?_
    refine wl_ov (ov_assign rfl) rfl ?_
    refine wl_set 4 (v' := .int .i64 (-1)) rfl rfl ?_
    refine wl_nil ?_
    refine nx_then ?_
    refine gw_ret ?_
    refine nx_ret1 rfl rfl fun wx hm => ?_
    exact ⟨ret_int (by rw [hinv.2, List.drop_eq_nil_of_le (by omega)]; rfl), hm.g⟩

set_option maxRecDepth 100000 in
set_option maxHeartbeats 400000 in
theorem classAt_any (l : List Cs) (A : Option Addr) (n c0 : Nat) (k : ByteArray) (w : World) (hl : SlT csEnc 2 135 w A n l) (hn : n ≤ 1000000) :
    Calls Tryz.prog 117 #[.slice A n c0, .string k] w (GotE w (ixP (csP k) l 0)) := by
  refine gw_enter ⟨8, w, none, []⟩ Tryz.func117 rfl Tryz.ntmps117 rfl (mem0 (X := [SlOld csEnc 2 135 w.heap.size none A n l]) (allF_cons hl.old allF_nil) (allL_cons SlOld.lasts allL_nil)) ?_
  refine gw_seq ?_
  refine gw_region ?_
  refine wl_box rfl rfl rfl fun g1 => ?_
  refine wl_ov (ov_assign rfl) rfl ?_
  refine wl_nil ?_
  refine nx_then ?_
  refine gw_seq ?_
  refine gw_region ?_
  refine wl_ov (ov_move rfl) rfl ?_
  refine wl_ov (ov_makeFunc rfl rfl) rfl ?_
  refine wl_callv rfl cb91 rfl rfl (fun wx hm => (index_classAt_1_lot l A n c0 _ k wx (hm.fact 0 rfl).1 hn (hm.blkI 0 rfl))) ?_
  refine wl_ov (ov_assign rfl) rfl ?_
  refine wl_nil ?_
  refine nx_then ?_
  refine gw_ret ?_
  refine nx_ret1 rfl rfl fun wx hm => ?_
  exact ⟨rfl, hm.g⟩

set_option maxRecDepth 100000 in
set_option maxHeartbeats 400000 in
theorem pred_ClassAt_1_rentref1 (ke : ByteArray) (up : ByteArray) (gk : Nat) (k : ByteArray) (w : World) (hk : Blk w gk 9 [.string k]) :
    Calls Tryz.prog 92 #[.agg #[.string ke, .string up], .pointer (some ⟨gk, 0, none⟩)] w (fun e w' => e = .returned (.bool (csP k ⟨ke, up⟩)) ∧ w.grownBy w' none) := by
  refine gw_enter ⟨8, w, none, []⟩ Tryz.func92 rfl Tryz.ntmps92 rfl (mem0 (X := [BlkOld w.heap.size none gk 9 [.string k]]) (allF_cons hk.old allF_nil) (allL_cons BlkOld.lasts allL_nil)) ?_
  refine gw_seq ?_
  refine gw_region ?_
  refine wl_box rfl rfl rfl fun g1 => ?_
  refine wl_ov (ov_assign rfl) rfl ?_
  refine wl_nil ?_
  refine nx_then ?_
  refine gw_seq ?_
  refine gw_region ?_
  refine wl_ov (ov_field fo135_0 rfl rfl) rfl ?_
  refine wl_ov (ov_load sc9 rfl (fun _ hm => hm.blkI 0 rfl) rfl) rfl ?_
  refine wl_ov (ov_load (v := .string k) sc9 rfl (fun _ hm => (hm.fact 0 rfl).2) rfl) rfl ?_
  refine wl_ov (ov_seql rfl rfl) rfl ?_
  refine wl_ov (ov_assign rfl) rfl ?_
  refine wl_nil ?_
  refine nx_then ?_
  refine gw_ret ?_
  refine nx_ret1 rfl rfl fun wx hm => ?_
  exact ⟨rfl, hm.g⟩

set_option maxRecDepth 100000 in
set_option maxHeartbeats 400000 in
theorem index_ClassAt_1_rentref1 (l : List Cs) (A : Option Addr) (n c0 : Nat) (gk : Nat) (k : ByteArray) (w : World) (hl : SlT csEnc 2 135 w A n l) (hn : n ≤ 1000000) (hk : Blk w gk 9 [.string k]) :
    Calls Tryz.prog 91 #[.slice A n c0, .func (.func 92) #[] #[.pointer (some ⟨gk, 0, none⟩)]] w (GotE w (ixP (csP k) l 0)) := by
  refine gw_enter ⟨19, w, none, []⟩ Tryz.func91 rfl Tryz.ntmps91 rfl (mem0 (X := [SlOld csEnc 2 135 w.heap.size none A n l, BlkOld w.heap.size none gk 9 [.string k]]) (allF_cons hl.old (allF_cons hk.old allF_nil)) (allL_cons SlOld.lasts (allL_cons BlkOld.lasts allL_nil))) ?_
  refine gw_seq ?_
  refine gw_region ?_
  have hlen := hl.len
  refine wl_ov (ov_assign rfl) rfl ?_
  refine wl_nil ?_
  refine nx_then ?_
  refine gw_seq ?_
  refine gw_seq ?_
  refine gw_region ?_
  refine wl_ov (ov_move rfl) rfl ?_
  refine wl_ov (ov_len es50 rfl) rfl ?_
  refine wl_ov (ov_move rfl) rfl ?_
  refine wl_nil ?_
  refine nx_then ?_
  refine gw_block ?_
  refine gw_loop (γ := Nat) (fun (i : Nat) => i ≤ n ∧ ixP (csP k) l 0 = ixP (csP k) (l.drop i) i) (fun (i : Nat) => [(0, .slice A n c0), (1, .func (.func 92) #[] #[.pointer (some ⟨gk, 0, none⟩)]), (7, .int .i64 ((n : Nat) : Int)), (8, .int .i64 ((i : Nat) : Int))]) (fun (i : Nat) => fun _ => True) (fun (i : Nat) => []) (fun (i : Nat) => []) (fun (i : Nat) => [SlOld csEnc 2 135 w.heap.size none A n l, BlkOld w.heap.size none gk 9 [.string k]]) (fun (i : Nat) => n - i) 0 ⟨Nat.zero_le _, rfl⟩ ⟨rfl, rfl, rfl, rfl, trivial⟩ (fun _ hm => hm.pick [] [] [0, 1] rfl rfl) ?_
  intro i hinv
  replace hinv : i ≤ n ∧ ixP (csP k) l 0 = ixP (csP k) (l.drop i) i := hinv
  refine gw_seq ?_
  refine gw_region ?_
  refine wl_ov (ov_lss rfl rfl) rfl ?_
  refine wl_nil ?_
  refine nx_then ?_
  refine gw_seq ?_
  refine gw_cond rfl (fun hh => ?_) (fun hh => ?_)
  · have hi : ((i : Nat) : Int) < ((n : Nat) : Int) := by simpa using hh
    clear hh
    refine gw_skip ?_
    refine nx_then ?_
    refine gw_seq ?_
    refine gw_block ?_
    refine gw_seq ?_
    refine gw_region ?_
    obtain ⟨b, off, hA, _, _⟩ := hl.get (by omega)
    subst hA
    obtain ⟨x, hx⟩ : ∃ x, l[i]? = some x := ⟨_, List.getElem?_eq_getElem (by omega)⟩
    obtain ⟨ke, up⟩ := x
    have hat := ixP_at (p := csP k) hx
    refine wl_ov (ov_move rfl) rfl ?_
    refine wl_ov (ov_assign rfl) rfl ?_
    refine wl_nil ?_
    refine nx_then ?_
    refine gw_seq ?_
    refine gw_region ?_
    refine wl_ov (ov_move rfl) rfl ?_
    refine wl_ov (ov_move rfl) rfl ?_
    refine wl_ov (ov_move rfl) rfl ?_
    refine wl_ov (ov_index (j := i) es50 rfl rfl (by omega)) rfl ?_
    refine wl_ov (ov_elem (vs := [.string ke, .string up]) rz135 rfl (fun _ hm => (hm.fact 0 rfl).1) hx rfl rfl) rfl ?_
    refine wl_callv rfl cb92 rfl rfl (fun wx hm => (pred_ClassAt_1_rentref1 ke up gk k wx (hm.fact 1 rfl).2)) ?_
    refine wl_nil ?_
    refine nx_then ?_
    refine gw_cond rfl (fun hh => ?_) (fun hh => ?_)
    · have hq : (csP k ⟨ke, up⟩) = true := by simpa using hh
      clear hh
      refine gw_seq ?_
      refine gw_region ?_
      refine wl_ov (ov_move rfl) rfl ?_
      refine wl_ov (ov_assign rfl) rfl ?_
      refine wl_nil ?_
      refine nx_then ?_
      refine gw_ret ?_
      refine nx_blk_ret ?_
      refine nx_then_ret ?_
      refine nx_then_ret ?_
      refine nx_blk_ret ?_
      refine nx_then_ret ?_
      refine nx_ret1 rfl rfl fun wx hm => ?_
      exact ⟨ret_int (by rw [hinv.2, hat, if_pos hq]), hm.g⟩
    · have hq : (csP k ⟨ke, up⟩) = false := by simpa using hh
      clear hh
      refine gw_skip ?_
      refine nx_blk_nrm ?_
      refine nx_then ?_
      refine gw_region ?_
      refine wl_ov (ov_add rfl rfl (by omega) (by omega)) rfl ?_
      refine wl_ov (ov_move rfl) rfl ?_
      refine wl_nil ?_
      exact nx_round (i + 1) ⟨by omega, by rw [hinv.2, hat, if_neg (by rw [hq]; decide)]⟩ (by omega) ⟨rfl, rfl, rfl, (some_int (by omega)), trivial⟩ (fun _ hm => hm.pick [] [] [0, 1] rfl rfl)
  · have hi : ¬ (((i : Nat) : Int) < ((n : Nat) : Int)) := by simpa using hh
    clear hh
    refine gw_exit ?_
    refine nx_then_exit ?_
    refine nx_then_exit ?_
    refine nx_blk_here ?_
    refine nx_then ?_
    refine gw_seq ?_
    refine gw_region ?_
    refine wl_ov (ov_assign rfl) rfl ?_
    refine wl_set 4 (v' := .int .i64 (-1)) rfl rfl ?_
    refine wl_nil ?_
    refine nx_then ?_
    refine gw_ret ?_
    refine nx_ret1 rfl rfl fun wx hm => ?_
    exact ⟨ret_int (by rw [hinv.2, List.drop_eq_nil_of_le (by omega)]; rfl), hm.g⟩

set_option maxRecDepth 100000 in
set_option maxHeartbeats 400000 in
theorem rClassAt_any (l : List Cs) (A : Option Addr) (n c0 : Nat) (k : ByteArray) (w : World) (hl : SlT csEnc 2 135 w A n l) (hn : n ≤ 1000000) :
    Calls Tryz.prog 21 #[.slice A n c0, .string k] w (GotE w (ixP (csP k) l 0)) := by
  refine gw_enter ⟨8, w, none, []⟩ Tryz.func21 rfl Tryz.ntmps21 rfl (mem0 (X := [SlOld csEnc 2 135 w.heap.size none A n l]) (allF_cons hl.old allF_nil) (allL_cons SlOld.lasts allL_nil)) ?_
  refine gw_seq ?_
  refine gw_region ?_
  refine wl_box rfl rfl rfl fun g1 => ?_
  refine wl_ov (ov_assign rfl) rfl ?_
  refine wl_nil ?_
  refine nx_then ?_
  refine gw_seq ?_
  refine gw_region ?_
  refine wl_ov (ov_move rfl) rfl ?_
  refine wl_ov (ov_makeFunc rfl rfl) rfl ?_
  refine wl_callv rfl cb91 rfl rfl (fun wx hm => (index_ClassAt_1_rentref1 l A n c0 _ k wx (hm.fact 0 rfl).1 hn (hm.blkI 0 rfl))) ?_
  refine wl_ov (ov_assign rfl) rfl ?_
  refine wl_nil ?_
  refine nx_then ?_
  refine gw_ret ?_
  refine nx_ret1 rfl rfl fun wx hm => ?_
  exact ⟨rfl, hm.g⟩

set_option maxRecDepth 100000 in
set_option maxHeartbeats 400000 in
theorem index_str (ks : List ByteArray) (A1 : Option Addr) (n1 c1 : Nat) (k : ByteArray) (w : World) (hs : SlT sgEnc 1 9 w A1 n1 ks) (hn : n1 ≤ 1000000) :
    Calls Tryz.prog 193 #[.slice A1 n1 c1, .string k] w (GotE w (ixP (fun y => k.toList == y.toList) ks 0)) := by
  refine gw_enter ⟨19, w, none, []⟩ Tryz.func193 rfl Tryz.ntmps193 rfl (mem0 (X := [SlOld sgEnc 1 9 w.heap.size none A1 n1 ks]) (allF_cons hs.old allF_nil) (allL_cons SlOld.lasts allL_nil)) ?_
  refine gw_seq ?_
  refine gw_region ?_
  have hlen := hs.len
  refine wl_ov (ov_assign rfl) rfl ?_
  refine wl_nil ?_
  refine nx_then ?_
  refine gw_seq ?_
  refine gw_seq ?_
  refine gw_region ?_
  refine wl_ov (ov_move rfl) rfl ?_
  refine wl_ov (ov_len es36 rfl) rfl ?_
  refine wl_ov (ov_move rfl) rfl ?_
  refine wl_nil ?_
  refine nx_then ?_
  refine gw_block ?_
  refine gw_loop (γ := Nat) (fun (i : Nat) => i ≤ n1 ∧ ixP (fun y => k.toList == y.toList) ks 0 = ixP (fun y => k.toList == y.toList) (ks.drop i) i) (fun (i : Nat) => [(0, .slice A1 n1 c1), (1, .string k), (7, .int .i64 ((n1 : Nat) : Int)), (8, .int .i64 ((i : Nat) : Int))]) (fun (i : Nat) => fun _ => True) (fun (i : Nat) => []) (fun (i : Nat) => []) (fun (i : Nat) => [SlOld sgEnc 1 9 w.heap.size none A1 n1 ks]) (fun (i : Nat) => n1 - i) 0 ⟨Nat.zero_le _, rfl⟩ ⟨rfl, rfl, rfl, rfl, trivial⟩ (fun _ hm => hm.pick [] [] [0] rfl rfl) ?_
  intro i hinv
  replace hinv : i ≤ n1 ∧ ixP (fun y => k.toList == y.toList) ks 0 = ixP (fun y => k.toList == y.toList) (ks.drop i) i := hinv
  refine gw_seq ?_
  refine gw_region ?_
  refine wl_ov (ov_lss rfl rfl) rfl ?_
  refine wl_nil ?_
  refine nx_then ?_
  refine gw_seq ?_
  refine gw_cond rfl (fun hh => ?_) (fun hh => ?_)
  · have hi : ((i : Nat) : Int) < ((n1 : Nat) : Int) := by simpa using hh
    clear hh
    refine gw_skip ?_
    refine nx_then ?_
    refine gw_seq ?_
    refine gw_block ?_
    refine gw_seq ?_
    refine gw_region ?_
    obtain ⟨b, off, hA, _, _⟩ := hs.get (by omega)
    subst hA
    obtain ⟨z0, hx⟩ : ∃ x, ks[i]? = some x := ⟨_, List.getElem?_eq_getElem (by omega)⟩
    have hat := ixP_at (p := (fun y => k.toList == y.toList)) hx
    refine wl_ov (ov_move rfl) rfl ?_
    refine wl_ov (ov_assign rfl) rfl ?_
    refine wl_nil ?_
    refine nx_then ?_
    refine gw_seq ?_
    refine gw_region ?_
    refine wl_ov (ov_move rfl) rfl ?_
    refine wl_ov (ov_move rfl) rfl ?_
    refine wl_ov (ov_move rfl) rfl ?_
    refine wl_ov (ov_index (j := i) es36 rfl rfl (by omega)) rfl ?_
    refine wl_ov (ov_elem1 (k := 0) (v := .string z0) sc9 rfl (fun _ hm => (hm.fact 0 rfl).1) hx rfl rfl) rfl ?_
    refine wl_ov (ov_seql rfl rfl) rfl ?_
    refine wl_nil ?_
    refine nx_then ?_
    refine gw_cond rfl (fun hh => ?_) (fun hh => ?_)
    · have hq : (k.toList == z0.toList) = true := by simpa using hh
      clear hh
      refine gw_seq ?_
      refine gw_region ?_
      refine wl_ov (ov_move rfl) rfl ?_
      refine wl_ov (ov_assign rfl) rfl ?_
      refine wl_nil ?_
      refine nx_then ?_
      refine gw_ret ?_
      refine nx_blk_ret ?_
      refine nx_then_ret ?_
      refine nx_then_ret ?_
      refine nx_blk_ret ?_
      refine nx_then_ret ?_
      refine nx_ret1 rfl rfl fun wx hm => ?_
      exact ⟨ret_int (by rw [hinv.2, hat, if_pos hq]), hm.g⟩
    · have hq : (k.toList == z0.toList) = false := by simpa using hh
      clear hh
      refine gw_skip ?_
      refine nx_blk_nrm ?_
      refine nx_then ?_
      refine gw_region ?_
      refine wl_ov (ov_add rfl rfl (by omega) (by omega)) rfl ?_
      refine wl_ov (ov_move rfl) rfl ?_
      refine wl_nil ?_
      exact nx_round (i + 1) ⟨by omega, by rw [hinv.2, hat, if_neg (by rw [hq]; decide)]⟩ (by omega) ⟨rfl, rfl, rfl, (some_int (by omega)), trivial⟩ (fun _ hm => hm.pick [] [] [0] rfl rfl)
  · have hi : ¬ (((i : Nat) : Int) < ((n1 : Nat) : Int)) := by simpa using hh
    clear hh
    refine gw_exit ?_
    refine nx_then_exit ?_
    refine nx_then_exit ?_
    refine nx_blk_here ?_
    refine nx_then ?_
    refine gw_seq ?_
    refine gw_region ?_
    refine wl_ov (ov_assign rfl) rfl ?_
    refine wl_set 4 (v' := .int .i64 (-1)) rfl rfl ?_
    refine wl_nil ?_
    refine nx_then ?_
    refine gw_ret ?_
    refine nx_ret1 rfl rfl fun wx hm => ?_
    exact ⟨ret_int (by rw [hinv.2, List.drop_eq_nil_of_le (by omega)]; rfl), hm.g⟩

set_option maxRecDepth 100000 in
set_option maxHeartbeats 400000 in
theorem contains_str (ks : List ByteArray) (A1 : Option Addr) (n1 c1 : Nat) (k : ByteArray) (w : World) (hs : SlT sgEnc 1 9 w A1 n1 ks) (hn : n1 ≤ 1000000) :
    Calls Tryz.prog 138 #[.slice A1 n1 c1, .string k] w (fun e w' => e = .returned (.bool (inK k ks)) ∧ w.grownBy w' none) := by
  refine gw_enter ⟨9, w, none, []⟩ Tryz.func138 rfl Tryz.ntmps138 rfl (mem0 (X := [SlOld sgEnc 1 9 w.heap.size none A1 n1 ks]) (allF_cons hs.old allF_nil) (allL_cons SlOld.lasts allL_nil)) ?_
  refine gw_seq ?_
  refine gw_region ?_
  refine wl_ov (ov_assign rfl) rfl ?_
  refine wl_nil ?_
  refine nx_then ?_
  refine gw_seq ?_
  refine gw_region ?_
  refine wl_ov (ov_move rfl) rfl ?_
  refine wl_ov (ov_move rfl) rfl ?_
  refine wl_callv rfl cb193 rfl rfl (fun wx hm => (index_str ks A1 n1 c1 k wx (hm.fact 0 rfl).1 hn)) ?_
  refine wl_ov (ov_geq rfl rfl) rfl ?_
  refine wl_ov (ov_assign rfl) rfl ?_
  refine wl_nil ?_
  refine nx_then ?_
  refine gw_ret ?_
  refine nx_ret1 rfl rfl fun wx hm => ?_
  exact ⟨by unfold inK; rw [← ix_any], hm.g⟩

set_option maxRecDepth 100000 in
set_option maxHeartbeats 400000 in
theorem above_any (l : List Cs) (A : Option Addr) (n c : Nat) (k0 : ByteArray) (w : World) (hl : SlT csEnc 2 135 w A n l) (hc : Closed l) (hk0 : 0 ≤ ixP (csP k0) l 0) (hn : n ≤ 1000000) :
    Calls Tryz.prog 159 #[.slice A n c, .string k0] w (fun e w' => ∃ (A2 : Option Addr) (n2 c2 : Nat), e = .returned (.slice A2 n2 c2) ∧ w'.ownsRow w.heap.size 9 1 (.slice A2 n2 c2) n2 ((pathN l n k0).flatMap sgEnc) ∧ (pathN l n k0).length = n2 ∧ w.grownBy w' none) := by
  refine gw_enter ⟨25, w, none, []⟩ Tryz.func159 rfl Tryz.ntmps159 rfl (mem0 (X := [SlOld csEnc 2 135 w.heap.size none A n l]) (allF_cons hl.old allF_nil) (allL_cons SlOld.lasts allL_nil)) ?_
  refine gw_seq ?_
  refine gw_region ?_
  have hlen := hl.len
  refine wl_ov (ov_assign rfl) rfl ?_
  refine wl_nil ?_
  refine nx_then ?_
  refine gw_seq ?_
  refine gw_region ?_
  refine wl_ov (ov_assign rfl) rfl ?_
  refine wl_nil ?_
  refine nx_then ?_
  refine gw_seq ?_
  refine gw_seq ?_
  refine gw_region ?_
  refine wl_ov (ov_move rfl) rfl ?_
  refine wl_ov (ov_len es50 rfl) rfl ?_
  refine wl_ov (ov_move rfl) rfl ?_
  refine wl_nil ?_
  refine nx_then ?_
  refine gw_block ?_
  refine gw_nilOwn 9 1 ?_
  refine gw_loop (γ := Nat × ByteArray × Value × List ByteArray × List Value) (fun (g : Nat × ByteArray × Value × List ByteArray × List Value) => g.1 ≤ n ∧ 0 ≤ ixP (csP g.2.1) l 0 ∧ g.2.2.2.1.length = g.1 ∧ g.2.2.2.1 ++ pathN l (n - g.1) g.2.1 = pathN l n k0 ∧ g.2.2.2.2 = g.2.2.2.1.flatMap sgEnc) (fun (g : Nat × ByteArray × Value × List ByteArray × List Value) => [(0, .slice A n c), (1, .string g.2.1), (4, .slice none 0 0), (5, g.2.2.1), (7, .int .i64 ((n : Nat) : Int)), (8, .int .i64 ((g.1 : Nat) : Int))]) (fun (g : Nat × ByteArray × Value × List ByteArray × List Value) => fun _ => True) (fun (g : Nat × ByteArray × Value × List ByteArray × List Value) => []) (fun (g : Nat × ByteArray × Value × List ByteArray × List Value) => [⟨g.2.2.1, 9, 1, g.1, g.2.2.2.2⟩]) (fun (g : Nat × ByteArray × Value × List ByteArray × List Value) => [SlOld csEnc 2 135 w.heap.size none A n l]) (fun (g : Nat × ByteArray × Value × List ByteArray × List Value) => n - g.1) (0, k0, .slice none 0 0, [], []) ⟨Nat.zero_le _, hk0, rfl, rfl, rfl⟩ ⟨rfl, rfl, rfl, rfl, rfl, rfl, trivial⟩ (fun _ hm => hm.pick [] [0] [0] rfl rfl) ?_
  rintro ⟨i, k, v, done, xs⟩ hinv
  replace hinv : i ≤ n ∧ 0 ≤ ixP (csP k) l 0 ∧ done.length = i ∧ done ++ pathN l (n - i) k = pathN l n k0 ∧ xs = done.flatMap sgEnc := hinv
  dsimp only
  refine gw_seq ?_
  refine gw_region ?_
  obtain ⟨hi0, hik, hdl, hdp, rfl⟩ := hinv
  refine wl_ov (ov_lss rfl rfl) rfl ?_
  refine wl_nil ?_
  refine nx_then ?_
  refine gw_seq ?_
  refine gw_cond rfl (fun hh => ?_) (fun hh => ?_)
  · have hi : ((i : Nat) : Int) < ((n : Nat) : Int) := by simpa using hh
    clear hh
    refine gw_skip ?_
    refine nx_then ?_
    refine gw_seq ?_
    refine gw_block ?_
    refine gw_seq ?_
    refine gw_region ?_
    obtain ⟨b, off, hA, _, _⟩ := hl.get (by omega)
    subst hA
    refine wl_ov (ov_move rfl) rfl ?_
    refine wl_ov (ov_move rfl) rfl ?_
    refine wl_ov (ov_move rfl) rfl ?_
    obtain ⟨x, hx, hxl, hxk⟩ := ix_key hik
    obtain ⟨j, hj⟩ := Int.eq_ofNat_of_zero_le hik
    have hjx : (ixP (csP k) l 0).toNat = j := by omega
    rw [hjx] at hx
    have hup := upOf_at hj hx
    have hjn : j < n := by have := (List.getElem?_eq_some_iff.1 hx).1; omega
    obtain ⟨ke, up⟩ := x
    have hup : upOf l k = up := hup
    have hcl := hc ⟨ke, up⟩ hxl
    have hcl : emptyS up = false → 0 ≤ ixP (csP up) l 0 := hcl
    refine wl_callv (v := .int .i64 ((j : Nat) : Int)) rfl cb117 rfl rfl (fun wx hm => (by rw [← hj]; exact classAt_any l _ n c k wx (hm.fact 0 rfl).1 hn)) ?_
    refine wl_ov (ov_index (j := j) es50 rfl rfl (by omega)) rfl ?_
    refine wl_ov (ov_field fo135_1 rfl rfl) rfl ?_
    refine wl_ov (ov_elem1 (k := 1) (v := .string up) sc9 rfl (fun _ hm => (hm.fact 0 rfl).1) hx rfl rfl) rfl ?_
    refine wl_ov (ov_assign rfl) rfl ?_
    refine wl_nil ?_
    refine nx_then ?_
    refine gw_seq ?_
    refine gw_seq ?_
    refine gw_region ?_
    refine wl_ov (ov_move rfl) rfl ?_
    refine wl_ov (ov_seql rfl rfl) rfl ?_
    refine wl_nil ?_
    refine nx_then ?_
    refine gw_cond rfl (fun hh => ?_) (fun hh => ?_)
    · have hq : (up.toList == (⟨#[]⟩ : ByteArray).toList) = true := by simpa using hh
      clear hh
      refine gw_exit ?_
      refine nx_then_exit ?_
      refine nx_blk_on rfl ?_
      refine nx_then_exit ?_
      refine nx_then_exit ?_
      refine nx_blk_here ?_
      refine nx_then ?_
      refine gw_seq ?_
      refine gw_region ?_
      refine wl_look (R := ∃ A cc, v = .slice A i cc) (fun wx hm => own_slice (hm.ownI 0 rfl)) ?_
      rintro ⟨A2, c2, rfl⟩
      refine wl_ov (ov_move rfl) rfl ?_
      refine wl_ov (ov_assign rfl) rfl ?_
      refine wl_nil ?_
      refine nx_then ?_
      refine gw_ret ?_
      have hall : done = pathN l n k0 := by rw [← hdp, path_stop (by rw [hup]; unfold emptyS; exact hq), List.append_nil]
      refine nx_ret1 rfl rfl fun wx hm => ?_
      exact ⟨A2, i, c2, rfl, by rw [← hall]; exact hm.ownI 0 rfl, by rw [← hall]; exact hdl, hm.g⟩
    · have hq : (up.toList == (⟨#[]⟩ : ByteArray).toList) = false := by simpa using hh
      clear hh
      refine gw_skip ?_
      refine nx_then ?_
      refine gw_region ?_
      refine wl_ov (ov_move rfl) rfl ?_
      refine wl_ov (ov_move rfl) rfl ?_
      refine wl_buildSlice (e := 9) (cs := [.string up]) rfl (by kernel_rfl) rfl fun g1 => ?_
      refine wl_append (news := [.string up]) 0 0 ap36 rfl rfl rfl rfl rfl rfl rfl (by omega) (by unfold maxLen; omega) rfl rfl fun v2 hv2 => ?_
      refine wl_ov (ov_assign rfl) rfl ?_
      refine wl_nil ?_
      refine nx_blk_nrm ?_
      refine nx_then ?_
      refine gw_region ?_
      refine wl_ov (ov_add rfl rfl (by omega) (by omega)) rfl ?_
      refine wl_ov (ov_move rfl) rfl ?_
      refine wl_nil ?_
      have hue : emptyS (upOf l k) = false := by rw [hup]; unfold emptyS; exact hq
      have hpm := path_more hue (show i < n by omega)
      rw [hup] at hpm hue
      exact nx_round (i + 1, up, v2, done ++ [up], done.flatMap sgEnc ++ ([.string up] : List Value)) ⟨by dsimp only; omega, hcl hue, by simp [hdl], by dsimp only; rw [← hdp, hpm, List.append_assoc]; rfl, by simp [sgEnc]⟩ (by dsimp only; omega) ⟨rfl, rfl, rfl, rfl, rfl, (some_int (by omega)), trivial⟩ (fun _ hm => hm.pick [] [0] [0] rfl rfl)
  · have hi : ¬ (((i : Nat) : Int) < ((n : Nat) : Int)) := by simpa using hh
    clear hh
    refine gw_exit ?_
    refine nx_then_exit ?_
    refine nx_then_exit ?_
    refine nx_blk_here ?_
    refine nx_then ?_
    refine gw_seq ?_
    refine gw_region ?_
    refine wl_look (R := ∃ A cc, v = .slice A i cc) (fun wx hm => own_slice (hm.ownI 0 rfl)) ?_
    rintro ⟨A2, c2, rfl⟩
    refine wl_ov (ov_move rfl) rfl ?_
    refine wl_ov (ov_assign rfl) rfl ?_
    refine wl_nil ?_
    refine nx_then ?_
    refine gw_ret ?_
    have hin : i = n := by omega
    have hall : done = pathN l n k0 := by rw [← hdp, hin, Nat.sub_self]; exact (List.append_nil _).symm
    refine nx_ret1 rfl rfl fun wx hm => ?_
    exact ⟨A2, i, c2, rfl, by rw [← hall]; exact hm.ownI 0 rfl, by rw [← hall]; exact hdl, hm.g⟩

set_option maxRecDepth 100000 in
set_option maxHeartbeats 400000 in
theorem ups_any (l : List Cs) (A : Option Addr) (n c : Nat) (k0 : ByteArray) (w : World) (hl : SlT csEnc 2 135 w A n l) (hok : ∀ x ∈ l, CsOk x) (hn : n ≤ 1000000) :
    Calls Tryz.prog 172 #[.slice A n c, .string k0] w (fun e w' => ∃ (A2 : Option Addr) (n2 c2 : Nat), e = .returned (.slice A2 n2 c2) ∧ w'.ownsRow w.heap.size 9 1 (.slice A2 n2 c2) n2 ((pathN l (n + 1) k0).flatMap sgEnc) ∧ (pathN l (n + 1) k0).length = n2 ∧ w.grownBy w' none) := by
  refine gw_enter ⟨43, w, none, []⟩ Tryz.func172 rfl Tryz.ntmps172 rfl (mem0 (X := [SlOld csEnc 2 135 w.heap.size none A n l]) (allF_cons hl.old allF_nil) (allL_cons SlOld.lasts allL_nil)) ?_
  refine gw_seq ?_
  refine gw_region ?_
  have hlen := hl.len
  refine wl_ov (ov_assign rfl) rfl ?_
  refine wl_nil ?_
  refine nx_then ?_
  refine gw_seq ?_
  refine gw_region ?_
  refine wl_ov (ov_assign rfl) rfl ?_
  refine wl_nil ?_
  refine nx_then ?_
  refine gw_seq ?_
  refine gw_seq ?_
  refine gw_region ?_
  refine wl_ov (ov_move rfl) rfl ?_
  refine wl_ov (ov_move rfl) rfl ?_
  refine wl_callv rfl cb21 rfl rfl (fun wx hm => (rClassAt_any l A n c k0 wx (hm.fact 0 rfl).1 hn)) ?_
  refine wl_ov (ov_assign rfl) rfl ?_
  refine wl_nil ?_
  refine nx_then ?_
  refine gw_block ?_
  refine gw_nilOwn 9 1 ?_
  refine gw_loop (γ := Nat × ByteArray × Value × List ByteArray × List Value) (fun (g : Nat × ByteArray × Value × List ByteArray × List Value) => g.1 ≤ n + 1 ∧ g.2.2.2.1.length = g.1 ∧ g.2.2.2.1 ++ pathN l (n + 1 - g.1) g.2.1 = pathN l (n + 1) k0 ∧ g.2.2.2.2 = g.2.2.2.1.flatMap sgEnc) (fun (g : Nat × ByteArray × Value × List ByteArray × List Value) => [(0, .slice A n c), (4, .slice none 0 0), (5, g.2.2.1), (6, .int .i64 (ixP (csP g.2.1) l 0))]) (fun (g : Nat × ByteArray × Value × List ByteArray × List Value) => fun _ => True) (fun (g : Nat × ByteArray × Value × List ByteArray × List Value) => []) (fun (g : Nat × ByteArray × Value × List ByteArray × List Value) => [⟨g.2.2.1, 9, 1, g.1, g.2.2.2.2⟩]) (fun (g : Nat × ByteArray × Value × List ByteArray × List Value) => [SlOld csEnc 2 135 w.heap.size none A n l]) (fun (g : Nat × ByteArray × Value × List ByteArray × List Value) => n + 1 - g.1) (0, k0, .slice none 0 0, [], []) ⟨Nat.zero_le _, rfl, rfl, rfl⟩ ⟨rfl, rfl, rfl, rfl, trivial⟩ (fun _ hm => hm.pick [] [0] [0] rfl rfl) ?_
  rintro ⟨i, k, v, done, xs⟩ hinv
  replace hinv : i ≤ n + 1 ∧ done.length = i ∧ done ++ pathN l (n + 1 - i) k = pathN l (n + 1) k0 ∧ xs = done.flatMap sgEnc := hinv
  dsimp only
  refine gw_seq ?_
  refine gw_seq ?_
  refine gw_region ?_
  obtain ⟨hi0, hdl, hdp, rfl⟩ := hinv
  refine wl_look (R := ∃ A cc, v = .slice A i cc) (fun wx hm => own_slice (hm.ownI 0 rfl)) ?_
  rintro ⟨A2, c2, rfl⟩
  refine wl_ov (ov_move rfl) rfl ?_
  refine wl_ov (ov_geq rfl rfl) rfl ?_
  refine wl_ov (ov_move rfl) rfl ?_
  rcases Bool.eq_false_or_eq_true (decide (0 ≤ ixP (csP k) l 0)) with hik | hik
  · refine wl_set 12 rfl (congrArg Value.bool hik) ?_
    have hik := of_decide_eq_true hik
    obtain ⟨x, hx, hxl, hxk⟩ := ix_key hik
    obtain ⟨j, hj⟩ := Int.eq_ofNat_of_zero_le hik
    have hjx : (ixP (csP k) l 0).toNat = j := by omega
    rw [hjx] at hx
    have hup := upOf_at hj hx
    have hjn : j < n := by have := (List.getElem?_eq_some_iff.1 hx).1; omega
    obtain ⟨ke, up⟩ := x
    have hup : upOf l k = up := hup
    have hsz := (hok _ hxl).2
    have hsz : up.size ≤ 1000000 := hsz
    obtain ⟨b, off, hA, _, _⟩ := hl.get (by omega)
    subst hA
    refine wl_set 6 (v' := .int .i64 ((j : Nat) : Int)) rfl (congrArg (Value.int .i64) hj) ?_
    refine wl_guard_on rfl rfl rfl ?_
    refine wl_ov (ov_move rfl) rfl ?_
    refine wl_guard_on rfl rfl rfl ?_
    refine wl_ov (ov_move rfl) rfl ?_
    refine wl_guard_on rfl rfl rfl ?_
    refine wl_ov (ov_index (j := j) es50 rfl rfl (by omega)) rfl ?_
    refine wl_guard_on rfl rfl rfl ?_
    refine wl_ov (ov_field fo135_1 rfl rfl) rfl ?_
    refine wl_guard_on rfl rfl rfl ?_
    refine wl_ov (ov_elem1 (k := 1) (v := .string up) sc9 rfl (fun _ hm => (hm.fact 0 rfl).1) hx rfl rfl) rfl ?_
    refine wl_guard_on rfl rfl rfl ?_
    refine wl_ov (ov_sneq rfl rfl) rfl ?_
    refine wl_ov (ov_pick_t rfl rfl) rfl ?_
    refine wl_ov (ov_move rfl) rfl ?_
    rcases Bool.eq_false_or_eq_true (!(up.toList == (⟨#[]⟩ : ByteArray).toList)) with hq | hq
    · refine wl_set 20 rfl (congrArg Value.bool hq) ?_
      have hue : emptyS (upOf l k) = false := by rw [hup]; unfold emptyS; simpa only [Bool.not_eq_true'] using hq
      refine wl_guard_on rfl rfl rfl ?_
      refine wl_ov (ov_move rfl) rfl ?_
      refine wl_guard_on rfl rfl rfl ?_
      refine wl_ov (ov_len es36 rfl) rfl ?_
      refine wl_guard_on rfl rfl rfl ?_
      refine wl_ov (ov_move rfl) rfl ?_
      refine wl_guard_on rfl rfl rfl ?_
      refine wl_ov (ov_len es50 rfl) rfl ?_
      refine wl_guard_on rfl rfl rfl ?_
      refine wl_ov (ov_leq rfl rfl) rfl ?_
      refine wl_ov (ov_pick_t rfl rfl) rfl ?_
      refine wl_nil ?_
      refine nx_then ?_
      refine gw_cond rfl (fun hh => ?_) (fun hh => ?_)
      · have hcnt : ((i : Nat) : Int) ≤ ((n : Nat) : Int) := by simpa using hh
        clear hh
        refine gw_skip ?_
        refine nx_then ?_
        refine gw_seq ?_
        refine gw_block ?_
        refine gw_region ?_
        refine wl_ov (ov_move rfl) rfl ?_
        refine wl_ov (ov_move rfl) rfl ?_
        refine wl_ov (ov_move rfl) rfl ?_
        refine wl_ov (ov_index (j := j) es50 rfl rfl (by omega)) rfl ?_
        refine wl_ov (ov_field fo135_1 rfl rfl) rfl ?_
        refine wl_ov (ov_elem1 (k := 1) (v := .string up) sc9 rfl (fun _ hm => (hm.fact 0 rfl).1) hx rfl rfl) rfl ?_
        refine wl_buildSlice (e := 9) (cs := [.string up]) rfl (by kernel_rfl) rfl fun g1 => ?_
        refine wl_append (news := [.string up]) 0 0 ap36 rfl rfl rfl rfl rfl rfl rfl (by omega) (by unfold maxLen; omega) rfl rfl fun v2 hv2 => ?_
        refine wl_ov (ov_assign rfl) rfl ?_
        refine wl_nil ?_
        refine nx_blk_nrm ?_
        refine nx_then ?_
        refine gw_region ?_
        refine wl_ov (ov_move rfl) rfl ?_
        refine wl_ov (ov_move rfl) rfl ?_
        refine wl_ov (ov_move rfl) rfl ?_
        refine wl_ov (ov_index (j := j) es50 rfl rfl (by omega)) rfl ?_
        refine wl_ov (ov_field fo135_1 rfl rfl) rfl ?_
        refine wl_ov (ov_elem1 (k := 1) (v := .string up) sc9 rfl (fun _ hm => (hm.fact 0 rfl).1) hx rfl rfl) rfl ?_
        refine wl_callv rfl cb21 rfl rfl (fun wx hm => (rClassAt_any l _ n c up wx (hm.fact 0 rfl).1 hn)) ?_
        refine wl_ov (ov_assign rfl) rfl ?_
        refine wl_nil ?_
        have hpm := path_more hue (show i < n + 1 by omega)
        rw [hup] at hpm
        exact nx_round (i + 1, up, v2, done ++ [up], done.flatMap sgEnc ++ ([.string up] : List Value)) ⟨by dsimp only; omega, by simp [hdl], by dsimp only; rw [← hdp, hpm, List.append_assoc]; rfl, by simp [sgEnc]⟩ (by dsimp only; omega) ⟨rfl, rfl, rfl, rfl, trivial⟩ (fun _ hm => hm.pick [] [0] [0] rfl rfl)
      · have hcnt : ¬ (((i : Nat) : Int) ≤ ((n : Nat) : Int)) := by simpa using hh
        clear hh
        refine gw_exit ?_
        refine nx_then_exit ?_
        refine nx_then_exit ?_
        refine nx_blk_here ?_
        refine nx_then ?_
        refine gw_seq ?_
        refine gw_region ?_
        refine wl_ov (ov_move rfl) rfl ?_
        refine wl_ov (ov_assign rfl) rfl ?_
        refine wl_nil ?_
        refine nx_then ?_
        refine gw_ret ?_
        have hin : i = n + 1 := by omega
        have hall : done = pathN l (n + 1) k0 := by rw [← hdp, hin, Nat.sub_self]; exact (List.append_nil _).symm
        refine nx_ret1 rfl rfl fun wx hm => ?_
        exact ⟨A2, i, c2, rfl, by rw [← hall]; exact hm.ownI 0 rfl, by rw [← hall]; exact hdl, hm.g⟩
    · refine wl_set 20 rfl (congrArg Value.bool hq) ?_
      refine wl_guard_off rfl rfl rfl (by decide) rfl ?_
      refine wl_guard_off rfl rfl rfl (by decide) rfl ?_
      refine wl_guard_off rfl rfl rfl (by decide) rfl ?_
      refine wl_guard_off rfl rfl rfl (by decide) rfl ?_
      refine wl_guard_off rfl rfl rfl (by decide) rfl ?_
      refine wl_ov (ov_pick_f rfl rfl) rfl ?_
      refine wl_nil ?_
      refine nx_then ?_
      refine gw_cond rfl (fun hh => by cases hh) (fun _ => ?_)
      refine gw_exit ?_
      refine nx_then_exit ?_
      refine nx_then_exit ?_
      refine nx_blk_here ?_
      refine nx_then ?_
      refine gw_seq ?_
      refine gw_region ?_
      refine wl_ov (ov_move rfl) rfl ?_
      refine wl_ov (ov_assign rfl) rfl ?_
      refine wl_nil ?_
      refine nx_then ?_
      refine gw_ret ?_
      have hall : done = pathN l (n + 1) k0 := by rw [← hdp, path_stop (by rw [hup]; unfold emptyS; simpa only [Bool.not_eq_false'] using hq), List.append_nil]
      refine nx_ret1 rfl rfl fun wx hm => ?_
      exact ⟨A2, i, c2, rfl, by rw [← hall]; exact hm.ownI 0 rfl, by rw [← hall]; exact hdl, hm.g⟩
  · refine wl_set 12 rfl (congrArg Value.bool hik) ?_
    refine wl_guard_off rfl rfl rfl (by decide) rfl ?_
    refine wl_guard_off rfl rfl rfl (by decide) rfl ?_
    refine wl_guard_off rfl rfl rfl (by decide) rfl ?_
    refine wl_guard_off rfl rfl rfl (by decide) rfl ?_
    refine wl_guard_off rfl rfl rfl (by decide) rfl ?_
    refine wl_guard_off rfl rfl rfl (by decide) rfl ?_
    refine wl_ov (ov_pick_f rfl rfl) rfl ?_
    refine wl_ov (ov_move rfl) rfl ?_
    refine wl_guard_off rfl rfl rfl (by decide) rfl ?_
    refine wl_guard_off rfl rfl rfl (by decide) rfl ?_
    refine wl_guard_off rfl rfl rfl (by decide) rfl ?_
    refine wl_guard_off rfl rfl rfl (by decide) rfl ?_
    refine wl_guard_off rfl rfl rfl (by decide) rfl ?_
    refine wl_ov (ov_pick_f rfl rfl) rfl ?_
    refine wl_nil ?_
    refine nx_then ?_
    refine gw_cond rfl (fun hh => by cases hh) (fun _ => ?_)
    refine gw_exit ?_
    refine nx_then_exit ?_
    refine nx_then_exit ?_
    refine nx_blk_here ?_
    refine nx_then ?_
    refine gw_seq ?_
    refine gw_region ?_
    refine wl_ov (ov_move rfl) rfl ?_
    refine wl_ov (ov_assign rfl) rfl ?_
    refine wl_nil ?_
    refine nx_then ?_
    refine gw_ret ?_
    have hik := of_decide_eq_false hik
    have hall : done = pathN l (n + 1) k0 := by rw [← hdp, path_stop (upOf_no (by omega)), List.append_nil]
    refine nx_ret1 rfl rfl fun wx hm => ?_
    exact ⟨A2, i, c2, rfl, by rw [← hall]; exact hm.ownI 0 rfl, by rw [← hall]; exact hdl, hm.g⟩

set_option maxRecDepth 100000 in
set_option maxHeartbeats 1000000 in
theorem checkClasses_any (l : List Cs) (A : Option Addr) (n c : Nat) (w : World) (hl : SlT csEnc 2 135 w A n l) (hok : ∀ x ∈ l, CsOk x) (hn : n ≤ 1000000) :
    Calls Tryz.prog 93 #[.slice A n c] w (GotE w (classesE l)) := by
  refine gw_enter ⟨80, w, none, []⟩ Tryz.func93 rfl Tryz.ntmps93 rfl (mem0 (X := [SlOld csEnc 2 135 w.heap.size none A n l]) (allF_cons hl.old allF_nil) (allL_cons SlOld.lasts allL_nil)) ?_
  refine gw_seq ?_
  refine gw_region ?_
  have hlen := hl.len
  refine wl_ov (ov_assign rfl) rfl ?_
  refine wl_nil ?_
  refine nx_then ?_
  refine gw_seq ?_
  refine gw_seq ?_
  refine gw_region ?_
  refine wl_ov (ov_move rfl) rfl ?_
  refine wl_ov (ov_len es50 rfl) rfl ?_
  refine wl_ov (ov_gtr rfl rfl) rfl ?_
  refine wl_nil ?_
  refine nx_then ?_
  refine gw_cond rfl (fun hh => ?_) (fun hh => ?_)
  · have h1 : 30 < ((n : Nat) : Int) := by simpa using hh
    clear hh
    refine gw_seq ?_
    refine gw_region ?_
    refine wl_ov (ov_assign rfl) rfl ?_
    refine wl_nil ?_
    refine nx_then ?_
    refine gw_ret ?_
    refine nx_then_ret ?_
    refine nx_ret1 rfl rfl fun wx hm => ?_
    exact ⟨ret_int (by unfold classesE; rw [if_pos (by omega)]), hm.g⟩
  · have h1 : ¬ (30 < ((n : Nat) : Int)) := by simpa using hh
    clear hh
    refine gw_skip ?_
    refine nx_then ?_
    refine gw_seq ?_
    refine gw_seq ?_
    refine gw_region ?_
    have h30 : ¬ 30 < l.length := by omega
    refine wl_ov (ov_move rfl) rfl ?_
    refine wl_ov (ov_len es50 rfl) rfl ?_
    refine wl_ov (ov_move rfl) rfl ?_
    refine wl_nil ?_
    refine nx_then ?_
    refine gw_block ?_
    refine gw_loop (γ := Nat) (fun (k : Nat) => k ≤ n ∧ scanE csE none l = scanE csE (prevOf l k) (l.drop k)) (fun (k : Nat) => [(0, .slice A n c), (12, .slice A n c), (13, .int .i64 ((n : Nat) : Int)), (14, .int .i64 ((k : Nat) : Int))]) (fun (k : Nat) => fun _ => True) (fun (k : Nat) => []) (fun (k : Nat) => []) (fun (k : Nat) => [SlOld csEnc 2 135 w.heap.size none A n l]) (fun (k : Nat) => n - k) 0 ⟨Nat.zero_le _, rfl⟩ ⟨rfl, rfl, rfl, rfl, trivial⟩ (fun _ hm => hm.pick [] [] [0] rfl rfl) ?_
    intro k hinv
    replace hinv : k ≤ n ∧ scanE csE none l = scanE csE (prevOf l k) (l.drop k) := hinv
    refine gw_seq ?_
    refine gw_region ?_
    refine wl_ov (ov_lss rfl rfl) rfl ?_
    refine wl_nil ?_
    refine nx_then ?_
    refine gw_seq ?_
    refine gw_cond rfl (fun hh => ?_) (fun hh => ?_)
    · have hk : ((k : Nat) : Int) < ((n : Nat) : Int) := by simpa using hh
      clear hh
      refine gw_skip ?_
      refine nx_then ?_
      refine gw_seq ?_
      refine gw_block ?_
      refine gw_seq ?_
      refine gw_region ?_
      obtain ⟨b, off, hA, _, _⟩ := hl.get (by omega)
      subst hA
      obtain ⟨x, hx⟩ : ∃ x, l[k]? = some x := ⟨_, List.getElem?_eq_getElem (by omega)⟩
      obtain ⟨ke, up⟩ := x
      have hat := scanE_at csE l k _ hx
      have hk1 : ke.size ≤ 1000000 := (hok _ (List.mem_of_getElem? hx)).1
      have hk2 : up.size ≤ 1000000 := (hok _ (List.mem_of_getElem? hx)).2
      refine wl_ov (ov_move rfl) rfl ?_
      refine wl_ov (ov_index (j := k) es50 rfl rfl (by omega)) rfl ?_
      refine wl_ov (ov_elem (vs := [.string ke, .string up]) rz135 rfl (fun _ hm => (hm.fact 0 rfl).1) hx rfl rfl) rfl ?_
      refine wl_alloc zc135 rfl fun g1 => ?_
      refine wl_ov (ov_assign rfl) rfl ?_
      refine wl_stores (cs' := [.string ke, .string up]) 0 rz135 rfl rfl rfl rfl rfl rfl rfl rfl ?_
      refine wl_nil ?_
      refine nx_then ?_
      refine gw_block ?_
      refine gw_seq ?_
      refine gw_region ?_
      refine wl_ov (ov_field fo135_0 rfl rfl) rfl ?_
      refine wl_ov (ov_load sc9 rfl (fun _ hm => hm.blkI 0 rfl) rfl) rfl ?_
      refine wl_callw rfl cb116 rfl rfl (fun wx hm => (isKey_any _ wx (by omega))) ?_
      refine wl_ov (ov_un_not rfl) rfl ?_
      refine wl_ov (ov_assign rfl) rfl ?_
      refine wl_nil ?_
      refine nx_then ?_
      refine gw_cond rfl (fun hh => ?_) (fun hh => ?_)
      · have h2 : (keyB ke) = false := by simpa using hh
        clear hh
        refine gw_seq ?_
        refine gw_region ?_
        refine wl_ov (ov_assign rfl) rfl ?_
        refine wl_nil ?_
        refine nx_then ?_
        refine gw_ret ?_
        refine nx_blk_ret ?_
        refine nx_blk_ret ?_
        refine nx_then_ret ?_
        refine nx_then_ret ?_
        refine nx_blk_ret ?_
        refine nx_then_ret ?_
        have hE : csE (prevOf l k) ⟨ke, up⟩ = 5 := by unfold csE; simp [h2]
        refine nx_ret1 rfl rfl fun wx hm => ?_
        exact ⟨ret_int (by rw [cls_scan h30 (v := 5) (by rw [hinv.2, hat, if_neg (by rw [hE]; decide), hE]) (by decide)]), hm.g⟩
      · have h2 : (keyB ke) = true := by simpa using hh
        clear hh
        refine gw_seq ?_
        by_cases hk0 : k = 0
        · have hO : leCs (prevOf l k) ⟨ke, up⟩ = false := by rw [prevOf_zero hk0]; rfl
          refine gw_draw (fun wz => Blk wz g1 135 [.string ke, .string up] ∧ (SlOld csEnc 2 135 w.heap.size none (some ⟨b, off, none⟩) n l) wz ∧ True) mixed ?_
          refine wa_take 0 rfl (by kernel_rfl) (by kernel_rfl) (by kernel_rfl) (listed' := #[true, false, false, false, false, false, false, false, false, false, false, false, false, false]) rfl (fun _ _ _ h => h) (fun _ hm => ⟨hm.blkI 0 rfl, hm.fact 0 rfl, trivial⟩) (ov_move rfl) rfl ?_
          refine wa_take 1 rfl (by kernel_rfl) (by kernel_rfl) (by kernel_rfl) (listed' := #[true, true, false, false, false, false, false, false, false, false, false, false, false, false]) rfl (fun _ _ _ h => h) (fun _ hm => ⟨hm.blkI 0 rfl, hm.fact 0 rfl, trivial⟩) (ov_gtr rfl rfl) rfl ?_
          refine wa_set 26 (v' := .bool false) rfl (congrArg Value.bool (decide_eq_false (by omega))) ?_
          refine wa_take 2 rfl (by kernel_rfl) (by kernel_rfl) (by kernel_rfl) (listed' := #[true, true, true, false, false, false, false, false, false, false, false, false, false, false]) rfl (fun _ _ _ h => h) (fun _ hm => ⟨hm.blkI 0 rfl, hm.fact 0 rfl, trivial⟩) (ov_move rfl) rfl ?_
          refine wa_take_off 3 rfl rfl rfl (by decide) (by kernel_rfl) (by kernel_rfl) (by kernel_rfl) (listed' := #[true, true, true, true, false, false, false, false, false, false, false, false, false, false]) rfl (fun _ _ _ h => h) (fun _ hm => ⟨hm.blkI 0 rfl, hm.fact 0 rfl, trivial⟩) rfl ?_
          refine wa_take_off 4 rfl rfl rfl (by decide) (by kernel_rfl) (by kernel_rfl) (by kernel_rfl) (listed' := #[true, true, true, true, true, false, false, false, false, false, false, false, false, false]) rfl (fun _ _ _ h => h) (fun _ hm => ⟨hm.blkI 0 rfl, hm.fact 0 rfl, trivial⟩) rfl ?_
          refine wa_take_off 5 rfl rfl rfl (by decide) (by kernel_rfl) (by kernel_rfl) (by kernel_rfl) (listed' := #[true, true, true, true, true, true, false, false, false, false, false, false, false, false]) rfl (fun _ _ _ h => h) (fun _ hm => ⟨hm.blkI 0 rfl, hm.fact 0 rfl, trivial⟩) rfl ?_
          refine wa_take_off 6 rfl rfl rfl (by decide) (by kernel_rfl) (by kernel_rfl) (by kernel_rfl) (listed' := #[true, true, true, true, true, true, true, false, false, false, false, false, false, false]) rfl (fun _ _ _ h => h) (fun _ hm => ⟨hm.blkI 0 rfl, hm.fact 0 rfl, trivial⟩) rfl ?_
          refine wa_take_off 7 rfl rfl rfl (by decide) (by kernel_rfl) (by kernel_rfl) (by kernel_rfl) (listed' := #[true, true, true, true, true, true, true, true, false, false, false, false, false, false]) rfl (fun _ _ _ h => h) (fun _ hm => ⟨hm.blkI 0 rfl, hm.fact 0 rfl, trivial⟩) rfl ?_
          refine wa_take_off 8 rfl rfl rfl (by decide) (by kernel_rfl) (by kernel_rfl) (by kernel_rfl) (listed' := #[true, true, true, true, true, true, true, true, true, false, false, false, false, false]) rfl (fun _ _ _ h => h) (fun _ hm => ⟨hm.blkI 0 rfl, hm.fact 0 rfl, trivial⟩) rfl ?_
          refine wa_take_off 9 rfl rfl rfl (by decide) (by kernel_rfl) (by kernel_rfl) (by kernel_rfl) (listed' := #[true, true, true, true, true, true, true, true, true, true, false, false, false, false]) rfl (fun _ _ _ h => h) (fun _ hm => ⟨hm.blkI 0 rfl, hm.fact 0 rfl, trivial⟩) rfl ?_
          refine wa_take_off 10 rfl rfl rfl (by decide) (by kernel_rfl) (by kernel_rfl) (by kernel_rfl) (listed' := #[true, true, true, true, true, true, true, true, true, true, true, false, false, false]) rfl (fun _ _ _ h => h) (fun _ hm => ⟨hm.blkI 0 rfl, hm.fact 0 rfl, trivial⟩) rfl ?_
          refine wa_take_off 11 rfl rfl rfl (by decide) (by kernel_rfl) (by kernel_rfl) (by kernel_rfl) (listed' := #[true, true, true, true, true, true, true, true, true, true, true, true, false, false]) rfl (fun _ _ _ h => h) (fun _ hm => ⟨hm.blkI 0 rfl, hm.fact 0 rfl, trivial⟩) rfl ?_
          refine wa_take 12 rfl (by kernel_rfl) (by kernel_rfl) (by kernel_rfl) (listed' := #[true, true, true, true, true, true, true, true, true, true, true, true, true, false]) rfl (fun _ _ _ h => h) (fun _ hm => ⟨hm.blkI 0 rfl, hm.fact 0 rfl, trivial⟩) (ov_pick_f rfl rfl) rfl ?_
          refine wa_take 13 rfl (by kernel_rfl) (by kernel_rfl) (by kernel_rfl) (listed' := #[true, true, true, true, true, true, true, true, true, true, true, true, true, true]) rfl (fun _ _ _ h => h) (fun _ hm => ⟨hm.blkI 0 rfl, hm.fact 0 rfl, trivial⟩) (ov_assign rfl) rfl ?_
          refine wa_done (by kernel_rfl) ?_
          refine nx_then ?_
          refine gw_cond rfl (fun hh => by cases hh) (fun _ => ?_)
          refine gw_seq ?_
          refine gw_region ?_
          refine wl_ov (ov_field fo135_1 rfl rfl) rfl ?_
          refine wl_ov (ov_load sc9 rfl (fun _ hm => hm.blkI 0 rfl) rfl) rfl ?_
          refine wl_ov (ov_sneq rfl rfl) rfl ?_
          refine wl_ov (ov_move rfl) rfl ?_
          rcases Bool.eq_false_or_eq_true (!(up.toList == (⟨#[]⟩ : ByteArray).toList)) with h31 | h31
          · refine wl_set 42 rfl (congrArg Value.bool h31) ?_
            have h31 : emptyS up = false := by unfold emptyS; simpa only [Bool.not_eq_true'] using h31
            refine wl_guard_on rfl rfl rfl ?_
            refine wl_ov (ov_field fo135_1 rfl rfl) rfl ?_
            refine wl_guard_on rfl rfl rfl ?_
            refine wl_ov (ov_load sc9 rfl (fun _ hm => hm.blkI 0 rfl) rfl) rfl ?_
            refine wl_guard_on rfl rfl rfl ?_
            refine wl_callw rfl cb116 rfl rfl (fun wx hm => (isKey_any _ wx (by omega))) ?_
            refine wl_guard_on rfl rfl rfl ?_
            refine wl_ov (ov_un_not rfl) rfl ?_
            refine wl_ov (ov_pick_t rfl rfl) rfl ?_
            refine wl_ov (ov_assign rfl) rfl ?_
            refine wl_nil ?_
            refine nx_then ?_
            refine gw_cond rfl (fun hh => ?_) (fun hh => ?_)
            · have h32 : (keyB up) = false := by simpa using hh
              clear hh
              refine gw_seq ?_
              refine gw_region ?_
              refine wl_ov (ov_assign rfl) rfl ?_
              refine wl_nil ?_
              refine nx_then ?_
              refine gw_ret ?_
              refine nx_blk_ret ?_
              refine nx_blk_ret ?_
              refine nx_then_ret ?_
              refine nx_then_ret ?_
              refine nx_blk_ret ?_
              refine nx_then_ret ?_
              have hE : csE (prevOf l k) ⟨ke, up⟩ = 5 := by unfold csE; simp [h2, hO, h31, h32]
              refine nx_ret1 rfl rfl fun wx hm => ?_
              exact ⟨ret_int (by rw [cls_scan h30 (v := 5) (by rw [hinv.2, hat, if_neg (by rw [hE]; decide), hE]) (by decide)]), hm.g⟩
            · have h32 : (keyB up) = true := by simpa using hh
              clear hh
              refine gw_skip ?_
              refine nx_blk_nrm ?_
              refine nx_blk_nrm ?_
              refine nx_then ?_
              refine gw_region ?_
              have hE : csE (prevOf l k) ⟨ke, up⟩ = 0 := by unfold csE; simp [h2, hO, h31, h32]
              refine wl_ov (ov_add rfl rfl (by omega) (by omega)) rfl ?_
              refine wl_ov (ov_move rfl) rfl ?_
              refine wl_nil ?_
              exact nx_round (k + 1) ⟨by omega, by rw [hinv.2, hat, if_pos hE]⟩ (by omega) ⟨rfl, rfl, rfl, (some_int (by omega)), trivial⟩ (fun _ hm => hm.pick [] [] [0] rfl rfl)
          · refine wl_set 42 rfl (congrArg Value.bool h31) ?_
            have h31 : emptyS up = true := by unfold emptyS; simpa only [Bool.not_eq_false'] using h31
            have hE : csE (prevOf l k) ⟨ke, up⟩ = 0 := by unfold csE; simp [h2, hO, h31]
            refine wl_guard_off rfl rfl rfl (by decide) rfl ?_
            refine wl_guard_off rfl rfl rfl (by decide) rfl ?_
            refine wl_guard_off rfl rfl rfl (by decide) rfl ?_
            refine wl_guard_off rfl rfl rfl (by decide) rfl ?_
            refine wl_ov (ov_pick_f rfl rfl) rfl ?_
            refine wl_ov (ov_assign rfl) rfl ?_
            refine wl_nil ?_
            refine nx_then ?_
            refine gw_cond rfl (fun hh => by cases hh) (fun _ => ?_)
            refine gw_skip ?_
            refine nx_blk_nrm ?_
            refine nx_blk_nrm ?_
            refine nx_then ?_
            refine gw_region ?_
            refine wl_ov (ov_add rfl rfl (by omega) (by omega)) rfl ?_
            refine wl_ov (ov_move rfl) rfl ?_
            refine wl_nil ?_
            exact nx_round (k + 1) ⟨by omega, by rw [hinv.2, hat, if_pos hE]⟩ (by omega) ⟨rfl, rfl, rfl, (some_int (by omega)), trivial⟩ (fun _ hm => hm.pick [] [] [0] rfl rfl)
        · obtain ⟨y, hy⟩ : ∃ x, l[k - 1]? = some x := ⟨_, List.getElem?_eq_getElem (by omega)⟩
          obtain ⟨p0, p1⟩ := y
          refine gw_draw (fun wz => Blk wz g1 135 [.string ke, .string up] ∧ (SlOld csEnc 2 135 w.heap.size none (some ⟨b, off, none⟩) n l) wz ∧ True) mixed ?_
          refine wa_take 0 rfl (by kernel_rfl) (by kernel_rfl) (by kernel_rfl) (listed' := #[true, false, false, false, false, false, false, false, false, false, false, false, false, false]) rfl (fun _ _ _ h => h) (fun _ hm => ⟨hm.blkI 0 rfl, hm.fact 0 rfl, trivial⟩) (ov_move rfl) rfl ?_
          refine wa_take 1 rfl (by kernel_rfl) (by kernel_rfl) (by kernel_rfl) (listed' := #[true, true, false, false, false, false, false, false, false, false, false, false, false, false]) rfl (fun _ _ _ h => h) (fun _ hm => ⟨hm.blkI 0 rfl, hm.fact 0 rfl, trivial⟩) (ov_gtr rfl rfl) rfl ?_
          refine wa_set 26 (v' := .bool true) rfl (congrArg Value.bool (decide_eq_true (by omega))) ?_
          refine wa_take 2 rfl (by kernel_rfl) (by kernel_rfl) (by kernel_rfl) (listed' := #[true, true, true, false, false, false, false, false, false, false, false, false, false, false]) rfl (fun _ _ _ h => h) (fun _ hm => ⟨hm.blkI 0 rfl, hm.fact 0 rfl, trivial⟩) (ov_move rfl) rfl ?_
          refine wa_take_on 3 rfl rfl rfl (by kernel_rfl) (by kernel_rfl) (by kernel_rfl) (listed' := #[true, true, true, true, false, false, false, false, false, false, false, false, false, false]) rfl (fun _ _ _ h => h) (fun _ hm => ⟨hm.blkI 0 rfl, hm.fact 0 rfl, trivial⟩) (ov_field fo135_0 rfl rfl) rfl ?_
          refine wa_take_on 4 rfl rfl rfl (by kernel_rfl) (by kernel_rfl) (by kernel_rfl) (listed' := #[true, true, true, true, true, false, false, false, false, false, false, false, false, false]) rfl (fun _ _ _ h => h) (fun _ hm => ⟨hm.blkI 0 rfl, hm.fact 0 rfl, trivial⟩) (ov_load sc9 rfl (fun _ hm => hm.1) rfl) rfl ?_
          refine wa_take_on 5 rfl rfl rfl (by kernel_rfl) (by kernel_rfl) (by kernel_rfl) (listed' := #[true, true, true, true, true, true, false, false, false, false, false, false, false, false]) rfl (fun _ _ _ h => h) (fun _ hm => ⟨hm.blkI 0 rfl, hm.fact 0 rfl, trivial⟩) (ov_move rfl) rfl ?_
          refine wa_take_on 6 rfl rfl rfl (by kernel_rfl) (by kernel_rfl) (by kernel_rfl) (listed' := #[true, true, true, true, true, true, true, false, false, false, false, false, false, false]) rfl (fun _ _ _ h => h) (fun _ hm => ⟨hm.blkI 0 rfl, hm.fact 0 rfl, trivial⟩) (ov_move rfl) rfl ?_
          refine wa_take_on 7 rfl rfl rfl (by kernel_rfl) (by kernel_rfl) (by kernel_rfl) (listed' := #[true, true, true, true, true, true, true, true, false, false, false, false, false, false]) rfl (fun _ _ _ h => h) (fun _ hm => ⟨hm.blkI 0 rfl, hm.fact 0 rfl, trivial⟩) (ov_sub rfl rfl (by omega) (by omega)) rfl ?_
          refine wa_set 32 (v' := .int .i64 ((k - 1 : Nat) : Int)) rfl (congrArg (Value.int .i64) (by omega)) ?_
          refine wa_take_on 8 rfl rfl rfl (by kernel_rfl) (by kernel_rfl) (by kernel_rfl) (listed' := #[true, true, true, true, true, true, true, true, true, false, false, false, false, false]) rfl (fun _ _ _ h => h) (fun _ hm => ⟨hm.blkI 0 rfl, hm.fact 0 rfl, trivial⟩) (ov_index (j := k - 1) es50 rfl rfl (by omega)) rfl ?_
          refine wa_take_on 9 rfl rfl rfl (by kernel_rfl) (by kernel_rfl) (by kernel_rfl) (listed' := #[true, true, true, true, true, true, true, true, true, true, false, false, false, false]) rfl (fun _ _ _ h => h) (fun _ hm => ⟨hm.blkI 0 rfl, hm.fact 0 rfl, trivial⟩) (ov_field fo135_0 rfl rfl) rfl ?_
          refine wa_take_on 10 rfl rfl rfl (by kernel_rfl) (by kernel_rfl) (by kernel_rfl) (listed' := #[true, true, true, true, true, true, true, true, true, true, true, false, false, false]) rfl (fun _ _ _ h => h) (fun _ hm => ⟨hm.blkI 0 rfl, hm.fact 0 rfl, trivial⟩) (ov_elem1 (k := 0) (v := .string p0) sc9 rfl (fun _ hm => (hm.2.1).1) hy rfl rfl) rfl ?_
          refine wa_take_on 11 rfl rfl rfl (by kernel_rfl) (by kernel_rfl) (by kernel_rfl) (listed' := #[true, true, true, true, true, true, true, true, true, true, true, true, false, false]) rfl (fun _ _ _ h => h) (fun _ hm => ⟨hm.blkI 0 rfl, hm.fact 0 rfl, trivial⟩) (ov_sleq rfl rfl) rfl ?_
          refine wa_take 12 rfl (by kernel_rfl) (by kernel_rfl) (by kernel_rfl) (listed' := #[true, true, true, true, true, true, true, true, true, true, true, true, true, false]) rfl (fun _ _ _ h => h) (fun _ hm => ⟨hm.blkI 0 rfl, hm.fact 0 rfl, trivial⟩) (ov_pick_t rfl rfl) rfl ?_
          refine wa_take 13 rfl (by kernel_rfl) (by kernel_rfl) (by kernel_rfl) (listed' := #[true, true, true, true, true, true, true, true, true, true, true, true, true, true]) rfl (fun _ _ _ h => h) (fun _ hm => ⟨hm.blkI 0 rfl, hm.fact 0 rfl, trivial⟩) (ov_assign rfl) rfl ?_
          refine wa_done (by kernel_rfl) ?_
          refine nx_then ?_
          refine gw_cond rfl (fun hh => ?_) (fun hh => ?_)
          · have h9 : (Op.bytesLess ke.toList p0.toList || ke.toList == p0.toList) = true := by simpa using hh
            clear hh
            refine gw_seq ?_
            refine gw_region ?_
            have hO : leCs (prevOf l k) ⟨ke, up⟩ = true := by rw [prevOf_pos hk0 hy]; exact h9
            refine wl_ov (ov_assign rfl) rfl ?_
            refine wl_nil ?_
            refine nx_then ?_
            refine gw_ret ?_
            refine nx_blk_ret ?_
            refine nx_blk_ret ?_
            refine nx_then_ret ?_
            refine nx_then_ret ?_
            refine nx_blk_ret ?_
            refine nx_then_ret ?_
            have hE : csE (prevOf l k) ⟨ke, up⟩ = 7 := by unfold csE; simp [h2, hO]
            refine nx_ret1 rfl rfl fun wx hm => ?_
            exact ⟨ret_int (by rw [cls_scan h30 (v := 7) (by rw [hinv.2, hat, if_neg (by rw [hE]; decide), hE]) (by decide)]), hm.g⟩
          · have h9 : (Op.bytesLess ke.toList p0.toList || ke.toList == p0.toList) = false := by simpa using hh
            clear hh
            refine gw_seq ?_
            refine gw_region ?_
            have hO : leCs (prevOf l k) ⟨ke, up⟩ = false := by rw [prevOf_pos hk0 hy]; exact h9
            refine wl_ov (ov_field fo135_1 rfl rfl) rfl ?_
            refine wl_ov (ov_load sc9 rfl (fun _ hm => hm.blkI 0 rfl) rfl) rfl ?_
            refine wl_ov (ov_sneq rfl rfl) rfl ?_
            refine wl_ov (ov_move rfl) rfl ?_
            rcases Bool.eq_false_or_eq_true (!(up.toList == (⟨#[]⟩ : ByteArray).toList)) with h31 | h31
            · refine wl_set 42 rfl (congrArg Value.bool h31) ?_
              have h31 : emptyS up = false := by unfold emptyS; simpa only [Bool.not_eq_true'] using h31
              refine wl_guard_on rfl rfl rfl ?_
              refine wl_ov (ov_field fo135_1 rfl rfl) rfl ?_
              refine wl_guard_on rfl rfl rfl ?_
              refine wl_ov (ov_load sc9 rfl (fun _ hm => hm.blkI 0 rfl) rfl) rfl ?_
              refine wl_guard_on rfl rfl rfl ?_
              refine wl_callw rfl cb116 rfl rfl (fun wx hm => (isKey_any _ wx (by omega))) ?_
              refine wl_guard_on rfl rfl rfl ?_
              refine wl_ov (ov_un_not rfl) rfl ?_
              refine wl_ov (ov_pick_t rfl rfl) rfl ?_
              refine wl_ov (ov_assign rfl) rfl ?_
              refine wl_nil ?_
              refine nx_then ?_
              refine gw_cond rfl (fun hh => ?_) (fun hh => ?_)
              · have h32 : (keyB up) = false := by simpa using hh
                clear hh
                refine gw_seq ?_
                refine gw_region ?_
                refine wl_ov (ov_assign rfl) rfl ?_
                refine wl_nil ?_
                refine nx_then ?_
                refine gw_ret ?_
                refine nx_blk_ret ?_
                refine nx_blk_ret ?_
                refine nx_then_ret ?_
                refine nx_then_ret ?_
                refine nx_blk_ret ?_
                refine nx_then_ret ?_
                have hE : csE (prevOf l k) ⟨ke, up⟩ = 5 := by unfold csE; simp [h2, hO, h31, h32]
                refine nx_ret1 rfl rfl fun wx hm => ?_
                exact ⟨ret_int (by rw [cls_scan h30 (v := 5) (by rw [hinv.2, hat, if_neg (by rw [hE]; decide), hE]) (by decide)]), hm.g⟩
              · have h32 : (keyB up) = true := by simpa using hh
                clear hh
                refine gw_skip ?_
                refine nx_blk_nrm ?_
                refine nx_blk_nrm ?_
                refine nx_then ?_
                refine gw_region ?_
                have hE : csE (prevOf l k) ⟨ke, up⟩ = 0 := by unfold csE; simp [h2, hO, h31, h32]
                refine wl_ov (ov_add rfl rfl (by omega) (by omega)) rfl ?_
                refine wl_ov (ov_move rfl) rfl ?_
                refine wl_nil ?_
                exact nx_round (k + 1) ⟨by omega, by rw [hinv.2, hat, if_pos hE]⟩ (by omega) ⟨rfl, rfl, rfl, (some_int (by omega)), trivial⟩ (fun _ hm => hm.pick [] [] [0] rfl rfl)
            · refine wl_set 42 rfl (congrArg Value.bool h31) ?_
              have h31 : emptyS up = true := by unfold emptyS; simpa only [Bool.not_eq_false'] using h31
              have hE : csE (prevOf l k) ⟨ke, up⟩ = 0 := by unfold csE; simp [h2, hO, h31]
              refine wl_guard_off rfl rfl rfl (by decide) rfl ?_
              refine wl_guard_off rfl rfl rfl (by decide) rfl ?_
              refine wl_guard_off rfl rfl rfl (by decide) rfl ?_
              refine wl_guard_off rfl rfl rfl (by decide) rfl ?_
              refine wl_ov (ov_pick_f rfl rfl) rfl ?_
              refine wl_ov (ov_assign rfl) rfl ?_
              refine wl_nil ?_
              refine nx_then ?_
              refine gw_cond rfl (fun hh => by cases hh) (fun _ => ?_)
              refine gw_skip ?_
              refine nx_blk_nrm ?_
              refine nx_blk_nrm ?_
              refine nx_then ?_
              refine gw_region ?_
              refine wl_ov (ov_add rfl rfl (by omega) (by omega)) rfl ?_
              refine wl_ov (ov_move rfl) rfl ?_
              refine wl_nil ?_
              exact nx_round (k + 1) ⟨by omega, by rw [hinv.2, hat, if_pos hE]⟩ (by omega) ⟨rfl, rfl, rfl, (some_int (by omega)), trivial⟩ (fun _ hm => hm.pick [] [] [0] rfl rfl)
    · have hk : ¬ (((k : Nat) : Int) < ((n : Nat) : Int)) := by simpa using hh
      clear hh
      refine gw_exit ?_
      refine nx_then_exit ?_
      refine nx_then_exit ?_
      refine nx_blk_here ?_
      refine nx_then ?_
      refine gw_seq ?_
      refine gw_seq ?_
      refine gw_region ?_
      have hsc : scanE csE none l = 0 := by rw [hinv.2, scanE_end _ _ _ _ (by omega)]
      clear hinv hk
      refine wl_ov (ov_move rfl) rfl ?_
      refine wl_ov (ov_len es50 rfl) rfl ?_
      refine wl_ov (ov_move rfl) rfl ?_
      refine wl_nil ?_
      refine nx_then ?_
      refine gw_block ?_
      refine gw_loop (γ := Nat) (fun (k2 : Nat) => k2 ≤ n ∧ l.any (upB l) = (l.drop k2).any (upB l)) (fun (k2 : Nat) => [(0, .slice A n c), (49, .slice A n c), (50, .int .i64 ((n : Nat) : Int)), (51, .int .i64 ((k2 : Nat) : Int))]) (fun (k2 : Nat) => fun _ => True) (fun (k2 : Nat) => []) (fun (k2 : Nat) => []) (fun (k2 : Nat) => [SlOld csEnc 2 135 w.heap.size none A n l]) (fun (k2 : Nat) => n - k2) 0 ⟨Nat.zero_le _, rfl⟩ ⟨rfl, rfl, rfl, rfl, trivial⟩ (fun _ hm => hm.pick [] [] [0] rfl rfl) ?_
      intro k2 hinv
      replace hinv : k2 ≤ n ∧ l.any (upB l) = (l.drop k2).any (upB l) := hinv
      refine gw_seq ?_
      refine gw_region ?_
      refine wl_ov (ov_lss rfl rfl) rfl ?_
      refine wl_nil ?_
      refine nx_then ?_
      refine gw_seq ?_
      refine gw_cond rfl (fun hh => ?_) (fun hh => ?_)
      · have hk : ((k2 : Nat) : Int) < ((n : Nat) : Int) := by simpa using hh
        clear hh
        refine gw_skip ?_
        refine nx_then ?_
        refine gw_seq ?_
        refine gw_block ?_
        refine gw_seq ?_
        refine gw_region ?_
        obtain ⟨b, off, hA, _, _⟩ := hl.get (by omega)
        subst hA
        obtain ⟨x, hx⟩ : ∃ x, l[k2]? = some x := ⟨_, List.getElem?_eq_getElem (by omega)⟩
        obtain ⟨ke, up⟩ := x
        have hat := any_at (p := upB l) hx
        have hk2 : up.size ≤ 1000000 := (hok _ (List.mem_of_getElem? hx)).2
        refine wl_ov (ov_index (j := k2) es50 rfl rfl (by omega)) rfl ?_
        refine wl_ov (ov_elem (vs := [.string ke, .string up]) rz135 rfl (fun _ hm => (hm.fact 0 rfl).1) hx rfl rfl) rfl ?_
        refine wl_alloc zc135 rfl fun g2 => ?_
        refine wl_stores (cs' := [.string ke, .string up]) 0 rz135 rfl rfl rfl rfl rfl rfl rfl rfl ?_
        refine wl_nil ?_
        refine nx_then ?_
        refine gw_seq ?_
        refine gw_region ?_
        refine wl_ov (ov_field fo135_1 rfl rfl) rfl ?_
        refine wl_ov (ov_load sc9 rfl (fun _ hm => hm.blkI 0 rfl) rfl) rfl ?_
        refine wl_ov (ov_sneq rfl rfl) rfl ?_
        refine wl_ov (ov_move rfl) rfl ?_
        rcases Bool.eq_false_or_eq_true (!(up.toList == (⟨#[]⟩ : ByteArray).toList)) with h31 | h31
        · refine wl_set 58 rfl (congrArg Value.bool h31) ?_
          have h31 : emptyS up = false := by unfold emptyS; simpa only [Bool.not_eq_true'] using h31
          refine wl_guard_on rfl rfl rfl ?_
          refine wl_ov (ov_move rfl) rfl ?_
          refine wl_guard_on rfl rfl rfl ?_
          refine wl_ov (ov_field fo135_1 rfl rfl) rfl ?_
          refine wl_guard_on rfl rfl rfl ?_
          refine wl_ov (ov_load sc9 rfl (fun _ hm => hm.blkI 0 rfl) rfl) rfl ?_
          refine wl_guard_on rfl rfl rfl ?_
          refine wl_callv rfl cb117 rfl rfl (fun wx hm => (classAt_any l _ n c up wx (hm.fact 0 rfl).1 (by omega))) ?_
          refine wl_guard_on rfl rfl rfl ?_
          refine wl_ov (ov_lss rfl rfl) rfl ?_
          refine wl_ov (ov_pick_t rfl rfl) rfl ?_
          refine wl_nil ?_
          refine nx_then ?_
          refine gw_cond rfl (fun hh => ?_) (fun hh => ?_)
          · have h32 : ixP (csP up) l 0 < 0 := by simpa using hh
            clear hh
            refine gw_seq ?_
            refine gw_region ?_
            refine wl_ov (ov_assign rfl) rfl ?_
            refine wl_nil ?_
            refine nx_then ?_
            refine gw_ret ?_
            refine nx_blk_ret ?_
            refine nx_then_ret ?_
            refine nx_then_ret ?_
            refine nx_blk_ret ?_
            refine nx_then_ret ?_
            have hE : upB l ⟨ke, up⟩ = true := by unfold upB; simp [h31, h32]
            refine nx_ret1 rfl rfl fun wx hm => ?_
            exact ⟨ret_int (by rw [cls_up h30 hsc (by rw [hinv.2, hat, hE]; rfl)]), hm.g⟩
          · have h32 : ¬ (ixP (csP up) l 0 < 0) := by simpa using hh
            clear hh
            refine gw_skip ?_
            refine nx_blk_nrm ?_
            refine nx_then ?_
            refine gw_region ?_
            have hE : upB l ⟨ke, up⟩ = false := by unfold upB; simp [h31]; omega
            refine wl_ov (ov_add rfl rfl (by omega) (by omega)) rfl ?_
            refine wl_ov (ov_move rfl) rfl ?_
            refine wl_nil ?_
            exact nx_round (k2 + 1) ⟨by omega, by rw [hinv.2, hat, hE]; rfl⟩ (by omega) ⟨rfl, rfl, rfl, (some_int (by omega)), trivial⟩ (fun _ hm => hm.pick [] [] [0] rfl rfl)
        · refine wl_set 58 rfl (congrArg Value.bool h31) ?_
          have h31 : emptyS up = true := by unfold emptyS; simpa only [Bool.not_eq_false'] using h31
          have hE : upB l ⟨ke, up⟩ = false := by unfold upB; simp [h31]
          refine wl_guard_off rfl rfl rfl (by decide) rfl ?_
          refine wl_guard_off rfl rfl rfl (by decide) rfl ?_
          refine wl_guard_off rfl rfl rfl (by decide) rfl ?_
          refine wl_guard_off rfl rfl rfl (by decide) rfl ?_
          refine wl_guard_off rfl rfl rfl (by decide) rfl ?_
          refine wl_ov (ov_pick_f rfl rfl) rfl ?_
          refine wl_nil ?_
          refine nx_then ?_
          refine gw_cond rfl (fun hh => by cases hh) (fun _ => ?_)
          refine gw_skip ?_
          refine nx_blk_nrm ?_
          refine nx_then ?_
          refine gw_region ?_
          refine wl_ov (ov_add rfl rfl (by omega) (by omega)) rfl ?_
          refine wl_ov (ov_move rfl) rfl ?_
          refine wl_nil ?_
          exact nx_round (k2 + 1) ⟨by omega, by rw [hinv.2, hat, hE]; rfl⟩ (by omega) ⟨rfl, rfl, rfl, (some_int (by omega)), trivial⟩ (fun _ hm => hm.pick [] [] [0] rfl rfl)
      · have hk : ¬ (((k2 : Nat) : Int) < ((n : Nat) : Int)) := by simpa using hh
        clear hh
        refine gw_exit ?_
        refine nx_then_exit ?_
        refine nx_then_exit ?_
        refine nx_blk_here ?_
        refine nx_then ?_
        refine gw_seq ?_
        refine gw_seq ?_
        refine gw_region ?_
        have hup : l.any (upB l) = false := by rw [hinv.2, any_end (by omega)]
        clear hinv hk
        have hcl := closed_of hup
        have hlo := cls_loop h30 hsc hup
        refine wl_ov (ov_move rfl) rfl ?_
        refine wl_ov (ov_len es50 rfl) rfl ?_
        refine wl_ov (ov_move rfl) rfl ?_
        refine wl_nil ?_
        refine nx_then ?_
        refine gw_block ?_
        refine gw_loop (γ := Nat) (fun (k3 : Nat) => k3 ≤ n ∧ l.any (fun x => inK x.key (pathN l (n) x.key)) = (l.drop k3).any (fun x => inK x.key (pathN l (n) x.key))) (fun (k3 : Nat) => [(0, .slice A n c), (66, .slice A n c), (67, .int .i64 ((n : Nat) : Int)), (68, .int .i64 ((k3 : Nat) : Int))]) (fun (k3 : Nat) => fun _ => True) (fun (k3 : Nat) => []) (fun (k3 : Nat) => []) (fun (k3 : Nat) => [SlOld csEnc 2 135 w.heap.size none A n l]) (fun (k3 : Nat) => n - k3) 0 ⟨Nat.zero_le _, rfl⟩ ⟨rfl, rfl, rfl, rfl, trivial⟩ (fun _ hm => hm.pick [] [] [0] rfl rfl) ?_
        intro k3 hinv
        replace hinv : k3 ≤ n ∧ l.any (fun x => inK x.key (pathN l (n) x.key)) = (l.drop k3).any (fun x => inK x.key (pathN l (n) x.key)) := hinv
        refine gw_seq ?_
        refine gw_region ?_
        have hlo2 : classesE l = if l.any (fun x => inK x.key (pathN l (n) x.key)) = true then 14 else 0 := by rw [hlo]; unfold loopB; rw [hlen]
        refine wl_ov (ov_lss rfl rfl) rfl ?_
        refine wl_nil ?_
        refine nx_then ?_
        refine gw_seq ?_
        refine gw_cond rfl (fun hh => ?_) (fun hh => ?_)
        · have hk : ((k3 : Nat) : Int) < ((n : Nat) : Int) := by simpa using hh
          clear hh
          refine gw_skip ?_
          refine nx_then ?_
          refine gw_seq ?_
          refine gw_block ?_
          refine gw_seq ?_
          refine gw_region ?_
          obtain ⟨b, off, hA, _, _⟩ := hl.get (by omega)
          subst hA
          obtain ⟨x, hx⟩ : ∃ x, l[k3]? = some x := ⟨_, List.getElem?_eq_getElem (by omega)⟩
          obtain ⟨ke, up⟩ := x
          have hat := any_at (p := (fun x => inK x.key (pathN l (n) x.key))) hx
          have hk2 : ke.size ≤ 1000000 := (hok _ (List.mem_of_getElem? hx)).1
          have hix : 0 ≤ ixP (csP ke) l 0 := by
            rcases ixP_spec (p := csP ke) l 0 with ⟨_, h⟩ | ⟨j, x, h, _⟩
            · have := h _ (List.mem_of_getElem? hx)
              simp [csP] at this
            · omega
          refine wl_ov (ov_index (j := k3) es50 rfl rfl (by omega)) rfl ?_
          refine wl_ov (ov_elem (vs := [.string ke, .string up]) rz135 rfl (fun _ hm => (hm.fact 0 rfl).1) hx rfl rfl) rfl ?_
          refine wl_alloc zc135 rfl fun g3 => ?_
          refine wl_stores (cs' := [.string ke, .string up]) 0 rz135 rfl rfl rfl rfl rfl rfl rfl rfl ?_
          refine wl_nil ?_
          refine nx_then ?_
          refine gw_seq ?_
          refine gw_draw (fun wz => Blk wz g3 135 [.string ke, .string up] ∧ (SlOld csEnc 2 135 w.heap.size none (some ⟨b, off, none⟩) n l) wz ∧ True) mixed ?_
          refine wa_take 0 rfl (by kernel_rfl) (by kernel_rfl) (by kernel_rfl) (listed' := #[true, false, false, false, false, false, false]) rfl (fun _ _ _ h => h) (fun _ hm => ⟨hm.blkI 0 rfl, hm.fact 0 rfl, trivial⟩) (ov_move rfl) rfl ?_
          refine wa_take 1 rfl (by kernel_rfl) (by kernel_rfl) (by kernel_rfl) (listed' := #[true, true, false, false, false, false, false]) rfl (fun _ _ _ h => h) (fun _ hm => ⟨hm.blkI 0 rfl, hm.fact 0 rfl, trivial⟩) (ov_field fo135_0 rfl rfl) rfl ?_
          refine wa_take 2 rfl (by kernel_rfl) (by kernel_rfl) (by kernel_rfl) (listed' := #[true, true, true, false, false, false, false]) rfl (fun _ _ _ h => h) (fun _ hm => ⟨hm.blkI 0 rfl, hm.fact 0 rfl, trivial⟩) (ov_load sc9 rfl (fun _ hm => hm.1) rfl) rfl ?_
          refine wa_take 4 rfl (by kernel_rfl) (by kernel_rfl) (by kernel_rfl) (listed' := #[true, true, true, false, true, false, false]) rfl (fun _ _ _ h => h) (fun _ hm => ⟨hm.blkI 0 rfl, hm.fact 0 rfl, trivial⟩) (ov_field fo135_0 rfl rfl) rfl ?_
          refine wa_take 5 rfl (by kernel_rfl) (by kernel_rfl) (by kernel_rfl) (listed' := #[true, true, true, false, true, true, false]) rfl (fun _ _ _ h => h) (fun _ hm => ⟨hm.blkI 0 rfl, hm.fact 0 rfl, trivial⟩) (ov_load sc9 rfl (fun _ hm => hm.1) rfl) rfl ?_
          refine wa_all [3] (by kernel_rfl) rfl ⟨⟨_, rfl, ?_⟩, trivial⟩
          refine wl_callgo (γ := Option Addr × Nat × Nat) (val := (fun (g : Option Addr × Nat × Nat) => .slice g.1 g.2.1 g.2.2)) (φ := (fun (g : Option Addr × Nat × Nat) => (pathN l (n) ke).length = g.2.1)) (fun (g : Option Addr × Nat × Nat) => ⟨.slice g.1 g.2.1 g.2.2, 9, 1, g.2.1, (pathN l (n) ke).flatMap sgEnc⟩) rfl cb159 rfl rfl (fun wx hm => (above_any l _ n c ke wx (hm.fact 0 rfl).1 hcl hix (by omega)).mono fun _ _ ⟨A2, n2, c2, he, ho, hl2, hg⟩ => ⟨(A2, n2, c2), he, hl2, ho, hg⟩) ?_
          rintro ⟨A2, n2, c2⟩ hpl
          dsimp only at hpl ⊢
          have hpb := pathN_len l (n) ke
          refine wl_nil ?_
          refine nx_wa0 (listed' := #[true, true, true, true, true, true, false]) rfl (fun _ hm => ⟨hm.blkI 0 rfl, hm.fact 0 rfl, trivial⟩) ?_
          refine wa_all [6] (by kernel_rfl) rfl ⟨⟨_, rfl, ?_⟩, trivial⟩
          refine wl_callv rfl cb138 rfl rfl (fun wx hm => (contains_str (pathN l (n) ke) A2 n2 c2 ke wx (SlT.ofOwn sg_len (hm.ownI 0 rfl) hpl) (by omega))) ?_
          refine wl_nil ?_
          refine nx_wa0 (listed' := #[true, true, true, true, true, true, true]) rfl (fun _ hm => ⟨hm.blkI 0 rfl, hm.fact 0 rfl, trivial⟩) ?_
          refine wa_done (by kernel_rfl) ?_
          refine nx_then ?_
          refine gw_cond rfl (fun hh => ?_) (fun hh => ?_)
          · have h33 : (inK ke (pathN l (n) ke)) = true := by simpa using hh
            clear hh
            refine gw_seq ?_
            refine gw_region ?_
            refine wl_ov (ov_assign rfl) rfl ?_
            refine wl_nil ?_
            refine nx_then ?_
            refine gw_ret ?_
            refine nx_blk_ret ?_
            refine nx_then_ret ?_
            refine nx_then_ret ?_
            refine nx_blk_ret ?_
            refine nx_then_ret ?_
            refine nx_ret1 rfl rfl fun wx hm => ?_
            exact ⟨ret_int (by rw [hlo2, if_pos (by rw [hinv.2, hat, h33]; rfl)]), hm.g⟩
          · have h33 : (inK ke (pathN l (n) ke)) = false := by simpa using hh
            clear hh
            refine gw_skip ?_
            refine nx_blk_nrm ?_
            refine nx_then ?_
            refine gw_region ?_
            refine wl_ov (ov_add rfl rfl (by omega) (by omega)) rfl ?_
            refine wl_ov (ov_move rfl) rfl ?_
            refine wl_nil ?_
            exact nx_round (k3 + 1) ⟨by omega, by rw [hinv.2, hat, h33]; rfl⟩ (by omega) ⟨rfl, rfl, rfl, (some_int (by omega)), trivial⟩ (fun _ hm => hm.pick [] [] [0] rfl rfl)
        · have hk : ¬ (((k3 : Nat) : Int) < ((n : Nat) : Int)) := by simpa using hh
          clear hh
          refine gw_exit ?_
          refine nx_then_exit ?_
          refine nx_then_exit ?_
          refine nx_blk_here ?_
          refine nx_then ?_
          refine gw_seq ?_
          refine gw_region ?_
          refine wl_ov (ov_assign rfl) rfl ?_
          refine wl_nil ?_
          refine nx_then ?_
          refine gw_ret ?_
          refine nx_ret1 rfl rfl fun wx hm => ?_
          exact ⟨ret_int (by rw [hlo2, if_neg (by rw [hinv.2, any_end (by omega)]; decide)]), hm.g⟩

set_option maxRecDepth 100000 in
set_option maxHeartbeats 1000000 in
theorem classesFault_any (l : List Cs) (A : Option Addr) (n c : Nat) (w : World) (hl : SlT csEnc 2 135 w A n l) (hok : ∀ x ∈ l, CsOk x) (hn : n ≤ 1000000) :
    Calls Tryz.prog 107 #[.slice A n c] w (GotE w (classesE l)) := by
  refine gw_enter ⟨73, w, none, []⟩ Tryz.func107 rfl Tryz.ntmps107 rfl (mem0 (X := [SlOld csEnc 2 135 w.heap.size none A n l]) (allF_cons hl.old allF_nil) (allL_cons SlOld.lasts allL_nil)) ?_
  refine gw_seq ?_
  refine gw_region ?_
  have hlen := hl.len
  refine wl_ov (ov_assign rfl) rfl ?_
  refine wl_nil ?_
  refine nx_then ?_
  refine gw_seq ?_
  refine gw_seq ?_
  refine gw_region ?_
  refine wl_ov (ov_move rfl) rfl ?_
  refine wl_ov (ov_len es50 rfl) rfl ?_
  refine wl_ov (ov_gtr rfl rfl) rfl ?_
  refine wl_nil ?_
  refine nx_then ?_
  refine gw_cond rfl (fun hh => ?_) (fun hh => ?_)
  · have h1 : 30 < ((n : Nat) : Int) := by simpa using hh
    clear hh
    refine gw_seq ?_
    refine gw_region ?_
    refine wl_ov (ov_assign rfl) rfl ?_
    refine wl_nil ?_
    refine nx_then ?_
    refine gw_ret ?_
    refine nx_then_ret ?_
    refine nx_ret1 rfl rfl fun wx hm => ?_
    exact ⟨ret_int (by unfold classesE; rw [if_pos (by omega)]), hm.g⟩
  · have h1 : ¬ (30 < ((n : Nat) : Int)) := by simpa using hh
    clear hh
    refine gw_skip ?_
    refine nx_then ?_
    refine gw_seq ?_
    refine gw_region ?_
    have h30 : ¬ 30 < l.length := by omega
    refine wl_ov (ov_assign rfl) rfl ?_
    refine wl_nil ?_
    refine nx_then ?_
    refine gw_seq ?_
    refine gw_seq ?_
    refine gw_region ?_
    refine wl_ov (ov_move rfl) rfl ?_
    refine wl_ov (ov_len es50 rfl) rfl ?_
    refine wl_ov (ov_move rfl) rfl ?_
    refine wl_nil ?_
    refine nx_then ?_
    refine gw_block ?_
    refine gw_loop (γ := Nat) (fun (k : Nat) => k ≤ n ∧ scanE csE none l = scanE csE (prevOf l k) (l.drop k)) (fun (k : Nat) => [(0, .slice A n c), (3, .string (prevCs l k)), (13, .slice A n c), (14, .int .i64 ((n : Nat) : Int)), (15, .int .i64 ((k : Nat) : Int))]) (fun (k : Nat) => fun _ => True) (fun (k : Nat) => []) (fun (k : Nat) => []) (fun (k : Nat) => [SlOld csEnc 2 135 w.heap.size none A n l]) (fun (k : Nat) => n - k) 0 ⟨Nat.zero_le _, rfl⟩ ⟨rfl, rfl, rfl, rfl, rfl, trivial⟩ (fun _ hm => hm.pick [] [] [0] rfl rfl) ?_
    intro k hinv
    replace hinv : k ≤ n ∧ scanE csE none l = scanE csE (prevOf l k) (l.drop k) := hinv
    refine gw_seq ?_
    refine gw_region ?_
    refine wl_ov (ov_lss rfl rfl) rfl ?_
    refine wl_nil ?_
    refine nx_then ?_
    refine gw_seq ?_
    refine gw_cond rfl (fun hh => ?_) (fun hh => ?_)
    · have hk : ((k : Nat) : Int) < ((n : Nat) : Int) := by simpa using hh
      clear hh
      refine gw_skip ?_
      refine nx_then ?_
      refine gw_seq ?_
      refine gw_block ?_
      refine gw_seq ?_
      refine gw_region ?_
      obtain ⟨b, off, hA, _, _⟩ := hl.get (by omega)
      subst hA
      obtain ⟨x, hx⟩ : ∃ x, l[k]? = some x := ⟨_, List.getElem?_eq_getElem (by omega)⟩
      obtain ⟨ke, up⟩ := x
      have hat := scanE_at csE l k _ hx
      have hk1 : ke.size ≤ 1000000 := (hok _ (List.mem_of_getElem? hx)).1
      have hk2 : up.size ≤ 1000000 := (hok _ (List.mem_of_getElem? hx)).2
      refine wl_ov (ov_index (j := k) es50 rfl rfl (by omega)) rfl ?_
      refine wl_ov (ov_elem (vs := [.string ke, .string up]) rz135 rfl (fun _ hm => (hm.fact 0 rfl).1) hx rfl rfl) rfl ?_
      refine wl_alloc zc135 rfl fun g1 => ?_
      refine wl_stores (cs' := [.string ke, .string up]) 0 rz135 rfl rfl rfl rfl rfl rfl rfl rfl ?_
      refine wl_nil ?_
      refine nx_then ?_
      refine gw_seq ?_
      refine gw_block ?_
      refine gw_seq ?_
      refine gw_region ?_
      refine wl_ov (ov_field fo135_0 rfl rfl) rfl ?_
      refine wl_ov (ov_load sc9 rfl (fun _ hm => hm.blkI 0 rfl) rfl) rfl ?_
      refine wl_callv rfl cb65 rfl rfl (fun wx hm => (key_any _ wx (by omega))) ?_
      refine wl_ov (ov_un_not rfl) rfl ?_
      refine wl_ov (ov_assign rfl) rfl ?_
      refine wl_nil ?_
      refine nx_then ?_
      refine gw_cond rfl (fun hh => ?_) (fun hh => ?_)
      · have h2 : (keyB ke) = false := by simpa using hh
        clear hh
        refine gw_seq ?_
        refine gw_region ?_
        refine wl_ov (ov_assign rfl) rfl ?_
        refine wl_nil ?_
        refine nx_then ?_
        refine gw_ret ?_
        refine nx_blk_ret ?_
        refine nx_then_ret ?_
        refine nx_blk_ret ?_
        refine nx_then_ret ?_
        refine nx_then_ret ?_
        refine nx_blk_ret ?_
        refine nx_then_ret ?_
        have hE : csE (prevOf l k) ⟨ke, up⟩ = 5 := by unfold csE; simp [h2]
        refine nx_ret1 rfl rfl fun wx hm => ?_
        exact ⟨ret_int (by rw [cls_scan h30 (v := 5) (by rw [hinv.2, hat, if_neg (by rw [hE]; decide), hE]) (by decide)]), hm.g⟩
      · have h2 : (keyB ke) = true := by simpa using hh
        clear hh
        refine gw_seq ?_
        refine gw_region ?_
        refine wl_ov (ov_field fo135_0 rfl rfl) rfl ?_
        refine wl_ov (ov_load sc9 rfl (fun _ hm => hm.blkI 0 rfl) rfl) rfl ?_
        refine wl_ov (ov_move rfl) rfl ?_
        refine wl_ov (ov_sleq rfl rfl) rfl ?_
        refine wl_ov (ov_assign rfl) rfl ?_
        refine wl_nil ?_
        refine nx_then ?_
        refine gw_cond rfl (fun hh => ?_) (fun hh => ?_)
        · have h9 : (Op.bytesLess ke.toList (prevCs l k).toList || ke.toList == (prevCs l k).toList) = true := by simpa using hh
          clear hh
          refine gw_seq ?_
          refine gw_region ?_
          have hO : leCs (prevOf l k) ⟨ke, up⟩ = true := (prevCs_le (b := ⟨ke, up⟩) (by simpa using h2)).symm.trans h9
          refine wl_ov (ov_assign rfl) rfl ?_
          refine wl_nil ?_
          refine nx_then ?_
          refine gw_ret ?_
          refine nx_blk_ret ?_
          refine nx_then_ret ?_
          refine nx_blk_ret ?_
          refine nx_then_ret ?_
          refine nx_then_ret ?_
          refine nx_blk_ret ?_
          refine nx_then_ret ?_
          have hE : csE (prevOf l k) ⟨ke, up⟩ = 7 := by unfold csE; simp [h2, hO]
          refine nx_ret1 rfl rfl fun wx hm => ?_
          exact ⟨ret_int (by rw [cls_scan h30 (v := 7) (by rw [hinv.2, hat, if_neg (by rw [hE]; decide), hE]) (by decide)]), hm.g⟩
        · have h9 : (Op.bytesLess ke.toList (prevCs l k).toList || ke.toList == (prevCs l k).toList) = false := by simpa using hh
          clear hh
          refine gw_seq ?_
          refine gw_region ?_
          have hO : leCs (prevOf l k) ⟨ke, up⟩ = false := (prevCs_le (b := ⟨ke, up⟩) (by simpa using h2)).symm.trans h9
          refine wl_ov (ov_field fo135_1 rfl rfl) rfl ?_
          refine wl_ov (ov_load sc9 rfl (fun _ hm => hm.blkI 0 rfl) rfl) rfl ?_
          refine wl_ov (ov_sneq rfl rfl) rfl ?_
          refine wl_ov (ov_move rfl) rfl ?_
          rcases Bool.eq_false_or_eq_true (!(up.toList == (⟨#[]⟩ : ByteArray).toList)) with h31 | h31
          · refine wl_set 33 rfl (congrArg Value.bool h31) ?_
            have h31 : emptyS up = false := by unfold emptyS; simpa only [Bool.not_eq_true'] using h31
            refine wl_guard_on rfl rfl rfl ?_
            refine wl_ov (ov_field fo135_1 rfl rfl) rfl ?_
            refine wl_guard_on rfl rfl rfl ?_
            refine wl_ov (ov_load sc9 rfl (fun _ hm => hm.blkI 0 rfl) rfl) rfl ?_
            refine wl_guard_on rfl rfl rfl ?_
            refine wl_callv rfl cb65 rfl rfl (fun wx hm => (key_any _ wx (by omega))) ?_
            refine wl_guard_on rfl rfl rfl ?_
            refine wl_ov (ov_un_not rfl) rfl ?_
            refine wl_ov (ov_pick_t rfl rfl) rfl ?_
            refine wl_ov (ov_assign rfl) rfl ?_
            refine wl_nil ?_
            refine nx_then ?_
            refine gw_cond rfl (fun hh => ?_) (fun hh => ?_)
            · have h32 : (keyB up) = false := by simpa using hh
              clear hh
              refine gw_seq ?_
              refine gw_region ?_
              refine wl_ov (ov_assign rfl) rfl ?_
              refine wl_nil ?_
              refine nx_then ?_
              refine gw_ret ?_
              refine nx_blk_ret ?_
              refine nx_then_ret ?_
              refine nx_blk_ret ?_
              refine nx_then_ret ?_
              refine nx_then_ret ?_
              refine nx_blk_ret ?_
              refine nx_then_ret ?_
              have hE : csE (prevOf l k) ⟨ke, up⟩ = 5 := by unfold csE; simp [h2, hO, h31, h32]
              refine nx_ret1 rfl rfl fun wx hm => ?_
              exact ⟨ret_int (by rw [cls_scan h30 (v := 5) (by rw [hinv.2, hat, if_neg (by rw [hE]; decide), hE]) (by decide)]), hm.g⟩
            · have h32 : (keyB up) = true := by simpa using hh
              clear hh
              refine gw_skip ?_
              refine nx_blk_nrm ?_
              refine nx_then ?_
              refine gw_region ?_
              have hE : csE (prevOf l k) ⟨ke, up⟩ = 0 := by unfold csE; simp [h2, hO, h31, h32]
              refine wl_ov (ov_field fo135_0 rfl rfl) rfl ?_
              refine wl_ov (ov_load sc9 rfl (fun _ hm => hm.blkI 0 rfl) rfl) rfl ?_
              refine wl_ov (ov_assign rfl) rfl ?_
              refine wl_nil ?_
              refine nx_blk_nrm ?_
              refine nx_then ?_
              refine gw_region ?_
              refine wl_ov (ov_add rfl rfl (by omega) (by omega)) rfl ?_
              refine wl_ov (ov_move rfl) rfl ?_
              refine wl_nil ?_
              exact nx_round (k + 1) ⟨by omega, by rw [hinv.2, hat, if_pos hE]⟩ (by omega) ⟨rfl, (congrArg (fun z => some (Value.string z)) (prevCs_succ hx).symm), rfl, rfl, (some_int (by omega)), trivial⟩ (fun _ hm => hm.pick [] [] [0] rfl rfl)
          · refine wl_set 33 rfl (congrArg Value.bool h31) ?_
            have h31 : emptyS up = true := by unfold emptyS; simpa only [Bool.not_eq_false'] using h31
            have hE : csE (prevOf l k) ⟨ke, up⟩ = 0 := by unfold csE; simp [h2, hO, h31]
            refine wl_guard_off rfl rfl rfl (by decide) rfl ?_
            refine wl_guard_off rfl rfl rfl (by decide) rfl ?_
            refine wl_guard_off rfl rfl rfl (by decide) rfl ?_
            refine wl_guard_off rfl rfl rfl (by decide) rfl ?_
            refine wl_ov (ov_pick_f rfl rfl) rfl ?_
            refine wl_ov (ov_assign rfl) rfl ?_
            refine wl_nil ?_
            refine nx_then ?_
            refine gw_cond rfl (fun hh => by cases hh) (fun _ => ?_)
            refine gw_skip ?_
            refine nx_blk_nrm ?_
            refine nx_then ?_
            refine gw_region ?_
            refine wl_ov (ov_field fo135_0 rfl rfl) rfl ?_
            refine wl_ov (ov_load sc9 rfl (fun _ hm => hm.blkI 0 rfl) rfl) rfl ?_
            refine wl_ov (ov_assign rfl) rfl ?_
            refine wl_nil ?_
            refine nx_blk_nrm ?_
            refine nx_then ?_
            refine gw_region ?_
            refine wl_ov (ov_add rfl rfl (by omega) (by omega)) rfl ?_
            refine wl_ov (ov_move rfl) rfl ?_
            refine wl_nil ?_
            exact nx_round (k + 1) ⟨by omega, by rw [hinv.2, hat, if_pos hE]⟩ (by omega) ⟨rfl, (congrArg (fun z => some (Value.string z)) (prevCs_succ hx).symm), rfl, rfl, (some_int (by omega)), trivial⟩ (fun _ hm => hm.pick [] [] [0] rfl rfl)
    · have hk : ¬ (((k : Nat) : Int) < ((n : Nat) : Int)) := by simpa using hh
      clear hh
      refine gw_exit ?_
      refine nx_then_exit ?_
      refine nx_then_exit ?_
      refine nx_blk_here ?_
      refine nx_then ?_
      refine gw_seq ?_
      refine gw_seq ?_
      refine gw_region ?_
      have hsc : scanE csE none l = 0 := by rw [hinv.2, scanE_end _ _ _ _ (by omega)]
      clear hinv hk
      refine wl_ov (ov_move rfl) rfl ?_
      refine wl_ov (ov_len es50 rfl) rfl ?_
      refine wl_ov (ov_move rfl) rfl ?_
      refine wl_nil ?_
      refine nx_then ?_
      refine gw_block ?_
      refine gw_loop (γ := Nat) (fun (k2 : Nat) => k2 ≤ n ∧ l.any (upB l) = (l.drop k2).any (upB l)) (fun (k2 : Nat) => [(0, .slice A n c), (42, .slice A n c), (43, .int .i64 ((n : Nat) : Int)), (44, .int .i64 ((k2 : Nat) : Int))]) (fun (k2 : Nat) => fun _ => True) (fun (k2 : Nat) => []) (fun (k2 : Nat) => []) (fun (k2 : Nat) => [SlOld csEnc 2 135 w.heap.size none A n l]) (fun (k2 : Nat) => n - k2) 0 ⟨Nat.zero_le _, rfl⟩ ⟨rfl, rfl, rfl, rfl, trivial⟩ (fun _ hm => hm.pick [] [] [0] rfl rfl) ?_
      intro k2 hinv
      replace hinv : k2 ≤ n ∧ l.any (upB l) = (l.drop k2).any (upB l) := hinv
      refine gw_seq ?_
      refine gw_region ?_
      refine wl_ov (ov_lss rfl rfl) rfl ?_
      refine wl_nil ?_
      refine nx_then ?_
      refine gw_seq ?_
      refine gw_cond rfl (fun hh => ?_) (fun hh => ?_)
      · have hk : ((k2 : Nat) : Int) < ((n : Nat) : Int) := by simpa using hh
        clear hh
        refine gw_skip ?_
        refine nx_then ?_
        refine gw_seq ?_
        refine gw_block ?_
        refine gw_seq ?_
        refine gw_region ?_
        obtain ⟨b, off, hA, _, _⟩ := hl.get (by omega)
        subst hA
        obtain ⟨x, hx⟩ : ∃ x, l[k2]? = some x := ⟨_, List.getElem?_eq_getElem (by omega)⟩
        obtain ⟨ke, up⟩ := x
        have hat := any_at (p := upB l) hx
        have hk2 : up.size ≤ 1000000 := (hok _ (List.mem_of_getElem? hx)).2
        refine wl_ov (ov_index (j := k2) es50 rfl rfl (by omega)) rfl ?_
        refine wl_ov (ov_elem (vs := [.string ke, .string up]) rz135 rfl (fun _ hm => (hm.fact 0 rfl).1) hx rfl rfl) rfl ?_
        refine wl_alloc zc135 rfl fun g2 => ?_
        refine wl_stores (cs' := [.string ke, .string up]) 0 rz135 rfl rfl rfl rfl rfl rfl rfl rfl ?_
        refine wl_nil ?_
        refine nx_then ?_
        refine gw_seq ?_
        refine gw_region ?_
        refine wl_ov (ov_field fo135_1 rfl rfl) rfl ?_
        refine wl_ov (ov_load sc9 rfl (fun _ hm => hm.blkI 0 rfl) rfl) rfl ?_
        refine wl_ov (ov_sneq rfl rfl) rfl ?_
        refine wl_ov (ov_move rfl) rfl ?_
        rcases Bool.eq_false_or_eq_true (!(up.toList == (⟨#[]⟩ : ByteArray).toList)) with h31 | h31
        · refine wl_set 51 rfl (congrArg Value.bool h31) ?_
          have h31 : emptyS up = false := by unfold emptyS; simpa only [Bool.not_eq_true'] using h31
          refine wl_guard_on rfl rfl rfl ?_
          refine wl_ov (ov_move rfl) rfl ?_
          refine wl_guard_on rfl rfl rfl ?_
          refine wl_ov (ov_field fo135_1 rfl rfl) rfl ?_
          refine wl_guard_on rfl rfl rfl ?_
          refine wl_ov (ov_load sc9 rfl (fun _ hm => hm.blkI 0 rfl) rfl) rfl ?_
          refine wl_guard_on rfl rfl rfl ?_
          refine wl_callv rfl cb21 rfl rfl (fun wx hm => (rClassAt_any l _ n c up wx (hm.fact 0 rfl).1 (by omega))) ?_
          refine wl_guard_on rfl rfl rfl ?_
          refine wl_ov (ov_lss rfl rfl) rfl ?_
          refine wl_ov (ov_pick_t rfl rfl) rfl ?_
          refine wl_nil ?_
          refine nx_then ?_
          refine gw_cond rfl (fun hh => ?_) (fun hh => ?_)
          · have h32 : ixP (csP up) l 0 < 0 := by simpa using hh
            clear hh
            refine gw_seq ?_
            refine gw_region ?_
            refine wl_ov (ov_assign rfl) rfl ?_
            refine wl_nil ?_
            refine nx_then ?_
            refine gw_ret ?_
            refine nx_blk_ret ?_
            refine nx_then_ret ?_
            refine nx_then_ret ?_
            refine nx_blk_ret ?_
            refine nx_then_ret ?_
            have hE : upB l ⟨ke, up⟩ = true := by unfold upB; simp [h31, h32]
            refine nx_ret1 rfl rfl fun wx hm => ?_
            exact ⟨ret_int (by rw [cls_up h30 hsc (by rw [hinv.2, hat, hE]; rfl)]), hm.g⟩
          · have h32 : ¬ (ixP (csP up) l 0 < 0) := by simpa using hh
            clear hh
            refine gw_skip ?_
            refine nx_blk_nrm ?_
            refine nx_then ?_
            refine gw_region ?_
            have hE : upB l ⟨ke, up⟩ = false := by unfold upB; simp [h31]; omega
            refine wl_ov (ov_add rfl rfl (by omega) (by omega)) rfl ?_
            refine wl_ov (ov_move rfl) rfl ?_
            refine wl_nil ?_
            exact nx_round (k2 + 1) ⟨by omega, by rw [hinv.2, hat, hE]; rfl⟩ (by omega) ⟨rfl, rfl, rfl, (some_int (by omega)), trivial⟩ (fun _ hm => hm.pick [] [] [0] rfl rfl)
        · refine wl_set 51 rfl (congrArg Value.bool h31) ?_
          have h31 : emptyS up = true := by unfold emptyS; simpa only [Bool.not_eq_false'] using h31
          have hE : upB l ⟨ke, up⟩ = false := by unfold upB; simp [h31]
          refine wl_guard_off rfl rfl rfl (by decide) rfl ?_
          refine wl_guard_off rfl rfl rfl (by decide) rfl ?_
          refine wl_guard_off rfl rfl rfl (by decide) rfl ?_
          refine wl_guard_off rfl rfl rfl (by decide) rfl ?_
          refine wl_guard_off rfl rfl rfl (by decide) rfl ?_
          refine wl_ov (ov_pick_f rfl rfl) rfl ?_
          refine wl_nil ?_
          refine nx_then ?_
          refine gw_cond rfl (fun hh => by cases hh) (fun _ => ?_)
          refine gw_skip ?_
          refine nx_blk_nrm ?_
          refine nx_then ?_
          refine gw_region ?_
          refine wl_ov (ov_add rfl rfl (by omega) (by omega)) rfl ?_
          refine wl_ov (ov_move rfl) rfl ?_
          refine wl_nil ?_
          exact nx_round (k2 + 1) ⟨by omega, by rw [hinv.2, hat, hE]; rfl⟩ (by omega) ⟨rfl, rfl, rfl, (some_int (by omega)), trivial⟩ (fun _ hm => hm.pick [] [] [0] rfl rfl)
      · have hk : ¬ (((k2 : Nat) : Int) < ((n : Nat) : Int)) := by simpa using hh
        clear hh
        refine gw_exit ?_
        refine nx_then_exit ?_
        refine nx_then_exit ?_
        refine nx_blk_here ?_
        refine nx_then ?_
        refine gw_seq ?_
        refine gw_seq ?_
        refine gw_region ?_
        have hup : l.any (upB l) = false := by rw [hinv.2, any_end (by omega)]
        clear hinv hk
        have hcl := closed_of hup
        have hlo := cls_loop h30 hsc hup
        rw [← loop_same hcl] at hlo
        refine wl_ov (ov_move rfl) rfl ?_
        refine wl_ov (ov_len es50 rfl) rfl ?_
        refine wl_ov (ov_move rfl) rfl ?_
        refine wl_nil ?_
        refine nx_then ?_
        refine gw_block ?_
        refine gw_loop (γ := Nat) (fun (k3 : Nat) => k3 ≤ n ∧ l.any (fun x => inK x.key (pathN l (n + 1) x.key)) = (l.drop k3).any (fun x => inK x.key (pathN l (n + 1) x.key))) (fun (k3 : Nat) => [(0, .slice A n c), (59, .slice A n c), (60, .int .i64 ((n : Nat) : Int)), (61, .int .i64 ((k3 : Nat) : Int))]) (fun (k3 : Nat) => fun _ => True) (fun (k3 : Nat) => []) (fun (k3 : Nat) => []) (fun (k3 : Nat) => [SlOld csEnc 2 135 w.heap.size none A n l]) (fun (k3 : Nat) => n - k3) 0 ⟨Nat.zero_le _, rfl⟩ ⟨rfl, rfl, rfl, rfl, trivial⟩ (fun _ hm => hm.pick [] [] [0] rfl rfl) ?_
        intro k3 hinv
        replace hinv : k3 ≤ n ∧ l.any (fun x => inK x.key (pathN l (n + 1) x.key)) = (l.drop k3).any (fun x => inK x.key (pathN l (n + 1) x.key)) := hinv
        refine gw_seq ?_
        refine gw_region ?_
        have hlo2 : classesE l = if l.any (fun x => inK x.key (pathN l (n + 1) x.key)) = true then 14 else 0 := by rw [hlo]; unfold loopB; rw [hlen]
        refine wl_ov (ov_lss rfl rfl) rfl ?_
        refine wl_nil ?_
        refine nx_then ?_
        refine gw_seq ?_
        refine gw_cond rfl (fun hh => ?_) (fun hh => ?_)
        · have hk : ((k3 : Nat) : Int) < ((n : Nat) : Int) := by simpa using hh
          clear hh
          refine gw_skip ?_
          refine nx_then ?_
          refine gw_seq ?_
          refine gw_block ?_
          refine gw_seq ?_
          refine gw_region ?_
          obtain ⟨b, off, hA, _, _⟩ := hl.get (by omega)
          subst hA
          obtain ⟨x, hx⟩ : ∃ x, l[k3]? = some x := ⟨_, List.getElem?_eq_getElem (by omega)⟩
          obtain ⟨ke, up⟩ := x
          have hat := any_at (p := (fun x => inK x.key (pathN l (n + 1) x.key))) hx
          have hk2 : ke.size ≤ 1000000 := (hok _ (List.mem_of_getElem? hx)).1
          have hix : 0 ≤ ixP (csP ke) l 0 := by
            rcases ixP_spec (p := csP ke) l 0 with ⟨_, h⟩ | ⟨j, x, h, _⟩
            · have := h _ (List.mem_of_getElem? hx)
              simp [csP] at this
            · omega
          refine wl_ov (ov_index (j := k3) es50 rfl rfl (by omega)) rfl ?_
          refine wl_ov (ov_elem (vs := [.string ke, .string up]) rz135 rfl (fun _ hm => (hm.fact 0 rfl).1) hx rfl rfl) rfl ?_
          refine wl_alloc zc135 rfl fun g3 => ?_
          refine wl_stores (cs' := [.string ke, .string up]) 0 rz135 rfl rfl rfl rfl rfl rfl rfl rfl ?_
          refine wl_nil ?_
          refine nx_then ?_
          refine gw_seq ?_
          refine gw_draw (fun wz => Blk wz g3 135 [.string ke, .string up] ∧ (SlOld csEnc 2 135 w.heap.size none (some ⟨b, off, none⟩) n l) wz ∧ True) mixed ?_
          refine wa_take 0 rfl (by kernel_rfl) (by kernel_rfl) (by kernel_rfl) (listed' := #[true, false, false, false, false, false, false]) rfl (fun _ _ _ h => h) (fun _ hm => ⟨hm.blkI 0 rfl, hm.fact 0 rfl, trivial⟩) (ov_move rfl) rfl ?_
          refine wa_take 1 rfl (by kernel_rfl) (by kernel_rfl) (by kernel_rfl) (listed' := #[true, true, false, false, false, false, false]) rfl (fun _ _ _ h => h) (fun _ hm => ⟨hm.blkI 0 rfl, hm.fact 0 rfl, trivial⟩) (ov_field fo135_0 rfl rfl) rfl ?_
          refine wa_take 2 rfl (by kernel_rfl) (by kernel_rfl) (by kernel_rfl) (listed' := #[true, true, true, false, false, false, false]) rfl (fun _ _ _ h => h) (fun _ hm => ⟨hm.blkI 0 rfl, hm.fact 0 rfl, trivial⟩) (ov_load sc9 rfl (fun _ hm => hm.1) rfl) rfl ?_
          refine wa_take 4 rfl (by kernel_rfl) (by kernel_rfl) (by kernel_rfl) (listed' := #[true, true, true, false, true, false, false]) rfl (fun _ _ _ h => h) (fun _ hm => ⟨hm.blkI 0 rfl, hm.fact 0 rfl, trivial⟩) (ov_field fo135_0 rfl rfl) rfl ?_
          refine wa_take 5 rfl (by kernel_rfl) (by kernel_rfl) (by kernel_rfl) (listed' := #[true, true, true, false, true, true, false]) rfl (fun _ _ _ h => h) (fun _ hm => ⟨hm.blkI 0 rfl, hm.fact 0 rfl, trivial⟩) (ov_load sc9 rfl (fun _ hm => hm.1) rfl) rfl ?_
          refine wa_all [3] (by kernel_rfl) rfl ⟨⟨_, rfl, ?_⟩, trivial⟩
          refine wl_callgo (γ := Option Addr × Nat × Nat) (val := (fun (g : Option Addr × Nat × Nat) => .slice g.1 g.2.1 g.2.2)) (φ := (fun (g : Option Addr × Nat × Nat) => (pathN l (n + 1) ke).length = g.2.1)) (fun (g : Option Addr × Nat × Nat) => ⟨.slice g.1 g.2.1 g.2.2, 9, 1, g.2.1, (pathN l (n + 1) ke).flatMap sgEnc⟩) rfl cb172 rfl rfl (fun wx hm => (ups_any l _ n c ke wx (hm.fact 0 rfl).1 hok (by omega)).mono fun _ _ ⟨A2, n2, c2, he, ho, hl2, hg⟩ => ⟨(A2, n2, c2), he, hl2, ho, hg⟩) ?_
          rintro ⟨A2, n2, c2⟩ hpl
          dsimp only at hpl ⊢
          have hpb := pathN_len l (n + 1) ke
          refine wl_nil ?_
          refine nx_wa0 (listed' := #[true, true, true, true, true, true, false]) rfl (fun _ hm => ⟨hm.blkI 0 rfl, hm.fact 0 rfl, trivial⟩) ?_
          refine wa_all [6] (by kernel_rfl) rfl ⟨⟨_, rfl, ?_⟩, trivial⟩
          refine wl_callv rfl cb138 rfl rfl (fun wx hm => (contains_str (pathN l (n + 1) ke) A2 n2 c2 ke wx (SlT.ofOwn sg_len (hm.ownI 0 rfl) hpl) (by omega))) ?_
          refine wl_nil ?_
          refine nx_wa0 (listed' := #[true, true, true, true, true, true, true]) rfl (fun _ hm => ⟨hm.blkI 0 rfl, hm.fact 0 rfl, trivial⟩) ?_
          refine wa_done (by kernel_rfl) ?_
          refine nx_then ?_
          refine gw_cond rfl (fun hh => ?_) (fun hh => ?_)
          · have h33 : (inK ke (pathN l (n + 1) ke)) = true := by simpa using hh
            clear hh
            refine gw_seq ?_
            refine gw_region ?_
            refine wl_ov (ov_assign rfl) rfl ?_
            refine wl_nil ?_
            refine nx_then ?_
            refine gw_ret ?_
            refine nx_blk_ret ?_
            refine nx_then_ret ?_
            refine nx_then_ret ?_
            refine nx_blk_ret ?_
            refine nx_then_ret ?_
            refine nx_ret1 rfl rfl fun wx hm => ?_
            exact ⟨ret_int (by rw [hlo2, if_pos (by rw [hinv.2, hat, h33]; rfl)]), hm.g⟩
          · have h33 : (inK ke (pathN l (n + 1) ke)) = false := by simpa using hh
            clear hh
            refine gw_skip ?_
            refine nx_blk_nrm ?_
            refine nx_then ?_
            refine gw_region ?_
            refine wl_ov (ov_add rfl rfl (by omega) (by omega)) rfl ?_
            refine wl_ov (ov_move rfl) rfl ?_
            refine wl_nil ?_
            exact nx_round (k3 + 1) ⟨by omega, by rw [hinv.2, hat, h33]; rfl⟩ (by omega) ⟨rfl, rfl, rfl, (some_int (by omega)), trivial⟩ (fun _ hm => hm.pick [] [] [0] rfl rfl)
        · have hk : ¬ (((k3 : Nat) : Int) < ((n : Nat) : Int)) := by simpa using hh
          clear hh
          refine gw_exit ?_
          refine nx_then_exit ?_
          refine nx_then_exit ?_
          refine nx_blk_here ?_
          refine nx_then ?_
          refine gw_seq ?_
          refine gw_region ?_
          refine wl_ov (ov_assign rfl) rfl ?_
          refine wl_nil ?_
          refine nx_then ?_
          refine gw_ret ?_
          refine nx_ret1 rfl rfl fun wx hm => ?_
          exact ⟨ret_int (by rw [hlo2, if_neg (by rw [hinv.2, any_end (by omega)]; decide)]), hm.g⟩

theorem keys_ok {l : List Cs} {ks : List ByteArray} (h : keysE l ks = 0) : classesE l = 0 ∧ ∀ k ∈ ks, 0 ≤ ixP (csP k) l 0 := by
  unfold keysE at h
  split at h
  · rename_i h1; exact absurd h h1
  · rename_i h1
    refine ⟨by simpa using h1, fun k hk => ?_⟩
    split at h
    · cases h
    · rename_i h2
      have h3 : ks.any (fun k => decide (ixP (csP k) l 0 < 0)) = false := by simpa using h2
      rw [List.any_eq_false] at h3
      have := h3 k hk
      simpa using this

end Go.Proofs.YtcggbojhalbkjaaGreatDoor
