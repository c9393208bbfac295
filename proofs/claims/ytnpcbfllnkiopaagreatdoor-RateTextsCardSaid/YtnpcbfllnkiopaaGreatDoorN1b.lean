/- Several texts as one: Xc Xd Bu Rdr Srt Xz Hd Rt Ta Gb Gt Tw Tb Mp Md Yl Ym Xa Td Te -/
import Derived.Test.YtnpcbfllnkiopaaGreatDoorN1a
import Derived.Deep.RegionHeld3
import Derived.IntWalk
import Derived.Maps.Own
import Derived.MapKept
set_option maxRecDepth 100000
set_option maxHeartbeats 4000000
namespace Go.Proofs.YtnpcbfllnkiopaaGreatDoor
open Go.RowKit
def tiEnc (x : Int) : List Value := [.int .i64 x]
theorem ti_len (x : Int) : (tiEnc x).length = 1 := rfl
def eqP (k : ByteArray) (y : ByteArray) : Bool := k.toList == y.toList
theorem words_len (s sep : ByteArray) (h1 : 1 ≤ sep.size) : (wordsL s sep).length = Lib.countB s sep + 1 := Lib.splitB_all sep h1 0 _ s rfl
theorem split_any (s sep : ByteArray) (w : World) (ht : TxtW w) (hs : s.size ≤ 1000000) (h1 : 1 ≤ sep.size) :
    Calls Tryz.prog 164 #[.string s, .string sep] w (fun e w' => ∃ g n, e = .returned (.slice (some ⟨g, 0, none⟩) n n) ∧ SlT sgEnc 1 9 w' (some ⟨g, 0, none⟩) n (wordsL s sep) ∧ (1 ≤ n ∧ n ≤ s.size + 1) ∧ w.grownBy w' none) := by
  obtain ⟨mx, hm⟩ := ht.max
  refine (Any.strings_Split Tryz.lays146 (by kernel_rfl) s sep mx w (by omega) hm h1).mono fun e w' ⟨he, hw⟩ => ⟨w.heap.size, Lib.countB s sep + 1, he, ?_, ⟨by omega, ?_⟩, ?_⟩
  · have hb : Blk w' w.heap.size 9 ((wordsL s sep).flatMap sgEnc) := by
      have e1 : (wordsL s sep).flatMap sgEnc = (wordsL s sep).map Value.string := by
        induction wordsL s sep with
        | nil => rfl
        | cons x r ih => rw [List.flatMap_cons, ih]; rfl
      rw [e1, hw]
      show (w.heap.push _)[w.heap.size]? = _
      rw [Array.getElem?_push_size]; rfl
    have h := SlT.ofBlk (l := wordsL s sep) sg_len hb
    rw [words_len s sep h1] at h; exact h
  · have := Lib.countB_le sep h1 s.size s (Nat.le_refl _); omega
  · rw [hw]; exact grow_alloc grow_self _
theorem tIndex_any (l : List ByteArray) (A : Option Addr) (n c : Nat) (k : ByteArray) (w : World) (hl : SlT sgEnc 1 9 w A n l) (hn : n ≤ 1000001) :
  Calls Tryz.prog 109 #[.slice A n c, .string k] w (GotE w (ixP (eqP k) l 0)) := by
 refine gw_enter ⟨19, w, none, []⟩ Tryz.func109 rfl Tryz.ntmps109 rfl (mem0 (X := [SlOld sgEnc 1 9 w.heap.size none A n l]) (allF_cons hl.old allF_nil) (allL_cons SlOld.lasts allL_nil)) ?_
 refine sr_ ?_
 have hlen := hl.len
 refine sg_ rfl (nn_ (gw_seq (sr_ (mv_ rfl (wl_ov (ov_len es112 rfl) rfl (mv_ rfl (nn_ (gw_block ?_))))))))
 refine gw_loop (γ := Nat) (fun (i : Nat) => i ≤ n ∧ ixP (eqP k) l 0 = ixP (eqP k) (l.drop i) i) (fun (i : Nat) => [(0, .slice A n c), (1, .string k), (7, .int .i64 ((n : Nat) : Int)), (8, .int .i64 ((i : Nat) : Int))]) (fun (i : Nat) => fun _ => True) (fun (i : Nat) => []) (fun (i : Nat) => []) (fun (i : Nat) => [SlOld sgEnc 1 9 w.heap.size none A n l]) (fun (i : Nat) => n - i) 0 ⟨Nat.zero_le _, rfl⟩ ⟨rfl, rfl, rfl, rfl, trivial⟩ (fun _ hm => hm.pick [] [] [0] rfl rfl) ?_
 intro i hinv
 replace hinv : i ≤ n ∧ ixP (eqP k) l 0 = ixP (eqP k) (l.drop i) i := hinv
 refine sr_ (wl_ov (ov_lss rfl rfl) rfl (nn_ (gw_seq ?_)))
 refine gw_cond rfl (fun hh => ?_) (fun hh => ?_)
 ·have hi : ((i : Nat) : Int) < ((n : Nat) : Int) := by simpa using hh
  clear hh
  refine gw_skip (nx_then (gw_seq (gw_block (sr_ ?_))))
  obtain ⟨b, off, hA, _, _⟩ := hl.get (by omega)
  subst hA
  obtain ⟨x, hx⟩ : ∃ x, l[i]? = some x := ⟨_, List.getElem?_eq_getElem (by omega)⟩
  have hat := ixP_at (p := eqP k) hx
  refine mv_ rfl (sg_ rfl (nn_ (sr_ (mv_ rfl (mv_ rfl (mv_ rfl ?_))))))
  refine wl_ov (ov_index (j := i) es112 rfl rfl (by omega)) rfl ?_
  refine wl_ov (ov_elem1 (k := 0) (v := .string x) sc9 rfl (fun _ hm => (hm.fact 0 rfl).1) hx rfl rfl) rfl ?_
  refine wl_ov (ov_seql rfl rfl) rfl (nn_ ?_)
  refine gw_cond rfl (fun hh => ?_) (fun hh => ?_)
  ·have hq : (k.toList == x.toList) = true := by simpa using hh
   clear hh
   refine sr_ ?_
   have hq2 : eqP k x = true := hq
   refine mv_ rfl (sg_ rfl (nn_ ?_))
   refine gw_ret ?_
   refine nx_blk_ret (nx_then_ret (nx_then_ret (nx_blk_ret (nx_then_ret ?_))))
   refine nx_ret1 rfl rfl fun wx hm => ?_
   exact ⟨ret_int (by rw [hinv.2, hat, if_pos hq2]), hm.g⟩
  have hq : (k.toList == x.toList) = false := by simpa using hh
  clear hh
  refine gw_skip (nx_blk_nrm (nx_then (gw_region ?_)))
  have hq2 : eqP k x = false := hq
  refine ad_ rfl rfl (mv_ rfl (wl_nil ?_))
  exact nx_round (i + 1) ⟨by omega, by rw [hinv.2, hat, if_neg (by rw [hq2]; decide)]⟩ (by omega) ⟨rfl, rfl, rfl, (some_int (by omega)), trivial⟩ (fun _ hm => hm.pick [] [] [0] rfl rfl)
 have hi : ¬ (((i : Nat) : Int) < ((n : Nat) : Int)) := by simpa using hh
 clear hh
 refine gw_exit ?_
 refine nx_then_exit (nx_then_exit ?_)
 refine nx_blk_here ?_
 refine nx_then (sr_ (sg_ rfl ?_))
 refine wl_set 4 (v' := .int .i64 (-1)) rfl rfl ?_
 refine nn_ ?_
 refine gw_ret ?_
 refine nx_ret1 rfl rfl fun wx hm => ?_
 exact ⟨ret_int (by rw [hinv.2, List.drop_eq_nil_of_le (by omega)]; rfl), hm.g⟩
theorem tix_any {p : ByteArray → Bool} {l : List ByteArray} : decide (0 ≤ ixP p l 0) = l.any p := by
  rcases ixP_spec (p := p) l 0 with ⟨h, h2⟩ | ⟨j, y, h, hj, hp, _⟩
  · rw [h, decide_eq_false (by omega)]
    exact (List.any_eq_false.2 fun x hx => by simpa using h2 x hx).symm
  · rw [h, decide_eq_true (by omega)]
    exact (List.any_eq_true.2 ⟨y, List.mem_of_getElem? hj, hp⟩).symm
theorem tContains_any (l : List ByteArray) (A : Option Addr) (n c : Nat) (k : ByteArray) (w : World) (hl : SlT sgEnc 1 9 w A n l) (hn : n ≤ 1000001) :
  Calls Tryz.prog 165 #[.slice A n c, .string k] w (fun e w' => e = .returned (.bool (l.any (eqP k))) ∧ w.grownBy w' none) := by
 refine gw_enter ⟨9, w, none, []⟩ Tryz.func165 rfl Tryz.ntmps165 rfl (mem0 (X := [SlOld sgEnc 1 9 w.heap.size none A n l]) (allF_cons hl.old allF_nil) (allL_cons SlOld.lasts allL_nil)) ?_
 refine sr_ (sg_ rfl (nn_ (sr_ (mv_ rfl (mv_ rfl ?_)))))
 refine wl_callv rfl cb109 rfl rfl (fun wx hm => (tIndex_any l A n c k wx (hm.fact 0 rfl).1 hn)) ?_
 refine wl_ov (ov_geq rfl rfl) rfl ?_
 refine sg_ rfl (nn_ ?_)
 refine gw_ret ?_
 refine nx_ret1 rfl rfl fun wx hm => ?_
 exact ⟨by rw [tix_any], hm.g⟩
def wdL (s : ByteArray) : List ByteArray := wordsL s ⟨#[32]⟩
def wdB (s : ByteArray) : Bool := !((wdL s).any (eqP ⟨#[]⟩))
theorem words_any (s : ByteArray) (w : World) (ht : TxtW w) (hs : s.size ≤ 1000000) :
  Calls Tryz.prog 68 #[.string s] w (fun e w' => ∃ g n, e = .returned (.tuple #[.slice (some ⟨g, 0, none⟩) n n, .bool (wdB s)]) ∧ SlT sgEnc 1 9 w' (some ⟨g, 0, none⟩) n (wdL s) ∧ (1 ≤ n ∧ n ≤ s.size + 1) ∧ w.grownBy w' none) := by
 refine gw_enter ⟨11, w, none, [9]⟩ Tryz.func68 rfl Tryz.ntmps68 rfl (mem0 (X := [TxtO w.heap.size none]) (allF_cons ht.old allF_nil) (allL_cons TxtO.lasts allL_nil)) ?_
 refine sr_ (sg_ rfl (sg_ rfl (nn_ (sr_ (mv_ rfl ?_)))))
 refine wl_callx (γ := Nat × Nat) (val := (fun g => .slice (some ⟨g.1, 0, none⟩) g.2 g.2)) (φ := (fun g => 1 ≤ g.2 ∧ g.2 ≤ s.size + 1)) (Y := (fun g => fun wy => SlT sgEnc 1 9 wy (some ⟨g.1, 0, none⟩) g.2 (wdL s))) rfl cb164 rfl rfl (fun wx hm => (split_any s ⟨#[32]⟩ wx (hm.fact 0 rfl).1 hs (by decide)).mono fun _ _ ⟨g, n, he, h1, h2, hg⟩ => ⟨(g, n), he, h2, hg, h1⟩) (fun _ => SlT.lasts2 rfl) ?_
 rintro ⟨g, n⟩ hn
 dsimp only at hn ⊢
 refine sg_ rfl (nn_ (sr_ (mv_ rfl (mv_ rfl ?_))))
 refine wl_callv rfl cb165 rfl rfl (fun wx hm => (tContains_any (wdL s) (some ⟨g, 0, none⟩) n n ⟨#[]⟩ wx (hm.fact 0 rfl) (by omega))) ?_
 refine wl_ov (ov_un_not rfl) rfl (sg_ rfl (sg_ rfl (nn_ ?_)))
 refine gw_ret ?_
 refine nx_ret2 rfl rfl rfl fun wx hm => ?_
 exact ⟨g, n, rfl, (hm.fact 0 rfl), hn, hm.g⟩
theorem rwords_any (s : ByteArray) (w : World) (ht : TxtW w) (hs : s.size ≤ 1000000) :
  Calls Tryz.prog 72 #[.string s] w (fun e w' => ∃ g n, e = .returned (.tuple #[.slice (some ⟨g, 0, none⟩) n n, .bool (wdB s)]) ∧ SlT sgEnc 1 9 w' (some ⟨g, 0, none⟩) n (wdL s) ∧ (1 ≤ n ∧ n ≤ s.size + 1) ∧ w.grownBy w' none) := by
 refine gw_enter ⟨11, w, none, [9]⟩ Tryz.func72 rfl Tryz.ntmps72 rfl (mem0 (X := [TxtO w.heap.size none]) (allF_cons ht.old allF_nil) (allL_cons TxtO.lasts allL_nil)) ?_
 refine sr_ (sg_ rfl (sg_ rfl (nn_ (sr_ (mv_ rfl ?_)))))
 refine wl_callx (γ := Nat × Nat) (val := (fun g => .slice (some ⟨g.1, 0, none⟩) g.2 g.2)) (φ := (fun g => 1 ≤ g.2 ∧ g.2 ≤ s.size + 1)) (Y := (fun g => fun wy => SlT sgEnc 1 9 wy (some ⟨g.1, 0, none⟩) g.2 (wdL s))) rfl cb164 rfl rfl (fun wx hm => (split_any s ⟨#[32]⟩ wx (hm.fact 0 rfl).1 hs (by decide)).mono fun _ _ ⟨g, n, he, h1, h2, hg⟩ => ⟨(g, n), he, h2, hg, h1⟩) (fun _ => SlT.lasts2 rfl) ?_
 rintro ⟨g, n⟩ hn
 dsimp only at hn ⊢
 refine sg_ rfl (nn_ (sr_ (mv_ rfl (mv_ rfl ?_))))
 refine wl_callv rfl cb165 rfl rfl (fun wx hm => (tContains_any (wdL s) (some ⟨g, 0, none⟩) n n ⟨#[]⟩ wx (hm.fact 0 rfl) (by omega))) ?_
 refine wl_ov (ov_un_not rfl) rfl (sg_ rfl (sg_ rfl (nn_ ?_)))
 refine gw_ret ?_
 refine nx_ret2 rfl rfl rfl fun wx hm => ?_
 exact ⟨g, n, rfl, (hm.fact 0 rfl), hn, hm.g⟩
theorem all_at {l : List ByteArray} {i : Nat} {x : ByteArray} (h : l[i]? = some x) : (l.take (i + 1)).all numB = ((l.take i).all numB && numB x) := by
  rw [List.take_add_one, h, Option.toList_some, List.all_append]; simp
theorem all_not {l : List ByteArray} {x : ByteArray} (h : x ∈ l) (hx : numB x = false) : l.all numB = false := by
  cases h0 : l.all numB with
  | false => rfl
  | true => rw [List.all_eq_true.1 h0 x h] at hx; cases hx
theorem vals_at {l : List ByteArray} {i : Nat} {x : ByteArray} (h : l[i]? = some x) : ((l.take (i + 1)).map numV).flatMap tiEnc = ((l.take i).map numV).flatMap tiEnc ++ [.int .i64 (numV x)] := by
  rw [List.take_add_one, h, Option.toList_some, List.map_append, List.flatMap_append]; rfl
theorem numbers_any (l : List ByteArray) (A : Option Addr) (n c : Nat) (w : World) (ht : TxtW w) (hl : SlT sgEnc 1 9 w A n l) (hn : n ≤ 1000000) (hz : ∀ x ∈ l, x.size ≤ 1000000) :
  Calls Tryz.prog 69 #[.slice A n c] w (fun e w' => ∃ A' k c', e = .returned (.tuple #[.slice A' k c', .bool (l.all numB)]) ∧ (l.all numB = true → SlT tiEnc 1 3 w' A' k (l.map numV) ∧ k = n) ∧ w.grownBy w' none) := by
 refine gw_enter ⟨28, w, none, []⟩ Tryz.func69 rfl Tryz.ntmps69 rfl (mem0 (X := [SlOld sgEnc 1 9 w.heap.size none A n l, TxtO w.heap.size none]) (allF_cons hl.old (allF_cons ht.old allF_nil)) (allL_cons SlOld.lasts (allL_cons TxtO.lasts allL_nil))) ?_
 refine sr_ ?_
 have hlen := hl.len
 refine wl_nilOwn 3 1 ?_
 refine sg_ rfl (sg_ rfl (nn_ (sr_ (sg_ rfl (nn_ (gw_seq (sr_ (mv_ rfl (wl_ov (ov_len es112 rfl) rfl ?_)))))))))
 refine mv_ rfl (nn_ (gw_block ?_))
 refine gw_loop (γ := Nat × Option Addr × Nat) (fun g => g.1 ≤ n ∧ (l.take g.1).all numB = true) (fun g => [(4, .slice g.2.1 g.1 g.2.2), (9, .slice A n c), (10, .int .i64 ((n : Nat) : Int)), (11, .int .i64 ((g.1 : Nat) : Int))]) (fun g => fun _ => True) (fun g => []) (fun g => [⟨.slice g.2.1 g.1 g.2.2, 3, 1, g.1, ((l.take g.1).map numV).flatMap tiEnc⟩]) (fun g => [SlOld sgEnc 1 9 w.heap.size none A n l, TxtO w.heap.size none]) (fun g => n - g.1) (0, none, 0) ⟨Nat.zero_le _, rfl⟩ ⟨rfl, rfl, rfl, rfl, trivial⟩ (fun _ hm => hm.pick [] [0] [0, 1] rfl rfl) ?_
 rintro ⟨i, oA, oc⟩ hinv
 replace hinv : i ≤ n ∧ (l.take i).all numB = true := hinv
 dsimp only
 refine sr_ ?_
 obtain ⟨hi0, hall⟩ := hinv
 refine wl_ov (ov_lss rfl rfl) rfl (nn_ (gw_seq ?_))
 refine gw_cond rfl (fun hh => ?_) (fun hh => ?_)
 ·have hi : ((i : Nat) : Int) < ((n : Nat) : Int) := by simpa using hh
  clear hh
  refine gw_skip (nx_then (gw_seq (gw_block (sr_ ?_))))
  obtain ⟨b, off, hA, _, _⟩ := hl.get (by omega)
  subst hA
  obtain ⟨x, hx⟩ : ∃ x, l[i]? = some x := ⟨_, List.getElem?_eq_getElem (by omega)⟩
  have hxm := List.mem_of_getElem? hx
  have hxs := hz x hxm
  have hat := all_at hx
  rw [hall, Bool.true_and] at hat
  have hvt := vals_at hx
  refine wl_ov (ov_index (j := i) es112 rfl rfl (by omega)) rfl ?_
  refine wl_ov (ov_elem1 (k := 0) (v := .string x) sc9 rfl (fun _ hm => (hm.fact 0 rfl).1) hx rfl rfl) rfl ?_
  refine sg_ rfl (nn_ (sr_ (mv_ rfl ?_)))
  refine wl_callx (γ := Int) (val := (fun g => .tuple #[.int .i64 g, .bool (numB x)])) (φ := (fun g => numB x = true → g = numV x)) (Y := (fun g => fun _ => True)) rfl cb108 rfl rfl (fun wx hm => (number_any x wx (hm.fact 1 rfl).1 hxs).mono fun _ _ ⟨v, he, hv, hg⟩ => ⟨v, he, hv, hg, trivial⟩) (fun _ => Lasts2.true_) ?_
  rintro v hv
  refine mv_ rfl (wl_ov (ov_extract rfl rfl) rfl (wl_ov (ov_extract rfl rfl) rfl (sg_ rfl (sg_ rfl (nn_ (gw_seq (sr_ (mv_ rfl (wl_ov (ov_un_not rfl) rfl (nn_ ?_))))))))))
  refine gw_cond rfl (fun hh => ?_) (fun hh => ?_)
  ·have hb : (numB x) = false := by simpa using hh
   clear hh
   refine sr_ (sg_ rfl (sg_ rfl (nn_ ?_)))
   refine gw_ret ?_
   refine nx_then_ret (nx_blk_ret (nx_then_ret (nx_then_ret (nx_blk_ret (nx_then_ret ?_)))))
   have hbb : l.all numB = false := all_not hxm hb
   refine nx_ret2 rfl rfl rfl fun wx hm => ?_
   exact ⟨none, 0, 0, by rw [hbb], fun h => by (rw [hbb] at h; cases h), hm.g⟩
  have hb : (numB x) = true := by simpa using hh
  clear hh
  refine gw_skip (nx_then (gw_region ?_))
  obtain rfl := hv hb
  refine mv_ rfl (mv_ rfl ?_)
  refine wl_buildSlice (e := 3) (cs := [.int .i64 (numV x)]) rfl (by kernel_rfl) rfl fun g2 => ?_
  refine wl_append (news := [.int .i64 (numV x)]) 0 0 ap22 rfl rfl rfl rfl rfl rfl rfl (by omega) (by unfold maxLen; omega) rfl rfl fun v2 hv => ?_
  refine wl_look (R := ∃ A cc, v2 = .slice A (i + 1) cc) (fun wx hm => own_slice (hm.ownI 0 rfl)) ?_
  rintro ⟨A3, c3, rfl⟩
  rw [← hvt]
  refine sg_ rfl (wl_nil (nx_blk_nrm (nx_then (gw_region (ad_ rfl rfl (mv_ rfl (wl_nil ?_)))))))
  exact nx_round (i + 1, A3, c3) ⟨by dsimp only; omega, by dsimp only; rw [hat, hb]⟩ (by dsimp only; omega) ⟨rfl, rfl, rfl, (some_int (by omega)), trivial⟩ (fun _ hm => hm.pick [] [0] [1, 2] rfl rfl)
 have hi : ¬ (((i : Nat) : Int) < ((n : Nat) : Int)) := by simpa using hh
 clear hh
 refine gw_exit ?_
 refine nx_then_exit (nx_then_exit ?_)
 refine nx_blk_here ?_
 refine nx_then (sr_ ?_)
 have hlt : l.take i = l := List.take_of_length_le (by omega)
 rw [hlt] at hall
 rw [hlt]
 obtain rfl : i = n := by omega
 refine mv_ rfl (sg_ rfl (sg_ rfl (nn_ ?_)))
 refine gw_ret ?_
 refine nx_ret2 rfl rfl rfl fun wx hm => ?_
 exact ⟨oA, i, oc, by rw [hall], fun _ => ⟨SlT.ofOwn ti_len (hm.ownI 0 rfl) (by rw [List.length_map]; exact hlen), rfl⟩, hm.g⟩
theorem rnumbers_any (l : List ByteArray) (A : Option Addr) (n c : Nat) (w : World) (ht : TxtW w) (hl : SlT sgEnc 1 9 w A n l) (hn : n ≤ 1000000) (hz : ∀ x ∈ l, x.size ≤ 1000000) :
  Calls Tryz.prog 73 #[.slice A n c] w (fun e w' => ∃ A' k c', e = .returned (.tuple #[.slice A' k c', .bool (l.all numB)]) ∧ (l.all numB = true → SlT tiEnc 1 3 w' A' k (l.map numV) ∧ k = n) ∧ w.grownBy w' none) := by
 refine gw_enter ⟨28, w, none, []⟩ Tryz.func73 rfl Tryz.ntmps73 rfl (mem0 (X := [SlOld sgEnc 1 9 w.heap.size none A n l, TxtO w.heap.size none]) (allF_cons hl.old (allF_cons ht.old allF_nil)) (allL_cons SlOld.lasts (allL_cons TxtO.lasts allL_nil))) ?_
 refine sr_ ?_
 have hlen := hl.len
 refine wl_nilOwn 3 1 ?_
 refine sg_ rfl (sg_ rfl (nn_ (sr_ (sg_ rfl (nn_ (gw_seq (sr_ (mv_ rfl (wl_ov (ov_len es112 rfl) rfl ?_)))))))))
 refine mv_ rfl (nn_ (gw_block ?_))
 refine gw_loop (γ := Nat × Option Addr × Nat) (fun g => g.1 ≤ n ∧ (l.take g.1).all numB = true) (fun g => [(4, .slice g.2.1 g.1 g.2.2), (9, .slice A n c), (10, .int .i64 ((n : Nat) : Int)), (11, .int .i64 ((g.1 : Nat) : Int))]) (fun g => fun _ => True) (fun g => []) (fun g => [⟨.slice g.2.1 g.1 g.2.2, 3, 1, g.1, ((l.take g.1).map numV).flatMap tiEnc⟩]) (fun g => [SlOld sgEnc 1 9 w.heap.size none A n l, TxtO w.heap.size none]) (fun g => n - g.1) (0, none, 0) ⟨Nat.zero_le _, rfl⟩ ⟨rfl, rfl, rfl, rfl, trivial⟩ (fun _ hm => hm.pick [] [0] [0, 1] rfl rfl) ?_
 rintro ⟨i, oA, oc⟩ hinv
 replace hinv : i ≤ n ∧ (l.take i).all numB = true := hinv
 dsimp only
 refine sr_ ?_
 obtain ⟨hi0, hall⟩ := hinv
 refine wl_ov (ov_lss rfl rfl) rfl (nn_ (gw_seq ?_))
 refine gw_cond rfl (fun hh => ?_) (fun hh => ?_)
 ·have hi : ((i : Nat) : Int) < ((n : Nat) : Int) := by simpa using hh
  clear hh
  refine gw_skip (nx_then (gw_seq (gw_block (sr_ ?_))))
  obtain ⟨b, off, hA, _, _⟩ := hl.get (by omega)
  subst hA
  obtain ⟨x, hx⟩ : ∃ x, l[i]? = some x := ⟨_, List.getElem?_eq_getElem (by omega)⟩
  have hxm := List.mem_of_getElem? hx
  have hxs := hz x hxm
  have hat := all_at hx
  rw [hall, Bool.true_and] at hat
  have hvt := vals_at hx
  refine wl_ov (ov_index (j := i) es112 rfl rfl (by omega)) rfl ?_
  refine wl_ov (ov_elem1 (k := 0) (v := .string x) sc9 rfl (fun _ hm => (hm.fact 0 rfl).1) hx rfl rfl) rfl ?_
  refine sg_ rfl (nn_ (sr_ (mv_ rfl ?_)))
  refine wl_callx (γ := Int) (val := (fun g => .tuple #[.int .i64 g, .bool (numB x)])) (φ := (fun g => numB x = true → g = numV x)) (Y := (fun g => fun _ => True)) rfl cb122 rfl rfl (fun wx hm => (rnumber_any x wx (hm.fact 1 rfl).1 hxs).mono fun _ _ ⟨v, he, hv, hg⟩ => ⟨v, he, hv, hg, trivial⟩) (fun _ => Lasts2.true_) ?_
  rintro v hv
  refine mv_ rfl (wl_ov (ov_extract rfl rfl) rfl (wl_ov (ov_extract rfl rfl) rfl (sg_ rfl (sg_ rfl (nn_ (gw_seq (sr_ (mv_ rfl (wl_ov (ov_un_not rfl) rfl (nn_ ?_))))))))))
  refine gw_cond rfl (fun hh => ?_) (fun hh => ?_)
  ·have hb : (numB x) = false := by simpa using hh
   clear hh
   refine sr_ (sg_ rfl (sg_ rfl (nn_ ?_)))
   refine gw_ret ?_
   refine nx_then_ret (nx_blk_ret (nx_then_ret (nx_then_ret (nx_blk_ret (nx_then_ret ?_)))))
   have hbb : l.all numB = false := all_not hxm hb
   refine nx_ret2 rfl rfl rfl fun wx hm => ?_
   exact ⟨none, 0, 0, by rw [hbb], fun h => by (rw [hbb] at h; cases h), hm.g⟩
  have hb : (numB x) = true := by simpa using hh
  clear hh
  refine gw_skip (nx_then (gw_region ?_))
  obtain rfl := hv hb
  refine mv_ rfl (mv_ rfl ?_)
  refine wl_buildSlice (e := 3) (cs := [.int .i64 (numV x)]) rfl (by kernel_rfl) rfl fun g2 => ?_
  refine wl_append (news := [.int .i64 (numV x)]) 0 0 ap22 rfl rfl rfl rfl rfl rfl rfl (by omega) (by unfold maxLen; omega) rfl rfl fun v2 hv => ?_
  refine wl_look (R := ∃ A cc, v2 = .slice A (i + 1) cc) (fun wx hm => own_slice (hm.ownI 0 rfl)) ?_
  rintro ⟨A3, c3, rfl⟩
  rw [← hvt]
  refine sg_ rfl (wl_nil (nx_blk_nrm (nx_then (gw_region (ad_ rfl rfl (mv_ rfl (wl_nil ?_)))))))
  exact nx_round (i + 1, A3, c3) ⟨by dsimp only; omega, by dsimp only; rw [hat, hb]⟩ (by dsimp only; omega) ⟨rfl, rfl, rfl, (some_int (by omega)), trivial⟩ (fun _ hm => hm.pick [] [0] [1, 2] rfl rfl)
 have hi : ¬ (((i : Nat) : Int) < ((n : Nat) : Int)) := by simpa using hh
 clear hh
 refine gw_exit ?_
 refine nx_then_exit (nx_then_exit ?_)
 refine nx_blk_here ?_
 refine nx_then (sr_ ?_)
 have hlt : l.take i = l := List.take_of_length_le (by omega)
 rw [hlt] at hall
 rw [hlt]
 obtain rfl : i = n := by omega
 refine mv_ rfl (sg_ rfl (sg_ rfl (nn_ ?_)))
 refine gw_ret ?_
 refine nx_ret2 rfl rfl rfl fun wx hm => ?_
 exact ⟨oA, i, oc, by rw [hall], fun _ => ⟨SlT.ofOwn ti_len (hm.ownI 0 rfl) (by rw [List.length_map]; exact hlen), rfl⟩, hm.g⟩
end Go.Proofs.YtnpcbfllnkiopaaGreatDoor
namespace Go.Proofs.YtnpcbfllnkiopaaGreatDoor
open Go.RowKit
theorem sc20 : scalarB Tryz.prog 20 = true := by kernel_rfl
def joinS (l : List ByteArray) (sep : ByteArray) : ByteArray := ⟨(Lib.join (l.map (·.data.toList)) sep.data.toList).toArray⟩
theorem dl_size (s : ByteArray) : s.data.toList.length = s.size := Array.length_toList
theorem tail_len {sep : List UInt8} {M : Nat} : ∀ {r : List (List UInt8)}, (∀ x ∈ r, x.length ≤ M) → (Lib.joinTail sep r).length ≤ r.length * (sep.length + M)
  | [], _ => by simp [Lib.joinTail]
  | x :: r, h => by
    have h1 := tail_len (sep := sep) (r := r) fun y hy => h y (List.mem_cons_of_mem _ hy)
    have h2 := h x (List.mem_cons_self ..)
    unfold Lib.joinTail at h1 ⊢
    rw [List.map_cons, List.flatten_cons, List.length_append, List.length_append, List.length_cons, Nat.add_mul]
    omega
theorem join_len {l : List ByteArray} {sep : ByteArray} {M : Nat} (h : ∀ x ∈ l, x.size ≤ M) : (joinS l sep).size ≤ l.length * (sep.size + M) := by
  unfold joinS
  rw [sz_mk]
  cases l with
  | nil => simp [Lib.join_nil]
  | cons x r =>
    rw [List.map_cons, Lib.join_cons, List.length_append, dl_size, List.length_cons, Nat.add_mul]
    have h1 := tail_len (sep := sep.data.toList) (M := M) (r := r.map (·.data.toList)) (fun y hy => by
      obtain ⟨z, hz, rfl⟩ := List.mem_map.1 hy
      show z.data.toList.length ≤ M
      rw [dl_size]; exact h z (List.mem_cons_of_mem _ hz))
    rw [List.length_map, dl_size] at h1
    have := h x (List.mem_cons_self ..)
    omega
theorem joinS_any (l : List ByteArray) (sep : ByteArray) (A : Option Addr) (n c : Nat) (w : World) (hl : SlT sgEnc 1 9 w A n l) (hn : 1 ≤ n) (hc : n ≤ c) (hn2 : n ≤ 1000) (hz : ∀ x ∈ l, x.size ≤ 1000000) (hs : sep.size ≤ 1000) :
    Calls Tryz.prog 102 #[.slice A n c, .string sep] w (fun e w' => e = .returned (.string (joinS l sep)) ∧ w.grownBy w' none) := by
  have hlen := hl.len
  obtain ⟨b, off, cells, fz, rfl, hh, hcs⟩ := hl.at_ (by omega)
  have hj := join_len (sep := sep) hz
  unfold joinS at hj
  rw [sz_mk] at hj
  have hM : l.length * (sep.size + 1000000) ≤ 1000 * 1001000 := Nat.mul_le_mul (by omega) (by omega)
  have h := Any.strings_Join Tryz.lays156 Tryz.Builder_Extra_156 b off c l sep w (fun j x hx => by
    have := hcs j x hx 0 (.string x) rfl
    simp only [World.cell?, hh]
    simpa using this) (Array.getElem?_eq_some_iff.1 hh).1 (by omega) (by omega) (by omega)
  rw [hlen] at h
  exact h.mono fun _ _ ⟨he, hb⟩ => ⟨he, grow_of_below hb⟩
/-- A part that word.Join puts into a line. -/
inductive Pt where
  | n (v : Int)
  | s (b : ByteArray)
def ptEnc : Pt → List Value
  | .n v => [.iface 3 (.int .i64 v)]
  | .s b => [.iface 9 (.string b)]
theorem pt_len : ∀ (x : Pt), (ptEnc x).length = 1
  | .n _ => rfl
  | .s _ => rfl
def ptS : Pt → ByteArray
  | .n v => itoaS v
  | .s b => b
def PtOk : Pt → Prop
  | .n v => -9223372036854775808 ≤ v ∧ v ≤ 9223372036854775807
  | .s b => b.size ≤ 1000000
theorem nd_le : ∀ (k u : Nat), u < 10 ^ (k + 1) → (Lib.decDigits u).length ≤ k + 1
  | 0, u, h => by
    rw [Lib.decDigits_length, Lib.nDigits_small (by simpa using h)]; exact Nat.le_refl _
  | k + 1, u, h => by
    by_cases h1 : u < 10
    · rw [Lib.decDigits_length, Lib.nDigits_small h1]; omega
    · have h2 := nd_le k (u / 10) (by rw [Nat.div_lt_iff_lt_mul (by decide)]; rw [Nat.pow_succ] at h; exact h)
      rw [Lib.decDigits_length] at h2 ⊢
      rw [Lib.nDigits_big h1]; omega
theorem itoa_sz {v : Int} (h : -9223372036854775808 ≤ v ∧ v ≤ 9223372036854775807) : (itoaS v).size ≤ 21 := by
  unfold itoaS
  rw [sz_mk]
  unfold Lib.itoa
  split
  · rw [List.length_cons]
    have := nd_le 19 v.natAbs (by omega)
    omega
  · have := nd_le 19 v.toNat (by omega)
    omega
theorem pt_sz {x : Pt} (h : PtOk x) : (ptS x).size ≤ 1000000 := by
  cases x with
  | n v => have := itoa_sz h; show (itoaS v).size ≤ 1000000; omega
  | s b => exact h
theorem pt_at {l : List Pt} {i : Nat} {x : Pt} (h : l[i]? = some x) : ((l.take (i + 1)).map ptS).flatMap sgEnc = ((l.take i).map ptS).flatMap sgEnc ++ [.string (ptS x)] := by
  rw [List.take_add_one, h, Option.toList_some, List.map_append, List.flatMap_append]; rfl
theorem wjoin_any (l : List Pt) (A : Option Addr) (n c : Nat) (w : World) (ht : TxtW w) (hl : SlT ptEnc 1 20 w A n l) (hn1 : 1 ≤ n) (hn2 : n ≤ 1000) (hok : ∀ x ∈ l, PtOk x) :
  Calls Tryz.prog 61 #[.slice A n c] w (fun e w' => e = .returned (.string (joinS (l.map ptS) ⟨#[32]⟩)) ∧ w.grownBy w' none) := by
 refine gw_enter ⟨33, w, none, []⟩ Tryz.func61 rfl Tryz.ntmps61 rfl (mem0 (X := [SlOld ptEnc 1 20 w.heap.size none A n l, TxtO w.heap.size none]) (allF_cons hl.old (allF_cons ht.old allF_nil)) (allL_cons SlOld.lasts (allL_cons TxtO.lasts allL_nil))) ?_
 refine sr_ ?_
 have hlen := hl.len
 refine wl_nilOwn 9 1 ?_
 refine sg_ rfl (nn_ (sr_ (sg_ rfl (nn_ (gw_seq (sr_ (mv_ rfl (wl_ov (ov_len es213 rfl) rfl (mv_ rfl ?_)))))))))
 refine nn_ (gw_block ?_)
 refine gw_loop (γ := Nat × Option Addr × Nat) (fun g => g.1 ≤ n) (fun g => [(2, .string ⟨#[]⟩), (3, .slice g.2.1 g.1 g.2.2), (8, .slice A n c), (9, .int .i64 ((n : Nat) : Int)), (10, .int .i64 ((g.1 : Nat) : Int))]) (fun g => fun _ => True) (fun g => []) (fun g => [⟨.slice g.2.1 g.1 g.2.2, 9, 1, g.1, ((l.take g.1).map ptS).flatMap sgEnc⟩]) (fun g => [SlOld ptEnc 1 20 w.heap.size none A n l, TxtO w.heap.size none]) (fun g => n - g.1) (0, none, 0) (Nat.zero_le _) ⟨rfl, rfl, rfl, rfl, rfl, trivial⟩ (fun _ hm => hm.pick [] [0] [0, 1] rfl rfl) ?_
 rintro ⟨i, oA, oc⟩ hinv
 replace hinv : i ≤ n := hinv
 dsimp only
 refine sr_ ?_
 have hi0 := hinv
 refine wl_ov (ov_lss rfl rfl) rfl (nn_ (gw_seq ?_))
 refine gw_cond rfl (fun hh => ?_) (fun hh => ?_)
 ·have hi : ((i : Nat) : Int) < ((n : Nat) : Int) := by simpa using hh
  clear hh
  refine gw_skip (nx_then (gw_seq (gw_block (sr_ ?_))))
  obtain ⟨b, off, hA, _, _⟩ := hl.get (by omega)
  subst hA
  obtain ⟨x, hx⟩ : ∃ x, l[i]? = some x := ⟨_, List.getElem?_eq_getElem (by omega)⟩
  have hpx := hok _ (List.mem_of_getElem? hx)
  have hpt := pt_at hx
  rcases x with v | v
  ·have hpx : -9223372036854775808 ≤ v ∧ v ≤ 9223372036854775807 := hpx
   refine wl_ov (ov_index (j := i) es213 rfl rfl (by omega)) rfl ?_
   refine wl_ov (ov_elem1 (k := 0) (v := .iface 3 (.int .i64 v)) sc20 rfl (fun _ hm => (hm.fact 0 rfl).1) hx rfl rfl) rfl ?_
   refine sg_ rfl (nn_ (sr_ (mv_ rfl (nn_ (gw_block (sr_ ?_))))))
   refine wl_ov (ov_assert (r := .tuple #[.int .i64 v, .bool true]) (fun _ => by kernel_rfl) rfl) rfl ?_
   refine wl_ov (ov_extract rfl rfl) rfl (wl_ov (ov_extract rfl rfl) rfl (nn_ (ct_ rfl (sr_ (sg_ rfl (nn_ (gw_region (mv_ rfl (mv_ rfl ?_)))))))))
   refine wl_callv rfl cb89 rfl rfl (fun wx hm => (itoa_any v wx (hm.fact 1 rfl).1 hpx.1 hpx.2)) ?_
   refine wl_buildSlice (e := 9) (cs := [.string (itoaS v)]) rfl (by kernel_rfl) rfl fun g1 => ?_
   refine wl_append (news := [.string (itoaS v)]) 0 0 ap112 rfl rfl rfl rfl rfl rfl rfl (by omega) (by unfold maxLen; omega) rfl rfl fun v2 hv => ?_
   refine wl_look (R := ∃ A cc, v2 = .slice A (i + 1) cc) (fun wx hm => own_slice (hm.ownI 0 rfl)) ?_
   rintro ⟨A3, c3, rfl⟩
   rw [show ((l.take i).map ptS).flatMap sgEnc ++ ([.string (itoaS v)] : List Value) = ((l.take (i + 1)).map ptS).flatMap sgEnc from hpt.symm]
   refine sg_ rfl (wl_nil (nx_blk_nrm (nx_blk_nrm (nx_then (gw_region (ad_ rfl rfl (mv_ rfl (wl_nil ?_))))))))
   exact nx_round (i + 1, A3, c3) (by dsimp only; omega) (by dsimp only; omega) ⟨rfl, rfl, rfl, rfl, (some_int (by omega)), trivial⟩ (fun _ hm => hm.pick [] [0] [0, 1] rfl rfl)
  have hpx : v.size ≤ 1000000 := hpx
  refine wl_ov (ov_index (j := i) es213 rfl rfl (by omega)) rfl ?_
  refine wl_ov (ov_elem1 (k := 0) (v := .iface 9 (.string v)) sc20 rfl (fun _ hm => (hm.fact 0 rfl).1) hx rfl rfl) rfl ?_
  refine sg_ rfl (nn_ (sr_ (mv_ rfl (nn_ (gw_block (sr_ ?_))))))
  refine wl_ov (ov_assert (r := .tuple #[.int .i64 0, .bool false]) (fun _ => by kernel_rfl) rfl) rfl ?_
  refine wl_ov (ov_extract rfl rfl) rfl (wl_ov (ov_extract rfl rfl) rfl (nn_ (cf_ rfl (sr_ ?_))))
  refine wl_ov (ov_assert (r := .tuple #[.string v, .bool true]) (fun _ => by kernel_rfl) rfl) rfl ?_
  refine wl_ov (ov_extract rfl rfl) rfl (wl_ov (ov_extract rfl rfl) rfl (nn_ (ct_ rfl (sr_ (sg_ rfl (nn_ (gw_region (mv_ rfl (mv_ rfl ?_)))))))))
  refine wl_buildSlice (e := 9) (cs := [.string v]) rfl (by kernel_rfl) rfl fun g2 => ?_
  refine wl_append (news := [.string v]) 0 0 ap112 rfl rfl rfl rfl rfl rfl rfl (by omega) (by unfold maxLen; omega) rfl rfl fun v2 hv => ?_
  refine wl_look (R := ∃ A cc, v2 = .slice A (i + 1) cc) (fun wx hm => own_slice (hm.ownI 0 rfl)) ?_
  rintro ⟨A3, c3, rfl⟩
  rw [show ((l.take i).map ptS).flatMap sgEnc ++ ([.string v] : List Value) = ((l.take (i + 1)).map ptS).flatMap sgEnc from hpt.symm]
  refine sg_ rfl (wl_nil (nx_blk_nrm (nx_blk_nrm (nx_then (gw_region (ad_ rfl rfl (mv_ rfl (wl_nil ?_))))))))
  exact nx_round (i + 1, A3, c3) (by dsimp only; omega) (by dsimp only; omega) ⟨rfl, rfl, rfl, rfl, (some_int (by omega)), trivial⟩ (fun _ hm => hm.pick [] [0] [0, 1] rfl rfl)
 have hi : ¬ (((i : Nat) : Int) < ((n : Nat) : Int)) := by simpa using hh
 clear hh
 refine gw_exit ?_
 refine nx_then_exit (nx_then_exit ?_)
 refine nx_blk_here ?_
 refine nx_then (sr_ ?_)
 have hlt : l.take i = l := List.take_of_length_le (by omega)
 rw [hlt]
 obtain rfl : i = n := by omega
 refine mv_ rfl ?_
 refine wl_callv rfl cb102 rfl rfl (fun wx hm => (joinS_any (l.map ptS) ⟨#[32]⟩ oA i oc wx (SlT.ofOwn sg_len (hm.ownI 0 rfl) (by rw [List.length_map]; exact hlen)) hn1 (own_cap (hm.ownI 0 rfl)) hn2 (fun y hy => by obtain ⟨z, hz, rfl⟩ := List.mem_map.1 hy; exact pt_sz (hok z hz)) (by decide))) ?_
 refine sg_ rfl (nn_ ?_)
 refine gw_ret ?_
 refine nx_ret1 rfl rfl fun wx hm => ?_
 exact ⟨rfl, hm.g⟩
end Go.Proofs.YtnpcbfllnkiopaaGreatDoor
namespace Go.Proofs.YtnpcbfllnkiopaaGreatDoor
open Go.RowKit
/-- A fact on old blocks alone. -/
def OldF (N : Nat) (A : World → Prop) : Prop := ∀ w w', Below N w w' → A w → A w'
theorem SlOld.oldF {α : Type} {enc : α → List Value} {k : Nat} {T : TypeId} {N : Nat} {row : Option Nat} {A : Option Addr} {n : Nat} {l : List α} : OldF N (SlOld enc k T N row A n l) := fun w w' hb hx => by
  refine ⟨⟨hx.1.len, fun hn => ?_⟩, hx.2⟩
  obtain ⟨b, off, cells, fz, e, hh, hc⟩ := hx.1.at_ hn
  have h4 := hx.2 b off e hn
  exact ⟨b, off, cells, fz, e, (hb.block b h4.1).trans hh, hc⟩
theorem TxtO.oldF {N : Nat} {row : Option Nat} : OldF N (TxtO N row) := fun _ _ hb h => ⟨h.1.same fun k hk => hb.block k (h.2 k hk).1, h.2⟩
section
variable {c : Cx} {K : World → Prop} {L : List (Nat × TypeId × List Value)} {O : List Own} {X X' : List (World → Prop)} {w w' : World} {T e : TypeId} {b : Nat} {p v : Value} {bs : List Value}
theorem Mem.isB (hm : Mem c K L O X w) (i j : Nat) (hL : L[i]? = some (b, T, [p, v])) (hO : O[j]? = some ⟨v, e, 1, bs.length, bs⟩) (hp : p = .pointer none ∨ p = .pointer (some ⟨b, 0, none⟩)) : Lib.IsBuilder T e c.w0.heap.size b bs w := by
  have h1 := hm.b _ (List.mem_of_getElem? hL)
  have h2 := hm.o _ (List.mem_of_getElem? hO)
  have h3 := hm.od _ (List.mem_of_getElem? hO) _ (List.mem_of_getElem? hL)
  have h : Lib.BuilderAt T e c.w0.heap.size b p bs w := ⟨h1.1, v, h1.2, h2, h3⟩
  rcases hp with rfl | rfl
  · exact .inl h
  · exact .inr h
theorem Mem.gB (hm : Mem c K L O X w) (hb : Below c.w0.heap.size w w') : c.w0.grownBy w' c.row :=
  ⟨hb.os.trans hm.g.os, hb.tape.trans hm.g.tape, hb.output.trans hm.g.output, Nat.le_trans hm.g.size hb.size, fun k hk hne => (hb.block k hk).trans (hm.g.block k hk hne)⟩
theorem Mem.built (hm : Mem c K L O X w) (h : Lib.BuilderAt T e c.w0.heap.size b p bs w') (hb : Below c.w0.heap.size w w') (hX : ∀ A ∈ X', OldF c.w0.heap.size A ∧ A ∈ X) :
    ∃ v, Mem c (fun _ => True) [(b, T, [p, v])] [⟨v, e, 1, bs.length, bs⟩] X' w' := by
  obtain ⟨hN, v, hh, ho, hne⟩ := h
  refine ⟨v, hm.gB hb, trivial, fun x hx => ?_, List.pairwise_singleton _ _, fun r hr => ?_, fun r hr x hx => ?_, List.pairwise_singleton _ _, fun A hA => (hX A hA).1 _ _ hb (hm.x A (hX A hA).2), Keeps.true_, fun A hA => hm.l A (hX A hA).2, hm.rs⟩
  · rw [List.mem_singleton.1 hx]; exact ⟨hN, hh⟩
  · rw [List.mem_singleton.1 hr]; exact ho
  · rw [List.mem_singleton.1 hr, List.mem_singleton.1 hx]; exact hne
theorem Mem.belowX (hm : Mem c K L O X w) (hb : Below c.w0.heap.size w w') (hX : ∀ A ∈ X', OldF c.w0.heap.size A ∧ A ∈ X) : Mem c (fun _ => True) [] [] X' w' :=
  ⟨hm.gB hb, trivial, (fun _ h => by cases h), List.Pairwise.nil, (fun _ h => by cases h), (fun _ h => by cases h), List.Pairwise.nil, fun A hA => (hX A hA).1 _ _ hb (hm.x A (hX A hA).2), Keeps.true_, fun A hA => hm.l A (hX A hA).2, hm.rs⟩
theorem oldX_nil {N : Nat} {X : List (World → Prop)} : ∀ A ∈ ([] : List (World → Prop)), OldF N A ∧ A ∈ X := fun _ h => by cases h
theorem oldX_cons {N i : Nat} {X X' : List (World → Prop)} {A : World → Prop} (h : OldF N A) (hi : X[i]? = some A) (t : ∀ B ∈ X', OldF N B ∧ B ∈ X) : ∀ B ∈ A :: X', OldF N B ∧ B ∈ X := fun B hB => by
  rcases List.mem_cons.1 hB with rfl | hB
  · exact ⟨h, List.mem_of_getElem? hi⟩
  · exact t B hB
end
theorem Tryz.lays166x : Lays.n166 Tryz.prog Tryz.lays156_ren := { Tryz.lays156 with }
theorem writeString_any (B b : Nat) (bs : List Value) (s : ByteArray) (w : World) (h : Lib.IsBuilder 101 5 B b bs w) (hlen : bs.length + s.size ≤ 140737488355328) (hB : B ≤ w.heap.size) :
    Calls Tryz.prog 60 #[.pointer (some ⟨b, 0, none⟩), .string s] w (fun e w' => e = .returned (.tuple #[.int .i64 s.size, .nilIface]) ∧ Lib.BuilderAt 101 5 B b (.pointer (some ⟨b, 0, none⟩)) (bs ++ Lib.strCells s) w' ∧ Below B w w') :=
  Any.Builder_WriteString Tryz.lays166x Tryz.Builder_Extra_156 B b bs s w h hlen hB
theorem string_any (B b : Nat) (l : List UInt8) (w : World) (h : Lib.IsBuilder 101 5 B b (Lib.byteCells l) w) (hB : B ≤ w.heap.size) :
    Calls Tryz.prog 63 #[.pointer (some ⟨b, 0, none⟩)] w (fun e w' => e = .returned (.string ⟨l.toArray⟩) ∧ Below B w w') :=
  Any.Builder_String_any Tryz.lays169 Tryz.Builder_Extra_169 B b l w h hB
end Go.Proofs.YtnpcbfllnkiopaaGreatDoor
namespace Go.Proofs.YtnpcbfllnkiopaaGreatDoor
open Go.RowKit
def svEnc (v : Value) : List Value := [v]
theorem sv_len (v : Value) : (svEnc v).length = 1 := rfl
theorem blkRow1 {w : World} {g : Nat} {T : TypeId} {v : Value} (hb : Blk w g T [v]) : w.ownsRow 0 T 1 (.slice (some ⟨g, 0, none⟩) 1 1) 1 ([v].flatMap svEnc) :=
  ⟨rfl, .inr ⟨g, 1, #[v], rfl, Nat.zero_le _, hb, Nat.le_refl _, by unfold maxLen; omega, rfl, rfl⟩⟩
theorem rowBlk1 {T : TypeId} {g : Nat} {v : Value} {w : World} (h : RowK 0 T 1 1 1 g ([v].flatMap svEnc) w) : Blk w g T [v] := by
  rcases h.2 with ⟨h1, _⟩ | ⟨g', cap, cur, hv, _, hh, _, _, hs, ht⟩
  · cases h1
  · injection hv with h1 _ h3
    injection h1 with h1
    injection h1 with h1 _ _
    subst h1 h3
    rw [List.take_of_length_le (by rw [Array.length_toList]; omega)] at ht
    have e : cur = [v].toArray := by rw [← show cur.toList = [v] from ht]
    rw [e] at hh
    exact hh
section
variable {K : World → Prop} {L : List (Nat × TypeId × List Value)} {O : List Own} {X X' : List (World → Prop)} {w w' w0 : World} {n n' : Nat} {row : Option Nat} {Tt : List TypeId}
theorem Mem.cx (h : Mem ⟨n, w0, row, Tt⟩ K L O X w) : Mem ⟨n', w0, row, Tt⟩ K L O X w := ⟨h.g, h.k, h.b, h.nd, h.o, h.od, h.oo, h.x, h.kk, h.l, h.rs⟩
end
section
variable {c : Cx} {K : World → Prop} {L : List (Nat × TypeId × List Value)} {O : List Own} {X X' : List (World → Prop)} {w w' : World}
/-- A call has turned a block that is known, the only one, and handed a row of its own out through it. -/
theorem Mem.handed {g : Nat} {T e : TypeId} {sz m : Nat} {v u : Value} {xs : List Value} (hm : Mem c (fun _ => True) [(g, T, [u])] O X w) (hg : w.grownBy w' (some g)) (hb : Blk w' g T [v]) (ho : w'.ownsRow w.heap.size e sz v m xs)
    (hX : ∀ A ∈ X', (∀ w w', c.w0.heap.size ≤ g → w.grownBy w' (some g) → A w → A w') ∧ A ∈ X) : Mem c (fun _ => True) [(g, T, [v])] [⟨v, e, sz, m, xs⟩] X' w' := by
  have h1 := hm.b _ (List.mem_singleton.2 rfl)
  have hlt : g < w.heap.size := h1.2.lt
  have hN : c.w0.heap.size ≤ w.heap.size := hm.g.size
  have hne : v.ownBlock ≠ some g := fun e => by
    have := ho.lt g e
    omega
  refine ⟨⟨hg.os.trans hm.g.os, hg.tape.trans hm.g.tape, hg.output.trans hm.g.output, Nat.le_trans hm.g.size hg.size, fun k hk hne => ?_⟩, trivial, fun x hx => ?_, List.pairwise_singleton _ _, fun r hr => ?_, fun r hr x hx => ?_, List.pairwise_singleton _ _, fun A hA => (hX A hA).1 _ _ h1.1 hg (hm.x A (hX A hA).2), Keeps.true_, fun A hA => hm.l A (hX A hA).2, hm.rs⟩
  · exact (hg.block k (Nat.lt_of_lt_of_le hk hm.g.size) (fun e => by
      have e2 : k = g := by injection e
      have := h1.1
      omega)).trans (hm.g.block k hk hne)
  · rw [List.mem_singleton.1 hx]; exact ⟨h1.1, hb⟩
  · rw [List.mem_singleton.1 hr]
    refine ⟨ho.1, ?_⟩
    rcases ho.2 with h | ⟨g', cap, cur, h2, h3, h4⟩
    · exact .inl h
    · exact .inr ⟨g', cap, cur, h2, Nat.le_trans hN h3, h4⟩
  · rw [List.mem_singleton.1 hr, List.mem_singleton.1 hx]; exact hne
end
theorem TxtO.far {N g : Nat} {row : Option Nat} : ∀ w w' : World, N ≤ g → w.grownBy w' (some g) → TxtO N row w → TxtO N row w' := fun _ _ hN hg h =>
  ⟨h.1.same fun k hk => hg.block k (h.1.lt hk) (fun e => by
    have e2 : k = g := by injection e
    have := (h.2 k hk).1
    omega), h.2⟩
end Go.Proofs.YtnpcbfllnkiopaaGreatDoor
namespace Go.Proofs.YtnpcbfllnkiopaaGreatDoor
open Go.RowKit
section
variable {P : Program} {c : Cx} {ops : Array Oper} {Q : Exit → Act → World → Prop} {rest : List Oper} {S : List (Nat × Value)} {K : World → Prop} {L : List (Nat × TypeId × List Value)} {O : List Own} {X : List (World → Prop)} {d : Nat} {ty : TypeId} {pos : String} {aft : Array Edge}
theorem memR {n0 : Nat} {Tt : List TypeId} {w : World} {base : Nat} {e : TypeId} {sz n cap g : Nat} {xs : List Value} (hS : w.ownsRow base e sz (.slice (some ⟨g, 0, none⟩) n cap) n xs) (hX : ∀ A ∈ X, A w) (hl : ∀ A ∈ X, Lasts2 w.heap.size (some g) Tt A) : Mem ⟨n0, w, some g, Tt⟩ (RowK base e sz n cap g xs) [] [] X w :=
  have hS2 : RowK base e sz n cap g xs w := hS
  ⟨World.grownBy.refl _ _, hS2, (fun _ hx => by cases hx), List.Pairwise.nil, (fun _ hx => by cases hx), (fun _ hx => by cases hx), List.Pairwise.nil, hX, RowK.keeps hS2.lt.2, hl, (fun _ hr => by cases hr; exact hS2.lt.2)⟩
/-- The row has turned. -/
theorem Mem.turned {base g n cap sz : Nat} {e : TypeId} {xs xs' : List Value} {w w' : World} (h : Mem c (RowK base e sz n cap g xs) L O X w) (hrow : c.row = some g) (hT : c.Tt.contains e = false) (hown : w'.ownsRow base e sz (.slice (some ⟨g, 0, none⟩) n cap) n xs') (hg : w.grownBy w' (some g)) : Mem c (RowK base e sz n cap g xs') L O X w' := by
  have hlt0 := h.rs g hrow
  have hk : w.ownsRow base e sz (.slice (some ⟨g, 0, none⟩) n cap) n xs := h.k
  obtain ⟨cells, hcells⟩ : ∃ cells, w.heap[g]? = some (.cells cells e (0, 0)) := by
    rcases hk.2 with ⟨h1, _⟩ | ⟨g', cap', cur, h1, _, h2, _⟩
    · cases h1
    · injection h1 with h1 _ _
      injection h1 with h1
      injection h1 with h1 _ _
      subst h1
      exact ⟨_, h2⟩
  refine ⟨grow_trans h.g (hrow ▸ hg), hown, fun x hx => ⟨(h.b x hx).1, (h.b x hx).2.grown hg (fun e => ?_)⟩, h.nd, fun r hr => (h.o r hr).kept hg ?_, h.od, h.oo, fun A hA => ?_, RowK.keeps hlt0, h.l, h.rs⟩
  · have := (h.b x hx).1; injection e with e; omega
  · cases hv : r.v.ownBlock with
    | none => exact .inl rfl
    | some g' => exact .inr (fun e => by have := ((h.o r hr).lt g' hv).1; injection e with e; omega)
  · exact (h.l A hA).st w _ g e cells hcells (fun e => by simp [e] at hT) (.inr hrow) hg (h.x A hA)
end
end Go.Proofs.YtnpcbfllnkiopaaGreatDoor
namespace Go.Proofs.YtnpcbfllnkiopaaGreatDoor
open Go.RowKit
theorem zc101 : zeroCs Tryz.prog 101 = some [.pointer none, .slice none 0 0] := by kernel_rfl
theorem cells_app {l : List UInt8} {s : ByteArray} : Lib.byteCells l ++ Lib.strCells s = Lib.byteCells (l ++ s.data.toList) := by
  unfold Lib.byteCells Lib.strCells; rw [List.map_append]
theorem ba_eq : ∀ {a b : ByteArray}, a.data.toList = b.data.toList → a = b := fun {a b} h => by
  cases a; cases b
  exact congrArg ByteArray.mk (Array.toList_inj.1 h)
theorem splitB_sz (sep : ByteArray) : ∀ (k : Nat) (t : ByteArray), ∀ x ∈ Lib.splitB sep 0 k t, x.size ≤ t.size
  | 0, t, x, hx => by
    rw [Lib.splitB_zero] at hx
    rw [List.mem_singleton.1 hx]; exact Nat.le_refl _
  | k + 1, t, x, hx => by
    unfold Lib.splitB at hx
    split at hx
    · rw [List.mem_singleton.1 hx]; exact Nat.le_refl _
    · rcases List.mem_cons.1 hx with rfl | hx
      · rw [ByteArray.size_extract]; omega
      · have := splitB_sz sep k _ x hx
        rw [ByteArray.size_extract] at this
        omega
theorem wdL_sz (t : ByteArray) : ∀ x ∈ wdL t, x.size ≤ t.size := splitB_sz _ _ t
theorem cut_sz (t sep : ByteArray) (hs : 1 ≤ sep.size) : (cutS t sep).1.size ≤ t.size ∧ ((cutS t sep).2.2 = true → 1 ≤ t.size → (cutS t sep).2.1.size + 1 ≤ t.size) ∧ (cutS t sep).2.1.size ≤ t.size := by
  have h1 := dl_size t
  have h2 := dl_size sep
  unfold cutS Lib.cut
  by_cases h : 0 ≤ Lib.index t.data.toList sep.data.toList
  · rw [if_pos h]
    refine ⟨?_, fun _ h3 => ?_, ?_⟩
    · show (⟨(t.data.toList.take (Lib.index t.data.toList sep.data.toList).toNat).toArray⟩ : ByteArray).size ≤ _
      rw [sz_mk, List.length_take]; omega
    · show (⟨(t.data.toList.drop ((Lib.index t.data.toList sep.data.toList).toNat + sep.data.toList.length)).toArray⟩ : ByteArray).size + 1 ≤ _
      rw [sz_mk, List.length_drop]; omega
    · show (⟨(t.data.toList.drop ((Lib.index t.data.toList sep.data.toList).toNat + sep.data.toList.length)).toArray⟩ : ByteArray).size ≤ _
      rw [sz_mk, List.length_drop]; omega
  · rw [if_neg h]
    refine ⟨?_, (fun h => by cases h), ?_⟩
    · show (⟨t.data.toList.toArray⟩ : ByteArray).size ≤ _
      rw [sz_mk]; omega
    · show (⟨([] : List UInt8).toArray⟩ : ByteArray).size ≤ _
      rw [sz_mk]; exact Nat.zero_le _
def IfT (b : Bool) (P : Prop) : Prop := b = true → P
theorem Lasts2.ift {N : Nat} {row : Option Nat} {Tt : List TypeId} {b : Bool} {q : Prop} {X : World → Prop} (h : Lasts2 N row Tt X) : Lasts2 N row Tt (fun w => IfT b (X w ∧ q)) :=
  ⟨fun w w' hg hx hc => ⟨h.gr w w' hg (hx hc).1, (hx hc).2⟩, fun w w' r T cs h1 h2 h3 h4 hx hc => ⟨h.st w w' r T cs h1 h2 h3 h4 (hx hc).1, (hx hc).2⟩⟩
def nlS : ByteArray := ⟨#[10]⟩
theorem size_pos {t : ByteArray} (h : (t.toList == (⟨#[]⟩ : ByteArray).toList) = false) : 1 ≤ t.size := by
  rcases Nat.eq_zero_or_pos t.size with h0 | h0
  · exfalso
    have : t = ⟨#[]⟩ := ByteArray.ext (Array.eq_empty_of_size_eq_zero h0)
    rw [this] at h
    exact absurd h (by decide +kernel)
  · exact h0
/-- A text, line by line, with a state that each line turns: the number of the line that is none, whether all are, the state. -/
def linesF {σ : Type} (step : ByteArray → σ → σ × Bool) : Nat → ByteArray → Int → σ → Int × Bool × σ
  | 0, _, _, st => (0, true, st)
  | f + 1, t, at_, st => if (t.toList == (⟨#[]⟩ : ByteArray).toList) = true then (0, true, st) else
    if (cutS t nlS).2.2 = false then (at_, false, st) else
    if (step (cutS t nlS).1 st).2 = true then linesF step f (cutS t nlS).2.1 (at_ + 1) (step (cutS t nlS).1 st).1 else (at_, false, (step (cutS t nlS).1 st).1)
def linesR {σ : Type} (step : ByteArray → σ → σ × Bool) (st : σ) (t : ByteArray) : Int × Bool × σ := linesF step (t.size + 1) t 0 st
section
variable {σ : Type} {step : ByteArray → σ → σ × Bool} {f : Nat} {t c1 c2 : ByteArray} {at_ : Int} {st : σ}
theorem lns_nil (hf : t.size < f) (h : (t.toList == (⟨#[]⟩ : ByteArray).toList) = true) : linesF step f t at_ st = (0, true, st) := by
  obtain ⟨k, rfl⟩ : ∃ k, f = k + 1 := ⟨f - 1, by omega⟩
  rw [linesF, if_pos h]
theorem lns_open (hf : t.size < f) (h : (t.toList == (⟨#[]⟩ : ByteArray).toList) = false) (hc : cutS t nlS = (c1, c2, false)) : linesF step f t at_ st = (at_, false, st) := by
  obtain ⟨k, rfl⟩ : ∃ k, f = k + 1 := ⟨f - 1, by omega⟩
  rw [linesF, if_neg (by rw [h]; decide), hc]; rfl
theorem lns_no (hf : t.size < f) (h : (t.toList == (⟨#[]⟩ : ByteArray).toList) = false) (hc : cutS t nlS = (c1, c2, true)) (hr : (step c1 st).2 = false) : linesF step f t at_ st = (at_, false, (step c1 st).1) := by
  obtain ⟨k, rfl⟩ : ∃ k, f = k + 1 := ⟨f - 1, by omega⟩
  rw [linesF, if_neg (by rw [h]; decide), hc, if_neg (show ¬ true = false by decide)]
  show (if (step c1 st).2 = true then _ else _) = _
  rw [if_neg (by rw [hr]; decide)]
theorem lns_go (hf : t.size < f) (h : (t.toList == (⟨#[]⟩ : ByteArray).toList) = false) (hc : cutS t nlS = (c1, c2, true)) (hr : (step c1 st).2 = true) : linesF step f t at_ st = linesF step (f - 1) c2 (at_ + 1) (step c1 st).1 := by
  obtain ⟨k, rfl⟩ : ∃ k, f = k + 1 := ⟨f - 1, by omega⟩
  rw [linesF, if_neg (by rw [h]; decide), hc, if_neg (show ¬ true = false by decide)]
  show (if (step c1 st).2 = true then _ else _) = _
  rw [if_pos hr]; rfl
end
/-- What each line keeps, with a measure that grows by one at most, all lines keep. -/
theorem lines_all {σ : Type} {step : ByteArray → σ → σ × Bool} {Q : σ → Prop} {ms : σ → Nat} {M : Nat} (hs : ∀ t st, t.size ≤ M → Q st → Q (step t st).1 ∧ ms (step t st).1 ≤ ms st + 1) :
    ∀ (f : Nat) (t : ByteArray) (at_ : Int) (st : σ), t.size ≤ M → Q st → Q (linesF step f t at_ st).2.2 ∧ ms (linesF step f t at_ st).2.2 ≤ ms st + t.size
  | 0, t, at_, st, ht, h => ⟨h, Nat.le_add_right _ _⟩
  | f + 1, t, at_, st, ht, h => by
    unfold linesF
    split
    · exact ⟨h, Nat.le_add_right _ _⟩
    · rename_i he
      have h1 := size_pos (t := t) (by simpa using he)
      obtain ⟨hs1, hs2, hs3⟩ := cut_sz t nlS (by decide)
      split
      · exact ⟨h, Nat.le_add_right _ _⟩
      · rename_i hc
        have hs2 := hs2 (by simpa using hc) h1
        obtain ⟨j1, j2⟩ := hs (cutS t nlS).1 st (by omega) h
        split
        · obtain ⟨i1, i2⟩ := lines_all hs f (cutS t nlS).2.1 (at_ + 1) (step (cutS t nlS).1 st).1 (by omega) j1
          exact ⟨i1, by omega⟩
        · exact ⟨j1, by show ms (step (cutS t nlS).1 st).1 ≤ _; omega⟩
theorem linesR_all {σ : Type} {step : ByteArray → σ → σ × Bool} {Q : σ → Prop} {ms : σ → Nat} {M : Nat} (hs : ∀ t st, t.size ≤ M → Q st → Q (step t st).1 ∧ ms (step t st).1 ≤ ms st + 1) {t : ByteArray} {st : σ} (ht : t.size ≤ M) (h : Q st) :
    Q (linesR step st t).2.2 ∧ ms (linesR step st t).2.2 ≤ ms st + t.size := lines_all hs _ _ _ _ ht h
theorem TxtO.here {N g : Nat} {w : World} (h : TxtO N none w) (hg : N ≤ g) : TxtO w.heap.size (some g) w := ⟨h.1, fun k hk => ⟨h.1.lt hk, fun e => by
  have e2 : g = k := by injection e
  have := (h.2 k hk).1
  omega⟩⟩
theorem txt_law {w w1 wx : World} {sb : Nat} (h : TxtW w) (hg1 : w.grownBy w1 none) (hsb : w.heap.size ≤ sb) (hg : w1.grownBy wx (some sb)) : TxtO w1.heap.size (some sb) wx := by
  have ne : ∀ k, isG k → ¬ some sb = some k := fun k hk e => by
    have e2 : sb = k := by injection e
    have := h.lt hk
    omega
  have h1 := h.same fun k hk => hg1.block k (h.lt hk) (fun e => by cases e)
  exact ⟨h1.same fun k hk => hg.block k (h1.lt hk) (fun e => ne k hk e.symm), fun k hk => ⟨h1.lt hk, ne k hk⟩⟩
theorem TxtO.heap {N : Nat} {row : Option Nat} {w : World} (h : TxtO N row w) : TxtO w.heap.size row w := ⟨h.1, fun k hk => ⟨h.1.lt hk, (h.2 k hk).2⟩⟩
theorem sized_any (t : ByteArray) (w : World) (hz : t.size ≤ 200000) :
  Calls Tryz.prog 62 #[.string t] w (fun e w' => e = .returned (.tuple #[.string t, .int .i64 0]) ∧ w.grownBy w' none) := by
 refine gw_enter ⟨8, w, none, []⟩ Tryz.func62 rfl Tryz.ntmps62 rfl (mem0 (X := []) allF_nil allL_nil) ?_
 refine sr_ (sg_ rfl (sg_ rfl (nn_ (gw_seq (sr_ (mv_ rfl ?_))))))
 refine wl_ov (ov_lens us9 rfl) rfl ?_
 refine wl_ov (ov_gtr rfl rfl) rfl ?_
 refine nn_ ?_
 refine gw_cond rfl (fun hh => ?_) (fun hh => ?_)
 ·have h1 : 200000 < ((t).size : Int) := by simpa using hh
  clear hh
  refine sr_ ?_
  omega
 have h1 : ¬ (200000 < ((t).size : Int)) := by simpa using hh
 clear hh
 refine gw_skip (nx_then (sr_ (mv_ rfl (sg_ rfl (sg_ rfl (nn_ ?_))))))
 refine gw_ret ?_
 refine nx_ret2 rfl rfl rfl fun wx hm => ?_
 exact ⟨rfl, hm.g⟩
end Go.Proofs.YtnpcbfllnkiopaaGreatDoor
namespace Go.Proofs.YtnpcbfllnkiopaaGreatDoor
open Go.RowKit
def rtEnc (r : Rt) : List Value := [.string r.cls, .int .i64 r.fr, .int .i64 r.to_, .int .i64 r.hr, .int .i64 r.dy, .int .i64 r.we, .int .i64 r.wk]
theorem rt_len (r : Rt) : (rtEnc r).length = 7 := rfl
theorem b_ne_self (a : ByteArray) : (!(a.toList == a.toList)) = false := by simp
theorem i_ne_self (a : Int) : (!decide (a = a)) = false := by simp
theorem nan_string (a : ByteArray) (w : World) : Calls Tryz.prog 176 #[.string a] w (fun e w' => e = .returned (.bool false) ∧ w.grownBy w' none) := by
 refine gw_enter ⟨6, w, none, []⟩ Tryz.func176 rfl Tryz.ntmps176 rfl (mem0 (X := []) allF_nil allL_nil) ?_
 refine sr_ (sg_ rfl (nn_ (sr_ (mv_ rfl (mv_ rfl (wl_ov (ov_sneq rfl rfl) rfl ?_))))))
 refine wl_set 5 (v' := .bool false) rfl (congrArg Value.bool (b_ne_self a)) ?_
 refine sg_ rfl (nn_ ?_)
 refine gw_ret ?_
 refine nx_ret1 rfl rfl fun wx hm => ?_
 exact ⟨rfl, hm.g⟩
theorem cmp_string (a b : ByteArray) (w : World) : Calls Tryz.prog 85 #[.string a, .string b] w (fun e w' => e = .returned (.int .i64 (cmpS a b)) ∧ w.grownBy w' none) := by
 refine gw_enter ⟨20, w, none, []⟩ Tryz.func85 rfl Tryz.ntmps85 rfl (mem0 (X := []) allF_nil allL_nil) ?_
 refine sr_ (sg_ rfl (nn_ (sr_ (mv_ rfl ?_))))
 refine wl_callv rfl cb176 rfl rfl (fun wx hm => (nan_string _ wx)) ?_
 refine sg_ rfl (nn_ (sr_ (mv_ rfl ?_)))
 refine wl_callv rfl cb176 rfl rfl (fun wx hm => (nan_string _ wx)) ?_
 refine sg_ rfl (nn_ (gw_seq (sr_ (mv_ rfl (nn_ (cf_ rfl (gw_skip (nx_then (gw_seq (gw_seq ?_))))))))))
 refine gw_region (mv_ rfl (nn_ (cf_ rfl (gw_skip (nx_then (gw_seq (sr_ (mv_ rfl (mv_ rfl ?_)))))))))
 refine wl_ov (ov_slss rfl rfl) rfl ?_
 refine nn_ ?_
 refine gw_cond rfl (fun hh => ?_) (fun hh => ?_)
 ·have h1 : (Op.bytesLess a.toList b.toList) = true := by simpa using hh
  clear hh
  refine sr_ (sg_ rfl ?_)
  refine wl_set 4 (v' := .int .i64 (-1)) rfl rfl ?_
  refine nn_ ?_
  refine gw_ret ?_
  refine nx_then_ret ?_
  refine nx_ret1 rfl rfl fun wx hm => ?_
  refine ⟨?_, hm.g⟩
  unfold cmpS; rw [if_pos h1]
 have h1 : (Op.bytesLess a.toList b.toList) = false := by simpa using hh
 clear hh
 refine gw_skip (nx_then (gw_seq (sr_ (mv_ rfl (mv_ rfl ?_)))))
 refine wl_ov (ov_sgtr rfl rfl) rfl ?_
 refine nn_ ?_
 refine gw_cond rfl (fun hh => ?_) (fun hh => ?_)
 ·have h2 : (Op.bytesLess a.toList b.toList || a.toList == b.toList) = false := by simpa only [Bool.not_eq_true', Bool.not_eq_false'] using hh
  clear hh
  refine sr_ (sg_ rfl (nn_ ?_))
  refine gw_ret ?_
  refine nx_then_ret ?_
  refine nx_ret1 rfl rfl fun wx hm => ?_
  refine ⟨?_, hm.g⟩
  unfold cmpS; rw [if_neg (by rw [h1]; decide), if_pos h2]
 have h2 : (Op.bytesLess a.toList b.toList || a.toList == b.toList) = true := by simpa only [Bool.not_eq_true', Bool.not_eq_false'] using hh
 clear hh
 refine gw_skip (nx_then (sr_ (sg_ rfl (nn_ ?_))))
 refine gw_ret ?_
 refine nx_ret1 rfl rfl fun wx hm => ?_
 refine ⟨?_, hm.g⟩
 unfold cmpS; rw [if_neg (by rw [h1]; decide), if_neg (by rw [h2]; decide)]
theorem nan_int (a : Int) (w : World) : Calls Tryz.prog 175 #[.int .i64 a] w (fun e w' => e = .returned (.bool false) ∧ w.grownBy w' none) := by
 refine gw_enter ⟨6, w, none, []⟩ Tryz.func175 rfl Tryz.ntmps175 rfl (mem0 (X := []) allF_nil allL_nil) ?_
 refine sr_ (sg_ rfl (nn_ (sr_ (mv_ rfl (mv_ rfl (wl_ov (ov_neq rfl rfl) rfl ?_))))))
 refine wl_set 5 (v' := .bool false) rfl (congrArg Value.bool (i_ne_self a)) ?_
 refine sg_ rfl (nn_ ?_)
 refine gw_ret ?_
 refine nx_ret1 rfl rfl fun wx hm => ?_
 exact ⟨rfl, hm.g⟩
theorem cmp_int (a b : Int) (w : World) : Calls Tryz.prog 84 #[.int .i64 a, .int .i64 b] w (fun e w' => e = .returned (.int .i64 (cmpI a b)) ∧ w.grownBy w' none) := by
 refine gw_enter ⟨20, w, none, []⟩ Tryz.func84 rfl Tryz.ntmps84 rfl (mem0 (X := []) allF_nil allL_nil) ?_
 refine sr_ (sg_ rfl (nn_ (sr_ (mv_ rfl ?_))))
 refine wl_callv rfl cb175 rfl rfl (fun wx hm => (nan_int _ wx)) ?_
 refine sg_ rfl (nn_ (sr_ (mv_ rfl ?_)))
 refine wl_callv rfl cb175 rfl rfl (fun wx hm => (nan_int _ wx)) ?_
 refine sg_ rfl (nn_ (gw_seq (sr_ (mv_ rfl (nn_ (cf_ rfl (gw_skip (nx_then (gw_seq (gw_seq ?_))))))))))
 refine gw_region (mv_ rfl (nn_ (cf_ rfl (gw_skip (nx_then (gw_seq (sr_ (mv_ rfl (mv_ rfl (wl_ov (ov_lss rfl rfl) rfl (wl_nil ?_)))))))))))
 refine nx_then ?_
 refine gw_cond rfl (fun hh => ?_) (fun hh => ?_)
 ·have h1 : a < b := by simpa using hh
  clear hh
  refine sr_ (sg_ rfl ?_)
  refine wl_set 4 (v' := .int .i64 (-1)) rfl rfl ?_
  refine nn_ ?_
  refine gw_ret ?_
  refine nx_then_ret ?_
  refine nx_ret1 rfl rfl fun wx hm => ?_
  refine ⟨?_, hm.g⟩
  unfold cmpI; rw [if_pos h1]
 have h1 : ¬ (a < b) := by simpa using hh
 clear hh
 refine gw_skip (nx_then (gw_seq (sr_ (mv_ rfl (mv_ rfl ?_)))))
 refine wl_ov (ov_gtr rfl rfl) rfl ?_
 refine nn_ ?_
 refine gw_cond rfl (fun hh => ?_) (fun hh => ?_)
 ·have h2 : b < a := by simpa using hh
  clear hh
  refine sr_ (sg_ rfl (nn_ ?_))
  refine gw_ret ?_
  refine nx_then_ret ?_
  refine nx_ret1 rfl rfl fun wx hm => ?_
  refine ⟨?_, hm.g⟩
  unfold cmpI; rw [if_neg h1, if_pos h2]
 have h2 : ¬ (b < a) := by simpa using hh
 clear hh
 refine gw_skip (nx_then (sr_ (sg_ rfl (nn_ ?_))))
 refine gw_ret ?_
 refine nx_ret1 rfl rfl fun wx hm => ?_
 refine ⟨?_, hm.g⟩
 unfold cmpI; rw [if_neg h1, if_neg h2]
theorem or_two (a b : Int) (g T c : Nat) (w : World) (h : Blk w g T [.int .i64 a, .int .i64 b]) : Calls Tryz.prog 83 #[.slice (some ⟨g, 0, none⟩) 2 c] w (fun e w' => e = .returned (.int .i64 (firstE [a, b])) ∧ w.grownBy w' none) := by
 refine gw_enter ⟨18, w, none, []⟩ Tryz.func83 rfl Tryz.ntmps83 rfl (mem0 (X := [BlkOld w.heap.size none g T [.int .i64 a, .int .i64 b] ]) (allF_cons h.old allF_nil) (allL_cons BlkOld.lasts allL_nil)) ?_
 refine sr_ (sg_ rfl (nn_ (sr_ (sg_ rfl (nn_ (gw_seq (sr_ (mv_ rfl ?_))))))))
 refine wl_ov (ov_len es22 rfl) rfl ?_
 refine wl_set 7 (v' := .int .i64 2) rfl rfl ?_
 refine mv_ rfl (nn_ (gw_block ?_))
 refine gw_rounds 3 ?_
 refine gr_next ?_
 refine sr_ (wl_ov (ov_lss rfl rfl) rfl ?_)
 refine wl_set 9 (v' := .bool true) rfl (congrArg Value.bool (by decide)) ?_
 refine nn_ (gw_seq (ct_ rfl (gw_skip (nx_then (gw_seq (gw_block (sr_ ?_)))))))
 refine wl_ov (ov_index (j := 0) es22 rfl rfl (by decide)) rfl ?_
 refine wl_ov (ov_load (v := .int .i64 a) sc3 rfl (fun _ hm => (hm.fact 0 rfl).2) rfl) rfl ?_
 refine sg_ rfl (nn_ (sr_ (mv_ rfl (mv_ rfl (wl_ov (ov_neq rfl rfl) rfl (nn_ ?_))))))
 refine gw_cond rfl (fun hh => ?_) (fun hh => ?_)
 ·have h1 : ¬ (a = 0) := by simpa using hh
  clear hh
  refine sr_ (mv_ rfl (sg_ rfl (nn_ ?_)))
  refine gw_ret ?_
  refine nx_blk_ret (nx_then_ret (nx_then_ret (nx_blk_ret (nx_then_ret ?_))))
  refine nx_ret1 rfl rfl fun wx hm => ?_
  refine ⟨?_, hm.g⟩
  rw [firstE_pair, if_neg h1]
 have h1 : a = 0 := by simpa using hh
 clear hh
 refine gw_skip (nx_blk_nrm (nx_then (gw_region (ad_ rfl rfl ?_))))
 refine wl_set 16 (v' := .int .i64 1) rfl rfl ?_
 refine mv_ rfl (wl_nil ?_)
 refine nx_next ?_
 refine gr_next ?_
 refine sr_ (wl_ov (ov_lss rfl rfl) rfl ?_)
 refine wl_set 9 (v' := .bool true) rfl (congrArg Value.bool (by decide)) ?_
 refine nn_ (gw_seq (ct_ rfl (gw_skip (nx_then (gw_seq (gw_block (sr_ ?_)))))))
 refine wl_ov (ov_index (j := 1) es22 rfl rfl (by decide)) rfl ?_
 refine wl_ov (ov_load (v := .int .i64 b) sc3 rfl (fun _ hm => (hm.fact 0 rfl).2) rfl) rfl ?_
 refine sg_ rfl (nn_ (sr_ (mv_ rfl (mv_ rfl (wl_ov (ov_neq rfl rfl) rfl (nn_ ?_))))))
 refine gw_cond rfl (fun hh => ?_) (fun hh => ?_)
 ·have h2 : ¬ (b = 0) := by simpa using hh
  clear hh
  refine sr_ (mv_ rfl (sg_ rfl (nn_ ?_)))
  refine gw_ret ?_
  refine nx_blk_ret (nx_then_ret (nx_then_ret (nx_blk_ret (nx_then_ret ?_))))
  refine nx_ret1 rfl rfl fun wx hm => ?_
  refine ⟨?_, hm.g⟩
  rw [firstE_pair, if_pos h1]
 have h2 : b = 0 := by simpa using hh
 clear hh
 refine gw_skip (nx_blk_nrm (nx_then (gw_region (ad_ rfl rfl ?_))))
 refine wl_set 16 (v' := .int .i64 2) rfl rfl ?_
 refine mv_ rfl (wl_nil ?_)
 refine nx_next ?_
 refine gr_next ?_
 refine sr_ (wl_ov (ov_lss rfl rfl) rfl ?_)
 refine wl_set 9 (v' := .bool false) rfl (congrArg Value.bool (by decide)) ?_
 refine nn_ (gw_seq (cf_ rfl ?_))
 refine gw_exit ?_
 refine nx_then_exit (nx_then_exit ?_)
 refine nx_blk_here ?_
 refine nx_then (sr_ (mv_ rfl (sg_ rfl (nn_ ?_))))
 refine gw_ret ?_
 refine nx_ret1 rfl rfl fun wx hm => ?_
 refine ⟨?_, hm.g⟩
 rw [firstE_pair, if_pos h1, h2]
theorem checkRates_any (l : List Rt) (A : Option Addr) (n c : Nat) (w : World) (hl : SlT rtEnc 7 38 w A n l) (hok : ∀ b ∈ l, RtOk b) (hn : n ≤ 1000000) :
  Calls Tryz.prog 59 #[.slice A n c] w (GotE w (ratesE l)) := by
 refine gw_enter ⟨90, w, none, []⟩ Tryz.func59 rfl Tryz.ntmps59 rfl (mem0 (X := [SlOld rtEnc 7 38 w.heap.size none A n l]) (allF_cons hl.old allF_nil) (allL_cons SlOld.lasts allL_nil)) ?_
 refine sr_ ?_
 have hlen := hl.len
 refine sg_ rfl (nn_ (gw_seq (sr_ (mv_ rfl (wl_ov (ov_len es26 rfl) rfl ?_)))))
 refine wl_ov (ov_gtr rfl rfl) rfl ?_
 refine nn_ ?_
 refine gw_cond rfl (fun hh => ?_) (fun hh => ?_)
 ·have h1 : 200 < ((n : Nat) : Int) := by simpa using hh
  clear hh
  refine sr_ (sg_ rfl (nn_ ?_))
  refine gw_ret ?_
  refine nx_then_ret ?_
  refine nx_ret1 rfl rfl fun wx hm => ?_
  exact ⟨ret_int (by unfold ratesE; rw [if_pos (by omega)]), hm.g⟩
 have h1 : ¬ (200 < ((n : Nat) : Int)) := by simpa using hh
 clear hh
 refine gw_skip (nx_then (gw_seq (sr_ (mv_ rfl (wl_ov (ov_len es26 rfl) rfl (mv_ rfl (nn_ (gw_block ?_))))))))
 refine gw_loop (γ := Nat) (fun (k : Nat) => k ≤ n ∧ ratesE l = scanE rateE (prevOf l k) (l.drop k)) (fun (k : Nat) => [(0, .slice A n c), (11, .slice A n c), (12, .int .i64 ((n : Nat) : Int)), (13, .int .i64 ((k : Nat) : Int))]) (fun (k : Nat) => fun _ => True) (fun (k : Nat) => []) (fun (k : Nat) => []) (fun (k : Nat) => [SlOld rtEnc 7 38 w.heap.size none A n l]) (fun (k : Nat) => n - k) 0 ⟨Nat.zero_le _, by unfold ratesE; rw [if_neg (by omega)]; rfl⟩ ⟨rfl, rfl, rfl, rfl, trivial⟩ (fun _ hm => hm.pick [] [] [0] rfl rfl) ?_
 intro k hinv
 replace hinv : k ≤ n ∧ ratesE l = scanE rateE (prevOf l k) (l.drop k) := hinv
 refine sr_ (wl_ov (ov_lss rfl rfl) rfl (nn_ (gw_seq ?_)))
 refine gw_cond rfl (fun hh => ?_) (fun hh => ?_)
 ·have hk : ((k : Nat) : Int) < ((n : Nat) : Int) := by simpa using hh
  clear hh
  refine gw_skip (nx_then (gw_seq (gw_block (sr_ ?_))))
  obtain ⟨b, off, hA, _, _⟩ := hl.get (by omega)
  subst hA
  obtain ⟨x, hx⟩ : ∃ x, l[k]? = some x := ⟨_, List.getElem?_eq_getElem (by omega)⟩
  obtain ⟨cl, fr, tt, ho, dd, we, wk⟩ := x
  have hat := scanE_at rateE l k _ hx
  have hcl : cl.size ≤ 1000000 := hok _ (List.mem_of_getElem? hx)
  refine mv_ rfl ?_
  refine wl_ov (ov_index (j := k) es26 rfl rfl (by omega)) rfl ?_
  refine wl_ov (ov_elem (vs := [.string cl, .int .i64 fr, .int .i64 tt, .int .i64 ho, .int .i64 dd, .int .i64 we, .int .i64 wk]) rz38 rfl (fun _ hm => (hm.fact 0 rfl).1) hx rfl rfl) rfl ?_
  refine wl_alloc zc38 rfl fun g1 => ?_
  refine sg_ rfl ?_
  refine wl_stores (cs' := [.string cl, .int .i64 fr, .int .i64 tt, .int .i64 ho, .int .i64 dd, .int .i64 we, .int .i64 wk]) 0 rz38 rfl rfl rfl rfl rfl rfl rfl rfl ?_
  refine nn_ (gw_seq (gw_block (sr_ (fd_ fo38_0 rfl rfl (lk_ sc9 0 rfl rfl rfl ?_)))))
  refine wl_callw rfl cb160 rfl rfl (fun wx hm => (isKey_any _ wx (by omega))) ?_
  refine wl_ov (ov_un_not rfl) rfl (sg_ rfl (nn_ ?_))
  refine gw_cond rfl (fun hh => ?_) (fun hh => ?_)
  ·have h2 : (keyB cl) = false := by simpa using hh
   clear hh
   refine sr_ (sg_ rfl (nn_ ?_))
   refine gw_ret ?_
   refine nx_blk_ret (nx_then_ret (nx_blk_ret (nx_then_ret (nx_then_ret (nx_blk_ret (nx_then_ret ?_))))))
   have hE : rateE (prevOf l k) ⟨cl, fr, tt, ho, dd, we, wk⟩ = 5 := by unfold rateE; simp [h2]
   refine nx_ret1 rfl rfl fun wx hm => ?_
   exact ⟨ret_int (by rw [hinv.2, hat, if_neg (by rw [hE]; decide), hE]), hm.g⟩
  have h2 : (keyB cl) = true := by simpa using hh
  clear hh
  refine sr_ (fd_ fo38_1 rfl rfl (lk_ sc3 0 rfl rfl rfl (wl_ov (ov_lss rfl rfl) rfl (mv_ rfl ?_))))
  rcases Bool.eq_false_or_eq_true (decide (fr < 0)) with h3 | h3
  ·refine wl_set 27 rfl (congrArg Value.bool h3) ?_
   replace h3 := of_decide_eq_true h3
   refine goff rfl rfl rfl (goff rfl rfl rfl (goff rfl rfl rfl (goff rfl rfl rfl (goff rfl rfl rfl (pt_ rfl rfl (mv_ rfl (goff rfl rfl rfl (goff rfl rfl rfl (goff rfl rfl rfl (pt_ rfl rfl (sg_ rfl (nn_ ?_))))))))))))
   refine ct_ rfl (sr_ (sg_ rfl (nn_ ?_)))
   refine gw_ret ?_
   refine nx_blk_ret (nx_then_ret (nx_blk_ret (nx_then_ret (nx_then_ret (nx_blk_ret (nx_then_ret ?_))))))
   have hE : rateE (prevOf l k) ⟨cl, fr, tt, ho, dd, we, wk⟩ = 1 := by unfold rateE; simp [h2, h3]
   refine nx_ret1 rfl rfl fun wx hm => ?_
   exact ⟨ret_int (by rw [hinv.2, hat, if_neg (by rw [hE]; decide), hE]), hm.g⟩
  refine wl_set 27 rfl (congrArg Value.bool h3) ?_
  replace h3 := of_decide_eq_false h3
  refine wl_guard_on rfl rfl rfl (fd_ fo38_1 rfl rfl (wl_guard_on rfl rfl rfl (lk_ sc3 0 rfl rfl rfl (wl_guard_on rfl rfl rfl (fd_ fo38_2 rfl rfl (wl_guard_on rfl rfl rfl (lk_ sc3 0 rfl rfl rfl (wl_guard_on rfl rfl rfl ?_))))))))
  refine wl_ov (ov_geq rfl rfl) rfl ?_
  refine pf_ rfl rfl (mv_ rfl ?_)
  rcases Bool.eq_false_or_eq_true (decide (tt ≤ fr)) with h4 | h4
  ·refine wl_set 34 rfl (congrArg Value.bool h4) ?_
   replace h4 := of_decide_eq_true h4
   refine goff rfl rfl rfl (goff rfl rfl rfl (goff rfl rfl rfl (pt_ rfl rfl (sg_ rfl (nn_ (ct_ rfl (sr_ (sg_ rfl (nn_ ?_)))))))))
   refine gw_ret ?_
   refine nx_blk_ret (nx_then_ret (nx_blk_ret (nx_then_ret (nx_then_ret (nx_blk_ret (nx_then_ret ?_))))))
   have hE : rateE (prevOf l k) ⟨cl, fr, tt, ho, dd, we, wk⟩ = 1 := by unfold rateE; simp [h2, h3, h4]
   refine nx_ret1 rfl rfl fun wx hm => ?_
   exact ⟨ret_int (by rw [hinv.2, hat, if_neg (by rw [hE]; decide), hE]), hm.g⟩
  refine wl_set 34 rfl (congrArg Value.bool h4) ?_
  replace h4 := of_decide_eq_false h4
  refine wl_guard_on rfl rfl rfl (fd_ fo38_2 rfl rfl (wl_guard_on rfl rfl rfl (lk_ sc3 0 rfl rfl rfl (wl_guard_on rfl rfl rfl ?_))))
  refine wl_ov (ov_gtr rfl rfl) rfl ?_
  refine pf_ rfl rfl (sg_ rfl (nn_ ?_))
  refine gw_cond rfl (fun hh => ?_) (fun hh => ?_)
  ·have h5 : 4001 < tt := by simpa using hh
   clear hh
   refine sr_ (sg_ rfl (nn_ ?_))
   refine gw_ret ?_
   refine nx_blk_ret (nx_then_ret (nx_blk_ret (nx_then_ret (nx_then_ret (nx_blk_ret (nx_then_ret ?_))))))
   have hE : rateE (prevOf l k) ⟨cl, fr, tt, ho, dd, we, wk⟩ = 1 := by unfold rateE; simp [h2, h3, h4, h5]
   refine nx_ret1 rfl rfl fun wx hm => ?_
   exact ⟨ret_int (by rw [hinv.2, hat, if_neg (by rw [hE]; decide), hE]), hm.g⟩
  have h5 : ¬ (4001 < tt) := by simpa using hh
  clear hh
  refine gw_skip (nx_blk_nrm (nx_then (gw_seq (sr_ (fd_ fo38_3 rfl rfl (lk_ sc3 0 rfl rfl rfl (fd_ fo38_4 rfl rfl (lk_ sc3 0 rfl rfl rfl (fd_ fo38_5 rfl rfl (lk_ sc3 0 rfl rfl rfl (fd_ fo38_6 rfl rfl (lk_ sc3 0 rfl rfl rfl ?_))))))))))))
  refine wl_buildSlice (e := 3) (cs := [.int .i64 ho, .int .i64 dd, .int .i64 we, .int .i64 wk]) rfl (by kernel_rfl) rfl fun g2 => ?_
  refine wl_ov (ov_len es22 rfl) rfl ?_
  refine wl_set 48 (v' := .int .i64 4) rfl rfl ?_
  refine mv_ rfl (nn_ (gw_block ?_))
  refine gw_rounds 5 ?_
  refine gr_next ?_
  refine sr_ (wl_ov (ov_lss rfl rfl) rfl ?_)
  refine wl_set 50 (v' := .bool true) rfl (congrArg Value.bool (by decide)) ?_
  refine nn_ (gw_seq (ct_ rfl (gw_skip (nx_then (gw_seq (gw_block (sr_ ?_)))))))
  refine wl_ov (ov_index (j := 0) es22 rfl rfl (by decide)) rfl ?_
  refine lk_ sc3 0 rfl rfl rfl (sg_ rfl (nn_ (sr_ (mv_ rfl ?_))))
  refine wl_callw rfl cb154 rfl rfl (fun wx hm => (in_any _ _ _ wx)) ?_
  refine wl_ov (ov_un_not rfl) rfl (nn_ ?_)
  refine gw_cond rfl (fun hh => ?_) (fun hh => ?_)
  ·have i1 : (inB ho (-1) 1000000) = false := by simpa using hh
   clear hh
   refine sr_ (sg_ rfl (nn_ ?_))
   refine gw_ret ?_
   refine nx_blk_ret (nx_then_ret (nx_then_ret (nx_blk_ret (nx_then_ret (nx_blk_ret (nx_then_ret (nx_then_ret (nx_blk_ret (nx_then_ret ?_)))))))))
   have hE : rateE (prevOf l k) ⟨cl, fr, tt, ho, dd, we, wk⟩ = 1 := by unfold rateE; simp [h2, h3, h4, h5, i1]
   refine nx_ret1 rfl rfl fun wx hm => ?_
   exact ⟨ret_int (by rw [hinv.2, hat, if_neg (by rw [hE]; decide), hE]), hm.g⟩
  have i1 : (inB ho (-1) 1000000) = true := by simpa using hh
  clear hh
  refine gw_skip (nx_blk_nrm (nx_then (gw_region (ad_ rfl rfl ?_))))
  refine wl_set 56 (v' := .int .i64 1) rfl rfl ?_
  refine mv_ rfl (wl_nil ?_)
  refine nx_next ?_
  refine gr_next ?_
  refine sr_ (wl_ov (ov_lss rfl rfl) rfl ?_)
  refine wl_set 50 (v' := .bool true) rfl (congrArg Value.bool (by decide)) ?_
  refine nn_ (gw_seq (ct_ rfl (gw_skip (nx_then (gw_seq (gw_block (sr_ ?_)))))))
  refine wl_ov (ov_index (j := 1) es22 rfl rfl (by decide)) rfl ?_
  refine lk_ sc3 0 rfl rfl rfl (sg_ rfl (nn_ (sr_ (mv_ rfl ?_))))
  refine wl_callw rfl cb154 rfl rfl (fun wx hm => (in_any _ _ _ wx)) ?_
  refine wl_ov (ov_un_not rfl) rfl (nn_ ?_)
  refine gw_cond rfl (fun hh => ?_) (fun hh => ?_)
  ·have i2 : (inB dd (-1) 1000000) = false := by simpa using hh
   clear hh
   refine sr_ (sg_ rfl (nn_ ?_))
   refine gw_ret ?_
   refine nx_blk_ret (nx_then_ret (nx_then_ret (nx_blk_ret (nx_then_ret (nx_blk_ret (nx_then_ret (nx_then_ret (nx_blk_ret (nx_then_ret ?_)))))))))
   have hE : rateE (prevOf l k) ⟨cl, fr, tt, ho, dd, we, wk⟩ = 1 := by unfold rateE; simp [h2, h3, h4, h5, i1, i2]
   refine nx_ret1 rfl rfl fun wx hm => ?_
   exact ⟨ret_int (by rw [hinv.2, hat, if_neg (by rw [hE]; decide), hE]), hm.g⟩
  have i2 : (inB dd (-1) 1000000) = true := by simpa using hh
  clear hh
  refine gw_skip (nx_blk_nrm (nx_then (gw_region (ad_ rfl rfl ?_))))
  refine wl_set 56 (v' := .int .i64 2) rfl rfl ?_
  refine mv_ rfl (wl_nil ?_)
  refine nx_next ?_
  refine gr_next ?_
  refine sr_ (wl_ov (ov_lss rfl rfl) rfl ?_)
  refine wl_set 50 (v' := .bool true) rfl (congrArg Value.bool (by decide)) ?_
  refine nn_ (gw_seq (ct_ rfl (gw_skip (nx_then (gw_seq (gw_block (sr_ ?_)))))))
  refine wl_ov (ov_index (j := 2) es22 rfl rfl (by decide)) rfl ?_
  refine lk_ sc3 0 rfl rfl rfl (sg_ rfl (nn_ (sr_ (mv_ rfl ?_))))
  refine wl_callw rfl cb154 rfl rfl (fun wx hm => (in_any _ _ _ wx)) ?_
  refine wl_ov (ov_un_not rfl) rfl (nn_ ?_)
  refine gw_cond rfl (fun hh => ?_) (fun hh => ?_)
  ·have i3 : (inB we (-1) 1000000) = false := by simpa using hh
   clear hh
   refine sr_ (sg_ rfl (nn_ ?_))
   refine gw_ret ?_
   refine nx_blk_ret (nx_then_ret (nx_then_ret (nx_blk_ret (nx_then_ret (nx_blk_ret (nx_then_ret (nx_then_ret (nx_blk_ret (nx_then_ret ?_)))))))))
   have hE : rateE (prevOf l k) ⟨cl, fr, tt, ho, dd, we, wk⟩ = 1 := by unfold rateE; simp [h2, h3, h4, h5, i1, i2, i3]
   refine nx_ret1 rfl rfl fun wx hm => ?_
   exact ⟨ret_int (by rw [hinv.2, hat, if_neg (by rw [hE]; decide), hE]), hm.g⟩
  have i3 : (inB we (-1) 1000000) = true := by simpa using hh
  clear hh
  refine gw_skip (nx_blk_nrm (nx_then (gw_region (ad_ rfl rfl ?_))))
  refine wl_set 56 (v' := .int .i64 3) rfl rfl ?_
  refine mv_ rfl (wl_nil ?_)
  refine nx_next ?_
  refine gr_next ?_
  refine sr_ (wl_ov (ov_lss rfl rfl) rfl ?_)
  refine wl_set 50 (v' := .bool true) rfl (congrArg Value.bool (by decide)) ?_
  refine nn_ (gw_seq (ct_ rfl (gw_skip (nx_then (gw_seq (gw_block (sr_ ?_)))))))
  refine wl_ov (ov_index (j := 3) es22 rfl rfl (by decide)) rfl ?_
  refine lk_ sc3 0 rfl rfl rfl (sg_ rfl (nn_ (sr_ (mv_ rfl ?_))))
  refine wl_callw rfl cb154 rfl rfl (fun wx hm => (in_any _ _ _ wx)) ?_
  refine wl_ov (ov_un_not rfl) rfl (nn_ ?_)
  refine gw_cond rfl (fun hh => ?_) (fun hh => ?_)
  ·have i4 : (inB wk (-1) 1000000) = false := by simpa using hh
   clear hh
   refine sr_ (sg_ rfl (nn_ ?_))
   refine gw_ret ?_
   refine nx_blk_ret (nx_then_ret (nx_then_ret (nx_blk_ret (nx_then_ret (nx_blk_ret (nx_then_ret (nx_then_ret (nx_blk_ret (nx_then_ret ?_)))))))))
   have hE : rateE (prevOf l k) ⟨cl, fr, tt, ho, dd, we, wk⟩ = 1 := by unfold rateE; simp [h2, h3, h4, h5, i1, i2, i3, i4]
   refine nx_ret1 rfl rfl fun wx hm => ?_
   exact ⟨ret_int (by rw [hinv.2, hat, if_neg (by rw [hE]; decide), hE]), hm.g⟩
  have i4 : (inB wk (-1) 1000000) = true := by simpa using hh
  clear hh
  refine gw_skip (nx_blk_nrm (nx_then (gw_region ?_)))
  by_cases hk0 : k = 0
  ·have hE : rateE (prevOf l k) ⟨cl, fr, tt, ho, dd, we, wk⟩ = 0 := by unfold rateE; rw [pv_zero hk0]; simp [h2, h3, h4, h5, i1, i2, i3, i4]
   refine ad_ rfl rfl ?_
   refine wl_set 56 (v' := .int .i64 4) rfl rfl ?_
   refine mv_ rfl (wl_nil ?_)
   refine nx_next ?_
   refine gr_next ?_
   refine sr_ (wl_ov (ov_lss rfl rfl) rfl ?_)
   refine wl_set 50 (v' := .bool false) rfl (congrArg Value.bool (by decide)) ?_
   refine nn_ (gw_seq (cf_ rfl ?_))
   refine gw_exit ?_
   refine nx_then_exit (nx_then_exit ?_)
   refine nx_blk_here ?_
   refine nx_then (gw_seq (sr_ (mv_ rfl (wl_ov (ov_eql rfl rfl) rfl ?_))))
   refine wl_set 58 (v' := .bool true) rfl (congrArg Value.bool (decide_eq_true (by omega))) ?_
   refine nn_ (ct_ rfl ?_)
   refine gw_exit ?_
   refine nx_then_exit ?_
   refine nx_blk_here ?_
   refine nx_then (gw_region (ad_ rfl rfl (mv_ rfl (wl_nil ?_))))
   exact nx_round (k + 1) ⟨by omega, by rw [hinv.2, hat, if_pos hE]⟩ (by omega) ⟨rfl, rfl, rfl, (some_int (by omega)), trivial⟩ (fun _ hm => hm.pick [] [] [0] rfl rfl)
  obtain ⟨y, hy⟩ : ∃ x, l[k - 1]? = some x := ⟨_, List.getElem?_eq_getElem (by omega)⟩
  obtain ⟨p0, p1, p2, p3, p4, p5, p6⟩ := y
  have hpv := pv_pos hk0 hy
  refine ad_ rfl rfl ?_
  refine wl_set 56 (v' := .int .i64 4) rfl rfl ?_
  refine mv_ rfl (wl_nil ?_)
  refine nx_next ?_
  refine gr_next ?_
  refine sr_ (wl_ov (ov_lss rfl rfl) rfl ?_)
  refine wl_set 50 (v' := .bool false) rfl (congrArg Value.bool (by decide)) ?_
  refine nn_ (gw_seq (cf_ rfl ?_))
  refine gw_exit ?_
  refine nx_then_exit (nx_then_exit ?_)
  refine nx_blk_here ?_
  refine nx_then (gw_seq (sr_ (mv_ rfl (wl_ov (ov_eql rfl rfl) rfl ?_))))
  refine wl_set 58 (v' := .bool false) rfl (congrArg Value.bool (decide_eq_false (by omega))) ?_
  refine nn_ (cf_ rfl (gw_skip (nx_then (sr_ (mv_ rfl (mv_ rfl ?_))))))
  refine wl_ov (ov_sub rfl rfl (by omega) (by omega)) rfl ?_
  refine wl_set 61 (v' := .int .i64 ((k - 1 : Nat) : Int)) rfl (congrArg (Value.int .i64) (by omega)) ?_
  refine wl_ov (ov_index (j := k - 1) es26 rfl rfl (by omega)) rfl ?_
  refine wl_ov (ov_elem (vs := [.string p0, .int .i64 p1, .int .i64 p2, .int .i64 p3, .int .i64 p4, .int .i64 p5, .int .i64 p6]) rz38 rfl (fun _ hm => (hm.fact 0 rfl).1) hy rfl rfl) rfl ?_
  refine wl_alloc zc38 rfl fun g3 => ?_
  refine wl_stores (cs' := [.string p0, .int .i64 p1, .int .i64 p2, .int .i64 p3, .int .i64 p4, .int .i64 p5, .int .i64 p6]) 0 rz38 rfl rfl rfl rfl rfl rfl rfl rfl ?_
  refine nn_ (gw_seq (gw_seq ?_))
  refine gd (fun wz => Blk wz g3 38 [.string p0, .int .i64 p1, .int .i64 p2, .int .i64 p3, .int .i64 p4, .int .i64 p5, .int .i64 p6] ∧ Blk wz g2 3 [.int .i64 ho, .int .i64 dd, .int .i64 we, .int .i64 wk] ∧ Blk wz g1 38 [.string cl, .int .i64 fr, .int .i64 tt, .int .i64 ho, .int .i64 dd, .int .i64 we, .int .i64 wk] ∧ (SlOld rtEnc 7 38 w.heap.size none (some ⟨b, off, none⟩) n l) wz ∧ True) mixed (fun _ hm => ⟨hm.bl 0, hm.bl 1, hm.bl 2, hm.fa 0, trivial⟩) fun z => ?_
  refine wt 0 13 1 rfl z (ov_field fo38_0 rfl rfl) ?_
  refine wt 1 13 3 rfl z (ov_load sc9 rfl (fun _ hm => hm.1) rfl) ?_
  refine wt 2 13 7 rfl z (ov_field fo38_0 rfl rfl) ?_
  refine wt 3 13 15 rfl z (ov_load sc9 rfl (fun _ hm => hm.2.2.1) rfl) ?_
  refine wt 5 13 47 rfl z (ov_field fo38_1 rfl rfl) ?_
  refine wt 6 13 111 rfl z (ov_load sc3 rfl (fun _ hm => hm.1) rfl) ?_
  refine wt 7 13 239 rfl z (ov_field fo38_1 rfl rfl) ?_
  refine wt 8 13 495 rfl z (ov_load sc3 rfl (fun _ hm => hm.2.2.1) rfl) ?_
  refine wa1 4 rfl ?_
  refine wl_callv rfl cb85 rfl rfl (fun wx hm => (cmp_string _ _ wx)) ?_
  refine wl_nil ?_
  refine nw 13 511 (fun _ hm => ⟨hm.bl 0, hm.bl 1, hm.bl 2, hm.fa 0, trivial⟩) fun z => ?_
  refine wa1 9 rfl ?_
  refine wl_callv rfl cb84 rfl rfl (fun wx hm => (cmp_int _ _ wx)) ?_
  refine wl_nil ?_
  refine nw 13 1023 (fun _ hm => ⟨hm.bl 0, hm.bl 1, hm.bl 2, hm.fa 0, trivial⟩) fun z => ?_
  refine wa1 10 rfl ?_
  refine wl_buildSlice (e := 3) (cs := [.int .i64 (cmpS p0 cl), .int .i64 (cmpI p1 fr)]) rfl (by kernel_rfl) rfl fun g4 => ?_
  refine wl_nil ?_
  refine nw 13 2047 (fun _ hm => ⟨hm.bl 1, hm.bl 2, hm.bl 3, hm.fa 0, trivial⟩) fun z => ?_
  refine wa1 11 rfl ?_
  refine wl_callv rfl cb83 rfl rfl (fun wx hm => (or_two _ _ _ _ _ wx (hm.blkI 0 rfl))) ?_
  refine wl_nil ?_
  refine nw 13 4095 (fun _ hm => ⟨hm.bl 1, hm.bl 2, hm.bl 3, hm.fa 0, trivial⟩) fun z => ?_
  refine wt 12 13 8191 rfl z (ov_geq rfl rfl) ?_
  refine wa_done (by kernel_rfl) ?_
  refine nx_then ?_
  refine gw_cond rfl (fun hh => ?_) (fun hh => ?_)
  ·have h8 : 0 ≤ firstE [cmpS p0 cl, cmpI p1 fr] := by simpa using hh
   clear hh
   refine sr_ ?_
   have h9 : rtLt ⟨p0, p1, p2, p3, p4, p5, p6⟩ ⟨cl, fr, tt, ho, dd, we, wk⟩ = false := (or_rt' ⟨p0, p1, p2, p3, p4, p5, p6⟩ ⟨cl, fr, tt, ho, dd, we, wk⟩).1 h8
   refine sg_ rfl (nn_ ?_)
   refine gw_ret ?_
   refine nx_then_ret (nx_blk_ret (nx_then_ret (nx_then_ret (nx_blk_ret (nx_then_ret ?_)))))
   have hE : rateE (prevOf l k) ⟨cl, fr, tt, ho, dd, we, wk⟩ = 7 := by unfold rateE; rw [hpv]; simp [h2, h3, h4, h5, i1, i2, i3, i4, h9]
   refine nx_ret1 rfl rfl fun wx hm => ?_
   exact ⟨ret_int (by rw [hinv.2, hat, if_neg (by rw [hE]; decide), hE]), hm.g⟩
  have h8 : ¬ (0 ≤ firstE [cmpS p0 cl, cmpI p1 fr]) := by simpa using hh
  clear hh
  refine gw_skip (nx_then (sr_ ?_))
  have h9 : rtLt ⟨p0, p1, p2, p3, p4, p5, p6⟩ ⟨cl, fr, tt, ho, dd, we, wk⟩ = true := by
   cases h : rtLt ⟨p0, p1, p2, p3, p4, p5, p6⟩ ⟨cl, fr, tt, ho, dd, we, wk⟩
   ·exact absurd ((or_rt' ⟨p0, p1, p2, p3, p4, p5, p6⟩ ⟨cl, fr, tt, ho, dd, we, wk⟩).2 h) h8
   rfl
  refine fd_ fo38_0 rfl rfl (lk_ sc9 1 rfl rfl rfl (fd_ fo38_0 rfl rfl (lk_ sc9 3 rfl rfl rfl (wl_ov (ov_seql rfl rfl) rfl (mv_ rfl ?_)))))
  rcases Bool.eq_false_or_eq_true (p0.toList == cl.toList) with h12 | h12
  ·refine wl_set 82 rfl (congrArg Value.bool h12) ?_
   have h13 : eqS p0 cl = true := h12
   refine wl_guard_on rfl rfl rfl (fd_ fo38_2 rfl rfl (wl_guard_on rfl rfl rfl (lk_ sc3 1 rfl rfl rfl (wl_guard_on rfl rfl rfl (fd_ fo38_1 rfl rfl (wl_guard_on rfl rfl rfl (lk_ sc3 3 rfl rfl rfl (wl_guard_on rfl rfl rfl ?_))))))))
   refine wl_ov (ov_gtr rfl rfl) rfl ?_
   refine pt_ rfl rfl (nn_ ?_)
   refine gw_cond rfl (fun hh => ?_) (fun hh => ?_)
   ·have h14 : fr < p2 := by simpa using hh
    clear hh
    refine sr_ (sg_ rfl (nn_ ?_))
    refine gw_ret ?_
    refine nx_blk_ret (nx_then_ret (nx_then_ret (nx_blk_ret (nx_then_ret ?_))))
    have hE : rateE (prevOf l k) ⟨cl, fr, tt, ho, dd, we, wk⟩ = 13 := by unfold rateE; rw [hpv]; simp [h2, h3, h4, h5, i1, i2, i3, i4, h9, h13, h14]
    refine nx_ret1 rfl rfl fun wx hm => ?_
    exact ⟨ret_int (by rw [hinv.2, hat, if_neg (by rw [hE]; decide), hE]), hm.g⟩
   have h14 : ¬ (fr < p2) := by simpa using hh
   clear hh
   refine gw_skip (nx_blk_nrm (nx_then (gw_region ?_)))
   have hE : rateE (prevOf l k) ⟨cl, fr, tt, ho, dd, we, wk⟩ = 0 := by unfold rateE; rw [hpv]; simp [h2, h3, h4, h5, i1, i2, i3, i4, h9, h13, h14]
   refine ad_ rfl rfl (mv_ rfl (wl_nil ?_))
   exact nx_round (k + 1) ⟨by omega, by rw [hinv.2, hat, if_pos hE]⟩ (by omega) ⟨rfl, rfl, rfl, (some_int (by omega)), trivial⟩ (fun _ hm => hm.pick [] [] [0] rfl rfl)
  refine wl_set 82 rfl (congrArg Value.bool h12) ?_
  have h13 : eqS p0 cl = false := h12
  have hE : rateE (prevOf l k) ⟨cl, fr, tt, ho, dd, we, wk⟩ = 0 := by unfold rateE; rw [hpv]; simp [h2, h3, h4, h5, i1, i2, i3, i4, h9, h13]
  refine goff rfl rfl rfl (goff rfl rfl rfl (goff rfl rfl rfl (goff rfl rfl rfl (goff rfl rfl rfl (pf_ rfl rfl (nn_ (cf_ rfl (gw_skip (nx_blk_nrm (nx_then (gw_region (ad_ rfl rfl ?_))))))))))))
  refine mv_ rfl (wl_nil ?_)
  exact nx_round (k + 1) ⟨by omega, by rw [hinv.2, hat, if_pos hE]⟩ (by omega) ⟨rfl, rfl, rfl, (some_int (by omega)), trivial⟩ (fun _ hm => hm.pick [] [] [0] rfl rfl)
 have hk : ¬ (((k : Nat) : Int) < ((n : Nat) : Int)) := by simpa using hh
 clear hh
 refine gw_exit ?_
 refine nx_then_exit (nx_then_exit ?_)
 refine nx_blk_here ?_
 refine nx_then (sr_ (sg_ rfl (nn_ ?_)))
 refine gw_ret ?_
 refine nx_ret1 rfl rfl fun wx hm => ?_
 exact ⟨ret_int (by rw [hinv.2, scanE_end _ _ _ _ (by omega)]), hm.g⟩
theorem ratesFault_any (l : List Rt) (A : Option Addr) (n c : Nat) (w : World) (hl : SlT rtEnc 7 38 w A n l) (hok : ∀ b ∈ l, RtOk b) (hn : n ≤ 1000000) :
  Calls Tryz.prog 10 #[.slice A n c] w (GotE w (ratesE l)) := by
 refine gw_enter ⟨107, w, none, []⟩ Tryz.func10 rfl Tryz.ntmps10 rfl (mem0 (X := [SlOld rtEnc 7 38 w.heap.size none A n l]) (allF_cons hl.old allF_nil) (allL_cons SlOld.lasts allL_nil)) ?_
 refine sr_ ?_
 have hlen := hl.len
 refine sg_ rfl (nn_ (gw_seq (sr_ (mv_ rfl (wl_ov (ov_len es26 rfl) rfl ?_)))))
 refine wl_ov (ov_gtr rfl rfl) rfl ?_
 refine nn_ ?_
 refine gw_cond rfl (fun hh => ?_) (fun hh => ?_)
 ·have h1 : 200 < ((n : Nat) : Int) := by simpa using hh
  clear hh
  refine sr_ (sg_ rfl (nn_ ?_))
  refine gw_ret ?_
  refine nx_then_ret ?_
  refine nx_ret1 rfl rfl fun wx hm => ?_
  exact ⟨ret_int (by unfold ratesE; rw [if_pos (by omega)]), hm.g⟩
 have h1 : ¬ (200 < ((n : Nat) : Int)) := by simpa using hh
 clear hh
 refine gw_skip (nx_then (gw_seq (sr_ (mv_ rfl (wl_ov (ov_len es26 rfl) rfl (mv_ rfl (nn_ (gw_block ?_))))))))
 refine gw_loop (γ := Nat) (fun (k : Nat) => k ≤ n ∧ ratesE l = scanE rateE (prevOf l k) (l.drop k)) (fun (k : Nat) => [(0, .slice A n c), (11, .slice A n c), (12, .int .i64 ((n : Nat) : Int)), (13, .int .i64 ((k : Nat) : Int))]) (fun (k : Nat) => fun _ => True) (fun (k : Nat) => []) (fun (k : Nat) => []) (fun (k : Nat) => [SlOld rtEnc 7 38 w.heap.size none A n l]) (fun (k : Nat) => n - k) 0 ⟨Nat.zero_le _, by unfold ratesE; rw [if_neg (by omega)]; rfl⟩ ⟨rfl, rfl, rfl, rfl, trivial⟩ (fun _ hm => hm.pick [] [] [0] rfl rfl) ?_
 intro k hinv
 replace hinv : k ≤ n ∧ ratesE l = scanE rateE (prevOf l k) (l.drop k) := hinv
 refine sr_ (wl_ov (ov_lss rfl rfl) rfl (nn_ (gw_seq ?_)))
 refine gw_cond rfl (fun hh => ?_) (fun hh => ?_)
 ·have hk : ((k : Nat) : Int) < ((n : Nat) : Int) := by simpa using hh
  clear hh
  refine gw_skip (nx_then (gw_seq (gw_block (sr_ ?_))))
  obtain ⟨b, off, hA, _, _⟩ := hl.get (by omega)
  subst hA
  obtain ⟨x, hx⟩ : ∃ x, l[k]? = some x := ⟨_, List.getElem?_eq_getElem (by omega)⟩
  obtain ⟨cl, fr, tt, ho, dd, we, wk⟩ := x
  have hat := scanE_at rateE l k _ hx
  have hcl : cl.size ≤ 1000000 := hok _ (List.mem_of_getElem? hx)
  refine mv_ rfl ?_
  refine wl_ov (ov_index (j := k) es26 rfl rfl (by omega)) rfl ?_
  refine wl_ov (ov_elem (vs := [.string cl, .int .i64 fr, .int .i64 tt, .int .i64 ho, .int .i64 dd, .int .i64 we, .int .i64 wk]) rz38 rfl (fun _ hm => (hm.fact 0 rfl).1) hx rfl rfl) rfl ?_
  refine wl_alloc zc38 rfl fun g1 => ?_
  refine sg_ rfl ?_
  refine wl_stores (cs' := [.string cl, .int .i64 fr, .int .i64 tt, .int .i64 ho, .int .i64 dd, .int .i64 we, .int .i64 wk]) 0 rz38 rfl rfl rfl rfl rfl rfl rfl rfl ?_
  refine nn_ (gw_seq ?_)
  refine gd (fun wz => Blk wz g1 38 [.string cl, .int .i64 fr, .int .i64 tt, .int .i64 ho, .int .i64 dd, .int .i64 we, .int .i64 wk] ∧ (SlOld rtEnc 7 38 w.heap.size none (some ⟨b, off, none⟩) n l) wz ∧ True) mixed (fun _ hm => ⟨hm.bl 0, hm.fa 0, trivial⟩) fun z => ?_
  refine wt 0 20 1 rfl z (ov_field fo38_3 rfl rfl) ?_
  refine wt 1 20 3 rfl z (ov_load sc3 rfl (fun _ hm => hm.1) rfl) ?_
  refine wt 2 20 7 rfl z (ov_field fo38_4 rfl rfl) ?_
  refine wt 3 20 15 rfl z (ov_load sc3 rfl (fun _ hm => hm.1) rfl) ?_
  refine wt 4 20 31 rfl z (ov_field fo38_5 rfl rfl) ?_
  refine wt 5 20 63 rfl z (ov_load sc3 rfl (fun _ hm => hm.1) rfl) ?_
  refine wt 6 20 127 rfl z (ov_field fo38_6 rfl rfl) ?_
  refine wt 7 20 255 rfl z (ov_load sc3 rfl (fun _ hm => hm.1) rfl) ?_
  refine wt 8 20 511 rfl z (ov_min4 rfl rfl rfl rfl) ?_
  refine wt 9 20 1023 rfl z (ov_field fo38_3 rfl rfl) ?_
  refine wt 10 20 2047 rfl z (ov_load sc3 rfl (fun _ hm => hm.1) rfl) ?_
  refine wt 11 20 4095 rfl z (ov_field fo38_4 rfl rfl) ?_
  refine wt 12 20 8191 rfl z (ov_load sc3 rfl (fun _ hm => hm.1) rfl) ?_
  refine wt 13 20 16383 rfl z (ov_field fo38_5 rfl rfl) ?_
  refine wt 14 20 32767 rfl z (ov_load sc3 rfl (fun _ hm => hm.1) rfl) ?_
  refine wt 15 20 65535 rfl z (ov_field fo38_6 rfl rfl) ?_
  refine wt 16 20 131071 rfl z (ov_load sc3 rfl (fun _ hm => hm.1) rfl) ?_
  refine wt 17 20 262143 rfl z (ov_max4 rfl rfl rfl rfl) ?_
  refine wt 18 20 524287 rfl z (ov_assign rfl) ?_
  refine wt 19 20 1048575 rfl z (ov_assign rfl) ?_
  refine wa_done (by kernel_rfl) ?_
  refine nx_then (gw_seq (gw_block (sr_ (fd_ fo38_0 rfl rfl (lk_ sc9 0 rfl rfl rfl ?_)))))
  refine wl_callv rfl cb64 rfl rfl (fun wx hm => (key_any _ wx (by omega))) ?_
  refine wl_ov (ov_un_not rfl) rfl (sg_ rfl (nn_ ?_))
  refine gw_cond rfl (fun hh => ?_) (fun hh => ?_)
  ·have h2 : (keyB cl) = false := by simpa using hh
   clear hh
   refine sr_ (sg_ rfl (nn_ ?_))
   refine gw_ret ?_
   refine nx_blk_ret (nx_then_ret (nx_blk_ret (nx_then_ret (nx_then_ret (nx_blk_ret (nx_then_ret ?_))))))
   have hE : rateE (prevOf l k) ⟨cl, fr, tt, ho, dd, we, wk⟩ = 5 := by unfold rateE; simp [h2]
   refine nx_ret1 rfl rfl fun wx hm => ?_
   exact ⟨ret_int (by rw [hinv.2, hat, if_neg (by rw [hE]; decide), hE]), hm.g⟩
  have h2 : (keyB cl) = true := by simpa using hh
  clear hh
  refine sr_ (fd_ fo38_1 rfl rfl (lk_ sc3 0 rfl rfl rfl (wl_ov (ov_lss rfl rfl) rfl (mv_ rfl ?_))))
  rcases Bool.eq_false_or_eq_true (decide (fr < 0)) with h3 | h3
  ·refine wl_set 45 rfl (congrArg Value.bool h3) ?_
   replace h3 := of_decide_eq_true h3
   refine goff rfl rfl rfl (goff rfl rfl rfl (goff rfl rfl rfl (goff rfl rfl rfl (goff rfl rfl rfl (pt_ rfl rfl (mv_ rfl (goff rfl rfl rfl (goff rfl rfl rfl (goff rfl rfl rfl (pt_ rfl rfl (mv_ rfl (goff rfl rfl rfl (goff rfl rfl rfl ?_)))))))))))))
   refine pt_ rfl rfl (mv_ rfl (goff rfl rfl rfl (goff rfl rfl rfl (pt_ rfl rfl (sg_ rfl (nn_ (ct_ rfl (sr_ (sg_ rfl (nn_ ?_))))))))))
   refine gw_ret ?_
   refine nx_blk_ret (nx_then_ret (nx_blk_ret (nx_then_ret (nx_then_ret (nx_blk_ret (nx_then_ret ?_))))))
   have hE : rateE (prevOf l k) ⟨cl, fr, tt, ho, dd, we, wk⟩ = 1 := by unfold rateE; simp [h2, h3]
   refine nx_ret1 rfl rfl fun wx hm => ?_
   exact ⟨ret_int (by rw [hinv.2, hat, if_neg (by rw [hE]; decide), hE]), hm.g⟩
  refine wl_set 45 rfl (congrArg Value.bool h3) ?_
  replace h3 := of_decide_eq_false h3
  refine wl_guard_on rfl rfl rfl (fd_ fo38_1 rfl rfl (wl_guard_on rfl rfl rfl (lk_ sc3 0 rfl rfl rfl (wl_guard_on rfl rfl rfl (fd_ fo38_2 rfl rfl (wl_guard_on rfl rfl rfl (lk_ sc3 0 rfl rfl rfl (wl_guard_on rfl rfl rfl ?_))))))))
  refine wl_ov (ov_geq rfl rfl) rfl ?_
  refine pf_ rfl rfl (mv_ rfl ?_)
  rcases Bool.eq_false_or_eq_true (decide (tt ≤ fr)) with h4 | h4
  ·refine wl_set 52 rfl (congrArg Value.bool h4) ?_
   replace h4 := of_decide_eq_true h4
   refine goff rfl rfl rfl (goff rfl rfl rfl (goff rfl rfl rfl (pt_ rfl rfl (mv_ rfl (goff rfl rfl rfl (goff rfl rfl rfl (pt_ rfl rfl (mv_ rfl (goff rfl rfl rfl (goff rfl rfl rfl (pt_ rfl rfl (sg_ rfl (wl_nil ?_)))))))))))))
   refine nx_then (ct_ rfl (sr_ (sg_ rfl (nn_ ?_))))
   refine gw_ret ?_
   refine nx_blk_ret (nx_then_ret (nx_blk_ret (nx_then_ret (nx_then_ret (nx_blk_ret (nx_then_ret ?_))))))
   have hE : rateE (prevOf l k) ⟨cl, fr, tt, ho, dd, we, wk⟩ = 1 := by unfold rateE; simp [h2, h3, h4]
   refine nx_ret1 rfl rfl fun wx hm => ?_
   exact ⟨ret_int (by rw [hinv.2, hat, if_neg (by rw [hE]; decide), hE]), hm.g⟩
  refine wl_set 52 rfl (congrArg Value.bool h4) ?_
  replace h4 := of_decide_eq_false h4
  refine wl_guard_on rfl rfl rfl (fd_ fo38_2 rfl rfl (wl_guard_on rfl rfl rfl (lk_ sc3 0 rfl rfl rfl (wl_guard_on rfl rfl rfl ?_))))
  refine wl_ov (ov_gtr rfl rfl) rfl ?_
  refine pf_ rfl rfl (mv_ rfl ?_)
  rcases Bool.eq_false_or_eq_true (decide (4001 < tt)) with h5 | h5
  ·refine wl_set 57 rfl (congrArg Value.bool h5) ?_
   replace h5 := of_decide_eq_true h5
   refine goff rfl rfl rfl (goff rfl rfl rfl (pt_ rfl rfl (mv_ rfl (goff rfl rfl rfl (goff rfl rfl rfl (pt_ rfl rfl (sg_ rfl (nn_ (ct_ rfl (sr_ (sg_ rfl ?_)))))))))))
   refine nn_ ?_
   refine gw_ret ?_
   refine nx_blk_ret (nx_then_ret (nx_blk_ret (nx_then_ret (nx_then_ret (nx_blk_ret (nx_then_ret ?_))))))
   have hE : rateE (prevOf l k) ⟨cl, fr, tt, ho, dd, we, wk⟩ = 1 := by unfold rateE; simp [h2, h3, h4, h5]
   refine nx_ret1 rfl rfl fun wx hm => ?_
   exact ⟨ret_int (by rw [hinv.2, hat, if_neg (by rw [hE]; decide), hE]), hm.g⟩
  refine wl_set 57 rfl (congrArg Value.bool h5) ?_
  replace h5 := of_decide_eq_false h5
  refine wl_guard_on rfl rfl rfl (mv_ rfl (wl_guard_on rfl rfl rfl (wl_ov (ov_lss rfl rfl) rfl (pf_ rfl rfl (mv_ rfl ?_)))))
  rcases Bool.eq_false_or_eq_true (decide (min (min (min ho dd) we) wk < -1)) with h6 | h6
  ·refine wl_set 61 rfl (congrArg Value.bool h6) ?_
   replace h6 := of_decide_eq_true h6
   have hi : inB ho (-1) 1000000 = false ∨ inB dd (-1) 1000000 = false ∨ inB we (-1) 1000000 = false ∨ inB wk (-1) 1000000 = false := by simp only [inB_false]; omega
   refine goff rfl rfl rfl (goff rfl rfl rfl (pt_ rfl rfl (sg_ rfl (nn_ (ct_ rfl (sr_ (sg_ rfl (nn_ ?_))))))))
   refine gw_ret ?_
   refine nx_blk_ret (nx_then_ret (nx_blk_ret (nx_then_ret (nx_then_ret (nx_blk_ret (nx_then_ret ?_))))))
   have hE : rateE (prevOf l k) ⟨cl, fr, tt, ho, dd, we, wk⟩ = 1 := by unfold rateE; simp [h2, h3, h4, h5, hi]
   refine nx_ret1 rfl rfl fun wx hm => ?_
   exact ⟨ret_int (by rw [hinv.2, hat, if_neg (by rw [hE]; decide), hE]), hm.g⟩
  refine wl_set 61 rfl (congrArg Value.bool h6) ?_
  replace h6 := of_decide_eq_false h6
  refine wl_guard_on rfl rfl rfl (mv_ rfl (wl_guard_on rfl rfl rfl ?_))
  refine wl_ov (ov_gtr rfl rfl) rfl ?_
  refine pf_ rfl rfl (sg_ rfl (nn_ ?_))
  refine gw_cond rfl (fun hh => ?_) (fun hh => ?_)
  ·have h7 : 1000000 < max (max (max ho dd) we) wk := by simpa using hh
   clear hh
   refine sr_ ?_
   have hi : inB ho (-1) 1000000 = false ∨ inB dd (-1) 1000000 = false ∨ inB we (-1) 1000000 = false ∨ inB wk (-1) 1000000 = false := by simp only [inB_false]; omega
   refine sg_ rfl (nn_ ?_)
   refine gw_ret ?_
   refine nx_blk_ret (nx_then_ret (nx_blk_ret (nx_then_ret (nx_then_ret (nx_blk_ret (nx_then_ret ?_))))))
   have hE : rateE (prevOf l k) ⟨cl, fr, tt, ho, dd, we, wk⟩ = 1 := by unfold rateE; simp [h2, h3, h4, h5, hi]
   refine nx_ret1 rfl rfl fun wx hm => ?_
   exact ⟨ret_int (by rw [hinv.2, hat, if_neg (by rw [hE]; decide), hE]), hm.g⟩
  have h7 : ¬ (1000000 < max (max (max ho dd) we) wk) := by simpa using hh
  clear hh
  refine sr_ ?_
  have i1 : inB ho (-1) 1000000 = true := inB_iff.2 (by omega)
  have i2 : inB dd (-1) 1000000 = true := inB_iff.2 (by omega)
  have i3 : inB we (-1) 1000000 = true := inB_iff.2 (by omega)
  have i4 : inB wk (-1) 1000000 = true := inB_iff.2 (by omega)
  by_cases hk0 : k = 0
  ·have hE : rateE (prevOf l k) ⟨cl, fr, tt, ho, dd, we, wk⟩ = 0 := by unfold rateE; rw [pv_zero hk0]; simp [h2, h3, h4, h5, i1, i2, i3, i4]
   refine mv_ rfl (wl_ov (ov_eql rfl rfl) rfl ?_)
   refine wl_set 67 (v' := .bool true) rfl (congrArg Value.bool (decide_eq_true (by omega))) ?_
   refine sg_ rfl (nn_ (ct_ rfl ?_))
   refine gw_exit ?_
   refine nx_blk_on rfl ?_
   refine nx_then_exit ?_
   refine nx_blk_here ?_
   refine nx_then (gw_region (ad_ rfl rfl (mv_ rfl (wl_nil ?_))))
   exact nx_round (k + 1) ⟨by omega, by rw [hinv.2, hat, if_pos hE]⟩ (by omega) ⟨rfl, rfl, rfl, (some_int (by omega)), trivial⟩ (fun _ hm => hm.pick [] [] [0] rfl rfl)
  obtain ⟨y, hy⟩ : ∃ x, l[k - 1]? = some x := ⟨_, List.getElem?_eq_getElem (by omega)⟩
  obtain ⟨p0, p1, p2, p3, p4, p5, p6⟩ := y
  have hpv := pv_pos hk0 hy
  refine mv_ rfl (wl_ov (ov_eql rfl rfl) rfl ?_)
  refine wl_set 67 (v' := .bool false) rfl (congrArg Value.bool (decide_eq_false (by omega))) ?_
  refine sg_ rfl (nn_ (cf_ rfl (gw_skip (nx_blk_nrm (nx_then (sr_ (mv_ rfl (mv_ rfl ?_))))))))
  refine wl_ov (ov_sub rfl rfl (by omega) (by omega)) rfl ?_
  refine wl_set 70 (v' := .int .i64 ((k - 1 : Nat) : Int)) rfl (congrArg (Value.int .i64) (by omega)) ?_
  refine wl_ov (ov_index (j := k - 1) es26 rfl rfl (by omega)) rfl ?_
  refine wl_ov (ov_elem (vs := [.string p0, .int .i64 p1, .int .i64 p2, .int .i64 p3, .int .i64 p4, .int .i64 p5, .int .i64 p6]) rz38 rfl (fun _ hm => (hm.fact 0 rfl).1) hy rfl rfl) rfl ?_
  refine wl_alloc zc38 rfl fun g2 => ?_
  refine wl_stores (cs' := [.string p0, .int .i64 p1, .int .i64 p2, .int .i64 p3, .int .i64 p4, .int .i64 p5, .int .i64 p6]) 0 rz38 rfl rfl rfl rfl rfl rfl rfl rfl ?_
  refine nn_ (gw_block (sr_ (fd_ fo38_0 rfl rfl (lk_ sc9 1 rfl rfl rfl (fd_ fo38_0 rfl rfl (lk_ sc9 0 rfl rfl rfl ?_))))))
  refine wl_ov (ov_slss rfl rfl) rfl ?_
  refine mv_ rfl ?_
  rcases Bool.eq_false_or_eq_true (Op.bytesLess cl.toList p0.toList) with h8 | h8
  ·refine wl_set 79 rfl (congrArg Value.bool h8) ?_
   have h9 : rtLt ⟨p0, p1, p2, p3, p4, p5, p6⟩ ⟨cl, fr, tt, ho, dd, we, wk⟩ = false := by have h := lt_rt ⟨p0, p1, p2, p3, p4, p5, p6⟩ ⟨cl, fr, tt, ho, dd, we, wk⟩; simp only at h; rw [h8] at h; simpa using h.symm
   refine goff rfl rfl rfl (goff rfl rfl rfl (goff rfl rfl rfl (goff rfl rfl rfl (goff rfl rfl rfl (goff rfl rfl rfl (gnd rfl rfl rfl (gnd rfl rfl rfl (gnd rfl rfl rfl (gnd rfl rfl rfl (gnd rfl rfl rfl (goff rfl rfl rfl (pt_ rfl rfl (sg_ rfl ?_)))))))))))))
   refine nn_ (ct_ rfl (sr_ (sg_ rfl (nn_ ?_))))
   refine gw_ret ?_
   refine nx_blk_ret (nx_blk_ret (nx_then_ret (nx_then_ret (nx_blk_ret (nx_then_ret ?_)))))
   have hE : rateE (prevOf l k) ⟨cl, fr, tt, ho, dd, we, wk⟩ = 7 := by unfold rateE; rw [hpv]; simp [h2, h3, h4, h5, i1, i2, i3, i4, h9]
   refine nx_ret1 rfl rfl fun wx hm => ?_
   exact ⟨ret_int (by rw [hinv.2, hat, if_neg (by rw [hE]; decide), hE]), hm.g⟩
  refine wl_set 79 rfl (congrArg Value.bool h8) ?_
  refine wl_guard_on rfl rfl rfl (fd_ fo38_0 rfl rfl (wl_guard_on rfl rfl rfl (lk_ sc9 1 rfl rfl rfl (wl_guard_on rfl rfl rfl (fd_ fo38_0 rfl rfl (wl_guard_on rfl rfl rfl (lk_ sc9 0 rfl rfl rfl (wl_guard_on rfl rfl rfl (wl_ov (ov_seql rfl rfl) rfl (wl_guard_on rfl rfl rfl (mv_ rfl ?_)))))))))))
  rcases Bool.eq_false_or_eq_true (cl.toList == p0.toList) with h10 | h10
  ·refine wl_set 85 rfl (congrArg Value.bool h10) ?_
   refine wl_guard_on rfl rfl rfl (fd_ fo38_1 rfl rfl (wl_guard_on rfl rfl rfl (lk_ sc3 1 rfl rfl rfl (wl_guard_on rfl rfl rfl (fd_ fo38_1 rfl rfl (wl_guard_on rfl rfl rfl (lk_ sc3 0 rfl rfl rfl (wl_guard_on rfl rfl rfl (wl_ov (ov_leq rfl rfl) rfl (wl_guard_on rfl rfl rfl (pt_ rfl rfl (pf_ rfl rfl (sg_ rfl ?_)))))))))))))
   refine nn_ ?_
   refine gw_cond rfl (fun hh => ?_) (fun hh => ?_)
   ·have h11 : fr ≤ p1 := by simpa using hh
    clear hh
    refine sr_ ?_
    have h9 : rtLt ⟨p0, p1, p2, p3, p4, p5, p6⟩ ⟨cl, fr, tt, ho, dd, we, wk⟩ = false := by have h := lt_rt ⟨p0, p1, p2, p3, p4, p5, p6⟩ ⟨cl, fr, tt, ho, dd, we, wk⟩; simp only at h; rw [h8, h10, decide_eq_true h11] at h; simpa using h.symm
    refine sg_ rfl (nn_ ?_)
    refine gw_ret ?_
    refine nx_blk_ret (nx_blk_ret (nx_then_ret (nx_then_ret (nx_blk_ret (nx_then_ret ?_)))))
    have hE : rateE (prevOf l k) ⟨cl, fr, tt, ho, dd, we, wk⟩ = 7 := by unfold rateE; rw [hpv]; simp [h2, h3, h4, h5, i1, i2, i3, i4, h9]
    refine nx_ret1 rfl rfl fun wx hm => ?_
    exact ⟨ret_int (by rw [hinv.2, hat, if_neg (by rw [hE]; decide), hE]), hm.g⟩
   have h11 : ¬ (fr ≤ p1) := by simpa using hh
   clear hh
   refine sr_ ?_
   have h9 : rtLt ⟨p0, p1, p2, p3, p4, p5, p6⟩ ⟨cl, fr, tt, ho, dd, we, wk⟩ = true := by have h := lt_rt ⟨p0, p1, p2, p3, p4, p5, p6⟩ ⟨cl, fr, tt, ho, dd, we, wk⟩; simp only at h; rw [h8, h10, decide_eq_false h11] at h; simpa using h.symm
   refine fd_ fo38_0 rfl rfl (lk_ sc9 1 rfl rfl rfl (fd_ fo38_0 rfl rfl (lk_ sc9 0 rfl rfl rfl (wl_ov (ov_seql rfl rfl) rfl (mv_ rfl ?_)))))
   rcases Bool.eq_false_or_eq_true (cl.toList == p0.toList) with h12 | h12
   ·refine wl_set 99 rfl (congrArg Value.bool h12) ?_
    have h13 : eqS p0 cl = true := (by have h := h12; unfold eqS; simp only [beq_iff_eq] at h ⊢; exact h.symm)
    refine wl_guard_on rfl rfl rfl (fd_ fo38_2 rfl rfl (wl_guard_on rfl rfl rfl (lk_ sc3 0 rfl rfl rfl (wl_guard_on rfl rfl rfl (fd_ fo38_1 rfl rfl (wl_guard_on rfl rfl rfl (lk_ sc3 1 rfl rfl rfl (wl_guard_on rfl rfl rfl ?_))))))))
    refine wl_ov (ov_gtr rfl rfl) rfl ?_
    refine pt_ rfl rfl (sg_ rfl (nn_ ?_))
    refine gw_cond rfl (fun hh => ?_) (fun hh => ?_)
    ·have h14 : fr < p2 := by simpa using hh
     clear hh
     refine sr_ (sg_ rfl (nn_ ?_))
     refine gw_ret ?_
     refine nx_blk_ret (nx_blk_ret (nx_then_ret (nx_then_ret (nx_blk_ret (nx_then_ret ?_)))))
     have hE : rateE (prevOf l k) ⟨cl, fr, tt, ho, dd, we, wk⟩ = 13 := by unfold rateE; rw [hpv]; simp [h2, h3, h4, h5, i1, i2, i3, i4, h9, h13, h14]
     refine nx_ret1 rfl rfl fun wx hm => ?_
     exact ⟨ret_int (by rw [hinv.2, hat, if_neg (by rw [hE]; decide), hE]), hm.g⟩
    have h14 : ¬ (fr < p2) := by simpa using hh
    clear hh
    refine gw_skip (nx_blk_nrm (nx_blk_nrm (nx_then (gw_region ?_))))
    have hE : rateE (prevOf l k) ⟨cl, fr, tt, ho, dd, we, wk⟩ = 0 := by unfold rateE; rw [hpv]; simp [h2, h3, h4, h5, i1, i2, i3, i4, h9, h13, h14]
    refine ad_ rfl rfl (mv_ rfl (wl_nil ?_))
    exact nx_round (k + 1) ⟨by omega, by rw [hinv.2, hat, if_pos hE]⟩ (by omega) ⟨rfl, rfl, rfl, (some_int (by omega)), trivial⟩ (fun _ hm => hm.pick [] [] [0] rfl rfl)
   refine wl_set 99 rfl (congrArg Value.bool h12) ?_
   have h13 : eqS p0 cl = false := (by have h := h12; unfold eqS; simp only [beq_eq_false_iff_ne, ne_eq] at h ⊢; exact fun e => h e.symm)
   have hE : rateE (prevOf l k) ⟨cl, fr, tt, ho, dd, we, wk⟩ = 0 := by unfold rateE; rw [hpv]; simp [h2, h3, h4, h5, i1, i2, i3, i4, h9, h13]
   refine goff rfl rfl rfl (goff rfl rfl rfl (goff rfl rfl rfl (goff rfl rfl rfl (goff rfl rfl rfl (pf_ rfl rfl (sg_ rfl (nn_ (cf_ rfl (gw_skip (nx_blk_nrm (nx_blk_nrm (nx_then ?_))))))))))))
   refine gw_region (ad_ rfl rfl (mv_ rfl (wl_nil ?_)))
   exact nx_round (k + 1) ⟨by omega, by rw [hinv.2, hat, if_pos hE]⟩ (by omega) ⟨rfl, rfl, rfl, (some_int (by omega)), trivial⟩ (fun _ hm => hm.pick [] [] [0] rfl rfl)
  refine wl_set 85 rfl (congrArg Value.bool h10) ?_
  have h9 : rtLt ⟨p0, p1, p2, p3, p4, p5, p6⟩ ⟨cl, fr, tt, ho, dd, we, wk⟩ = true := by have h := lt_rt ⟨p0, p1, p2, p3, p4, p5, p6⟩ ⟨cl, fr, tt, ho, dd, we, wk⟩; simp only at h; rw [h8, h10] at h; simpa using h.symm
  refine goff rfl rfl rfl (goff rfl rfl rfl (goff rfl rfl rfl (goff rfl rfl rfl (goff rfl rfl rfl (wl_guard_on rfl rfl rfl (pf_ rfl rfl (pf_ rfl rfl (sg_ rfl (nn_ (cf_ rfl (sr_ ?_)))))))))))
  refine fd_ fo38_0 rfl rfl (lk_ sc9 1 rfl rfl rfl (fd_ fo38_0 rfl rfl (lk_ sc9 0 rfl rfl rfl (wl_ov (ov_seql rfl rfl) rfl (mv_ rfl ?_)))))
  rcases Bool.eq_false_or_eq_true (cl.toList == p0.toList) with h12 | h12
  ·refine wl_set 99 rfl (congrArg Value.bool h12) ?_
   have h13 : eqS p0 cl = true := (by have h := h12; unfold eqS; simp only [beq_iff_eq] at h ⊢; exact h.symm)
   refine wl_guard_on rfl rfl rfl (fd_ fo38_2 rfl rfl (wl_guard_on rfl rfl rfl (lk_ sc3 0 rfl rfl rfl (wl_guard_on rfl rfl rfl (fd_ fo38_1 rfl rfl (wl_guard_on rfl rfl rfl (lk_ sc3 1 rfl rfl rfl (wl_guard_on rfl rfl rfl ?_))))))))
   refine wl_ov (ov_gtr rfl rfl) rfl ?_
   refine pt_ rfl rfl (sg_ rfl (nn_ ?_))
   refine gw_cond rfl (fun hh => ?_) (fun hh => ?_)
   ·have h14 : fr < p2 := by simpa using hh
    clear hh
    refine sr_ (sg_ rfl (nn_ ?_))
    refine gw_ret ?_
    refine nx_blk_ret (nx_blk_ret (nx_then_ret (nx_then_ret (nx_blk_ret (nx_then_ret ?_)))))
    have hE : rateE (prevOf l k) ⟨cl, fr, tt, ho, dd, we, wk⟩ = 13 := by unfold rateE; rw [hpv]; simp [h2, h3, h4, h5, i1, i2, i3, i4, h9, h13, h14]
    refine nx_ret1 rfl rfl fun wx hm => ?_
    exact ⟨ret_int (by rw [hinv.2, hat, if_neg (by rw [hE]; decide), hE]), hm.g⟩
   have h14 : ¬ (fr < p2) := by simpa using hh
   clear hh
   refine gw_skip (nx_blk_nrm (nx_blk_nrm (nx_then (gw_region ?_))))
   have hE : rateE (prevOf l k) ⟨cl, fr, tt, ho, dd, we, wk⟩ = 0 := by unfold rateE; rw [hpv]; simp [h2, h3, h4, h5, i1, i2, i3, i4, h9, h13, h14]
   refine ad_ rfl rfl (mv_ rfl (wl_nil ?_))
   exact nx_round (k + 1) ⟨by omega, by rw [hinv.2, hat, if_pos hE]⟩ (by omega) ⟨rfl, rfl, rfl, (some_int (by omega)), trivial⟩ (fun _ hm => hm.pick [] [] [0] rfl rfl)
  refine wl_set 99 rfl (congrArg Value.bool h12) ?_
  have h13 : eqS p0 cl = false := (by have h := h12; unfold eqS; simp only [beq_eq_false_iff_ne, ne_eq] at h ⊢; exact fun e => h e.symm)
  have hE : rateE (prevOf l k) ⟨cl, fr, tt, ho, dd, we, wk⟩ = 0 := by unfold rateE; rw [hpv]; simp [h2, h3, h4, h5, i1, i2, i3, i4, h9, h13]
  refine goff rfl rfl rfl (goff rfl rfl rfl (goff rfl rfl rfl (goff rfl rfl rfl (goff rfl rfl rfl (pf_ rfl rfl (sg_ rfl (nn_ (cf_ rfl (gw_skip (nx_blk_nrm (nx_blk_nrm (nx_then ?_))))))))))))
  refine gw_region (ad_ rfl rfl (mv_ rfl (wl_nil ?_)))
  exact nx_round (k + 1) ⟨by omega, by rw [hinv.2, hat, if_pos hE]⟩ (by omega) ⟨rfl, rfl, rfl, (some_int (by omega)), trivial⟩ (fun _ hm => hm.pick [] [] [0] rfl rfl)
 have hk : ¬ (((k : Nat) : Int) < ((n : Nat) : Int)) := by simpa using hh
 clear hh
 refine gw_exit ?_
 refine nx_then_exit (nx_then_exit ?_)
 refine nx_blk_here ?_
 refine nx_then (sr_ (sg_ rfl (nn_ ?_)))
 refine gw_ret ?_
 refine nx_ret1 rfl rfl fun wx hm => ?_
 exact ⟨ret_int (by rw [hinv.2, scanE_end _ _ _ _ (by omega)]), hm.g⟩
end Go.Proofs.YtnpcbfllnkiopaaGreatDoor
namespace Go.Proofs.YtnpcbfllnkiopaaGreatDoor
open Go.RowKit
theorem isBelow_lt {n v : Int} (h : IsBelow n v) (hn : 1 ≤ n) : 0 ≤ v ∧ v < n := by unfold IsBelow at h; omega
set_option maxHeartbeats 400000 in
theorem range_any (lo hi : Int) (w : World) (B sb m : Nat) (hS : Strm 25 w B sb m) (hm : m ≤ 1000000000000) (h1 : -4611686018427387904 ≤ lo) (h2 : hi ≤ 4611686018427387902) (h3 : lo ≤ 4611686018427387902) (h4 : -4611686018427387904 ≤ hi) :
    Calls Tryz.prog 31 #[.pointer (some ⟨sb, 0, none⟩), .int .i64 lo, .int .i64 hi] w (GotInt 25 w B sb (m + 1) (fun v => lo ≤ v ∧ (v ≤ hi ∨ v = lo))) := by
  by_cases hlt : hi < lo
  · go_enter Tryz.func31, Tryz.ntmps31
    go_wp2_with fail
    go_ret
    exact ⟨lo, ⟨by omega, .inr rfl⟩, rfl, hS.more (by omega), World.grownBy.refl _ _⟩
  · go_enter Tryz.func31, Tryz.ntmps31
    go_wp2_with fail
    refine (next_any _ _ B sb m hS hm (by omega) (by omega)).mono ?_
    rintro e w1 ⟨v, hv, rfl, hS1, hg1⟩
    have hv := isBelow_lt hv (by omega)
    go_wp2_with fail
    go_ret
    exact ⟨lo + v, ⟨by omega, .inl (by omega)⟩, rfl, hS1, hg1⟩
set_option maxHeartbeats 400000 in
theorem flip_any (n : Int) (w : World) (B sb m : Nat) (hS : Strm 25 w B sb m) (hm : m ≤ 1000000000000) (hn1 : -9223372036854775808 ≤ n) (hn2 : n ≤ 9223372036854775807) :
    Calls Tryz.prog 25 #[.pointer (some ⟨sb, 0, none⟩), .int .i64 n] w (GotBool 25 w B sb (m + 1)) := by
  go_enter Tryz.func25, Tryz.ntmps25
  go_wp2_with fail
  refine (next_any _ _ B sb m hS hm hn1 hn2).mono ?_
  rintro e w1 ⟨v, hv, rfl, hS1, hg1⟩
  go_wp2_with fail
  go_ret
  exact ⟨_, rfl, hS1, hg1⟩
set_option maxHeartbeats 400000 in
theorem pick_any (xs : List Int) (g c : Nat) (T : TypeId) (w : World) (B sb m : Nat) (hS : Strm 25 w B sb m) (hm : m ≤ 1000000000000) (hx : 0 < xs.length) (hx2 : xs.length ≤ 1000000) (hg : Blk w g T (xs.map (Value.int .i64))) (hne : g ≠ sb) :
    Calls Tryz.prog 34 #[.pointer (some ⟨sb, 0, none⟩), .slice (some ⟨g, 0, none⟩) xs.length c] w (GotInt 25 w B sb (m + 1) (fun v => v ∈ xs)) := by
  obtain ⟨n, hn⟩ : ∃ n, n = xs.length := ⟨_, rfl⟩
  rw [← hn] at hx hx2 ⊢
  have Hn := Lib.hid hn; clear hn
  go_enter Tryz.func34, Tryz.ntmps34
  go_wp2_with fail
  refine (next_any _ _ B sb m hS hm (by omega) (by omega)).mono ?_
  rintro e w1 ⟨v, hv, rfl, hS1, hg1⟩
  have hv := isBelow_lt hv (by omega)
  obtain ⟨i, rfl⟩ := Int.eq_ofNat_of_zero_le hv.1
  have hi : i < n := by omega
  have hgb := hg.grown hg1 (by simpa using hne)
  obtain ⟨x, hx⟩ : ∃ x, xs[i]? = some x := ⟨_, List.getElem?_eq_getElem (by have := Hn.out; omega)⟩
  have hc : w1.cell? ⟨g, i, none⟩ = some (.int .i64 x) := hgb.cell_of (by simp [hx])
  have hmem : x ∈ xs := List.mem_of_getElem? hx
  clear hx hgb
  go_wp2_with fail
  go_ret
  exact ⟨x, hmem, rfl, hS1, hg1⟩
set_option maxHeartbeats 400000 in
theorem some_any (xs : List ByteArray) (g c : Nat) (T : TypeId) (w : World) (B sb m : Nat) (hS : Strm 25 w B sb m) (hm : m ≤ 1000000000000) (hx : 0 < xs.length) (hx2 : xs.length ≤ 1000000) (hg : Blk w g T (xs.map Value.string)) (hne : g ≠ sb) :
    Calls Tryz.prog 57 #[.pointer (some ⟨sb, 0, none⟩), .slice (some ⟨g, 0, none⟩) xs.length c] w (GotStr 25 w B sb (m + 1) (fun v => v ∈ xs)) := by
  obtain ⟨n, hn⟩ : ∃ n, n = xs.length := ⟨_, rfl⟩
  rw [← hn] at hx hx2 ⊢
  have Hn := Lib.hid hn; clear hn
  go_enter Tryz.func57, Tryz.ntmps57
  go_wp2_with fail
  refine (next_any _ _ B sb m hS hm (by omega) (by omega)).mono ?_
  rintro e w1 ⟨v, hv, rfl, hS1, hg1⟩
  have hv := isBelow_lt hv (by omega)
  obtain ⟨i, rfl⟩ := Int.eq_ofNat_of_zero_le hv.1
  have hi : i < n := by omega
  have hgb := hg.grown hg1 (by simpa using hne)
  obtain ⟨x, hx⟩ : ∃ x, xs[i]? = some x := ⟨_, List.getElem?_eq_getElem (by have := Hn.out; omega)⟩
  have hc : w1.cell? ⟨g, i, none⟩ = some (.string x) := hgb.cell_of (by simp [hx])
  have hmem : x ∈ xs := List.mem_of_getElem? hx
  clear hx hgb
  go_wp2_with fail
  go_ret
  exact ⟨x, hmem, rfl, hS1, hg1⟩
set_option maxHeartbeats 400000 in
theorem odd_any (lo hi : Int) (w : World) (B sb m : Nat) (hS : Strm 25 w B sb m) (hm : m ≤ 900000000000) (h1 : -1000000000000000 ≤ lo) (h2 : hi ≤ 1000000000000000) (h3 : lo ≤ hi) :
    Calls Tryz.prog 58 #[.pointer (some ⟨sb, 0, none⟩), .int .i64 lo, .int .i64 hi] w (GotInt 25 w B sb (m + 2) (fun v => -2000000000000000 ≤ v ∧ v ≤ 2000000000000000)) := by
  go_enter Tryz.func58, Tryz.ntmps58
  go_wp2_with fail
  refine (flip_any _ _ B sb m hS (by omega) (by omega) (by omega)).mono ?_
  rintro e w1 ⟨b, rfl, hS1, hg1⟩
  rcases b with _ | _
  · go_wp2_with fail
    refine (range_any _ _ _ B sb (m + 1) hS1 (by omega) (by omega) (by omega) (by omega) (by omega)).mono ?_
    rintro e w2 ⟨v, hv, rfl, hS2, hg2⟩
    go_wp2_with fail
    go_ret
    exact ⟨v, by omega, rfl, hS2, grow_trans hg1 hg2⟩
  · go_wp2_with fail
    refine (pick_any [lo - 1, hi + 1, lo, hi, -1099511627776, 1099511627776] _ _ _ _ B sb (m + 1) (hS1.alloc _) (by omega) (by simp) (by simp) (Blk.new _ _ _) (by have := hS1.lt; omega)).mono ?_
    rintro e w2 ⟨v, hv, rfl, hS2, hg2⟩
    go_wp2_with fail
    go_ret
    refine ⟨v, by simp at hv; omega, rfl, hS2, grow_trans hg1 (grow_trans (grow_alloc (World.grownBy.refl _ _) _) hg2)⟩
end Go.Proofs.YtnpcbfllnkiopaaGreatDoor
namespace Go.Proofs.YtnpcbfllnkiopaaGreatDoor
open Go.RowKit
theorem fe_all : ∀ {l : List Int}, firstE l = 0 → ∀ e ∈ l, e = 0
  | [], _, _, h => by cases h
  | x :: r, h, e, he => by
    simp only [firstE] at h
    by_cases hx : x = 0
    · rw [if_pos hx] at h
      rcases List.mem_cons.1 he with rfl | he
      · exact hx
      · exact fe_all h e he
    · rw [if_neg hx] at h; exact absurd h hx
theorem we_ok {b : Bool} {e : Int} (he : e ≠ 0) (h : whenE b e = 0) : b = false := by
  cases b
  · rfl
  · exact absurd h he
end Go.Proofs.YtnpcbfllnkiopaaGreatDoor
namespace Go.Proofs.YtnpcbfllnkiopaaGreatDoor
open Go.RowKit
def rstEnc (x : ByteArray) : List Value := [.string x]
theorem rst_len (x : ByteArray) : (rstEnc x).length = 1 := rfl
/-- .. and what is drawn is short and small. -/
def RtB (x : Rt) : Prop := x.cls.size ≤ 100 ∧ (-2000000000000000 ≤ x.fr ∧ x.fr ≤ 2000000000000000) ∧ (-2000000000000000 ≤ x.to_ ∧ x.to_ ≤ 2000000000000000) ∧ (-2000000000000000 ≤ x.hr ∧ x.hr ≤ 2000000000000000) ∧ (-2000000000000000 ≤ x.dy ∧ x.dy ≤ 2000000000000000) ∧ (-2000000000000000 ≤ x.we ∧ x.we ≤ 2000000000000000) ∧ (-2000000000000000 ≤ x.wk ∧ x.wk ≤ 2000000000000000)
def RtH (x : Rt) : Prop := x.hr ≤ 10 ∧ RtB x
theorem rtB_ok {x : Rt} (h : RtB x) : RtOk x := by
  have h1 := h.1
  show x.cls.size ≤ 1000000
  omega
theorem rt_snoc {l : List Rt} {x : Rt} (h : ∀ y ∈ l, RtH y) (hx : RtH x) : ∀ y ∈ l ++ [x], RtH y := fun y hy => by
  rcases List.mem_append.1 hy with hy | hy
  · exact h y hy
  · rw [List.mem_singleton.1 hy]; exact hx
theorem rt_set {l : List Rt} {x : Rt} {j : Nat} (h : ∀ y ∈ l, RtH y) (hx : RtH x) : ∀ y ∈ l.set j x, RtH y := fun y hy => by
  rcases List.mem_or_eq_of_mem_set hy with hy | rfl
  · exact h y hy
  · exact hx
theorem grightRates_h (w : World) (B sb m : Nat) (hS : Strm 25 w B sb m) (hm : m ≤ 100000000000) :
  Calls Tryz.prog 55 #[.pointer (some ⟨sb, 0, none⟩)] w (fun e w' => ∃ (A : Option Addr) (n c : Nat) (l : List Rt), e = .returned (.slice A n c) ∧ w'.ownsRow w.heap.size 38 7 (.slice A n c) n (l.flatMap rtEnc) ∧ (∀ x ∈ l, RtH x) ∧ l.length = n ∧ n ≤ 9 ∧ Strm 25 w' B sb (m + 120) ∧ w.grownBy w' (some sb)) := by
 refine gw_enter ⟨64, w, (some sb), []⟩ Tryz.func55 rfl Tryz.ntmps55 rfl (memS (X := []) hS allF_nil allL_nil) ?_
 refine sr_ (sg_ rfl (nn_ (sr_ (sg_ rfl (nn_ (gw_seq (sr_ ?_)))))))
 refine wl_buildSlice (e := 9) (cs := [.string ⟨#[109, 97, 120, 105]⟩, .string ⟨#[109, 105, 100, 105]⟩, .string ⟨#[109, 105, 110, 105]⟩]) rfl (by kernel_rfl) rfl fun g1 => ?_
 refine wl_ov (ov_len es112 rfl) rfl ?_
 refine wl_set 9 (v' := .int .i64 3) rfl rfl ?_
 refine mv_ rfl (nn_ (gw_block ?_))
 refine gw_nilOwn 38 7 ?_
 refine gw_loop (γ := Nat × Nat × Value × List Rt × List Value) (fun g => g.1 ≤ 3 ∧ g.2.1 ≤ 3 * g.1 ∧ g.2.2.2.1.length = g.2.1 ∧ (∀ x ∈ g.2.2.2.1, RtH x) ∧ g.2.2.2.2 = g.2.2.2.1.flatMap rtEnc) (fun g => [(0, .pointer (some ⟨sb, 0, none⟩)), (2, .slice none 0 0), (3, g.2.2.1), (8, .slice (some ⟨g1, 0, none⟩) 3 3), (9, .int .i64 3), (10, .int .i64 ((g.1 : Nat) : Int))]) (fun g => fun w => Strm 25 w B sb (m + 40 * g.1)) (fun g => [(g1, 9, [.string ⟨#[109, 97, 120, 105]⟩, .string ⟨#[109, 105, 100, 105]⟩, .string ⟨#[109, 105, 110, 105]⟩])]) (fun g => [⟨g.2.2.1, 38, 7, g.2.1, g.2.2.2.2⟩]) (fun g => []) (fun g => 3 - g.1) (0, 0, .slice none 0 0, [], []) ⟨Nat.zero_le _, Nat.zero_le _, rfl, (fun _ h => by cases h), rfl⟩ ⟨rfl, rfl, rfl, rfl, rfl, rfl, trivial⟩ (fun _ hm => (hm.more rfl (by first | omega | (dsimp only; omega))).pick [0] [0] [] rfl rfl) ?_
 rintro ⟨k, n, v, l, xs⟩ hinv
 replace hinv : k ≤ 3 ∧ n ≤ 3 * k ∧ l.length = n ∧ (∀ x ∈ l, RtH x) ∧ xs = l.flatMap rtEnc := hinv
 dsimp only
 refine sr_ ?_
 obtain ⟨hi0, hi1, hi2, hi3, rfl⟩ := hinv
 refine wl_ov (ov_lss rfl rfl) rfl (nn_ (gw_seq ?_))
 refine gw_cond rfl (fun hh => ?_) (fun hh => ?_)
 ·have hk : ((k : Nat) : Int) < 3 := by simpa using hh
  clear hh
  refine gw_skip (nx_then (gw_seq (gw_block (sr_ ?_))))
  obtain ⟨nm, hx⟩ : ∃ x, ([⟨#[109, 97, 120, 105]⟩, ⟨#[109, 105, 100, 105]⟩, ⟨#[109, 105, 110, 105]⟩] : List ByteArray)[k]? = some x := ⟨_, List.getElem?_eq_getElem (by simp; omega)⟩
  have hnm : nm.size ≤ 100 := mem_sz (List.mem_of_getElem? hx) (by decide)
  refine wl_ov (ov_index (j := k) es112 rfl rfl (by omega)) rfl ?_
  refine wl_ov (ov_elem1 (k := 0) (v := .string nm) sc9 rfl (fun _ hm => (SlT.ofBlk (l := [⟨#[109, 97, 120, 105]⟩, ⟨#[109, 105, 100, 105]⟩, ⟨#[109, 105, 110, 105]⟩]) rst_len (hm.blkI 0 rfl))) hx rfl rfl) rfl ?_
  refine sg_ rfl (nn_ (sr_ (mv_ rfl ?_)))
  refine wl_buildSlice (e := 3) (cs := [.int .i64 0, .int .i64 0, .int .i64 0, .int .i64 3]) rfl (by kernel_rfl) rfl fun g2 => ?_
  refine wl_got (γ := Int) (val := fun v => .int .i64 v) (φ := fun v => v ∈ ([0, 0, 0, 3] : List Int)) rfl cb34 rfl rfl rfl rfl (fun wx hm => (pick_any [0, 0, 0, 3] _ _ _ wx B sb _ hm.k (by omega) (by simp) (by simp) (hm.blkI 0 rfl) (hm.neRow 0 rfl rfl))) fun v3 hv3 => ?_
  have bv3 : 0 ≤ v3 ∧ v3 ≤ 3 := mem_rng hv3 (by decide)
  have bv30 := bv3.1
  have bv31 := bv3.2
  clear bv3
  refine sg_ rfl (nn_ (sr_ (mv_ rfl ?_)))
  refine wl_buildSlice (e := 3) (cs := [.int .i64 0, .int .i64 1, .int .i64 1, .int .i64 2, .int .i64 3]) rfl (by kernel_rfl) rfl fun g4 => ?_
  refine wl_got (γ := Int) (val := fun v => .int .i64 v) (φ := fun v => v ∈ ([0, 1, 1, 2, 3] : List Int)) rfl cb34 rfl rfl rfl rfl (fun wx hm => (pick_any [0, 1, 1, 2, 3] _ _ _ wx B sb _ hm.k (by omega) (by simp) (by simp) (hm.blkI 0 rfl) (hm.neRow 0 rfl rfl))) fun v5 hv5 => ?_
  have bv5 : 0 ≤ v5 ∧ v5 ≤ 3 := mem_rng hv5 (by decide)
  have bv50 := bv5.1
  have bv51 := bv5.2
  clear bv5
  refine mv_ rfl (nn_ (gw_block ?_))
  refine gw_loop (γ := Nat × Int × Nat × Value × List Rt × List Value) (fun (g9 : Nat × Int × Nat × Value × List Rt × List Value) => (g9.1 : Int) ≤ v5 ∧ (0 ≤ g9.2.1 ∧ g9.2.1 ≤ 5000) ∧ g9.2.2.1 ≤ 3 * k + g9.1 ∧ g9.2.2.2.2.1.length = g9.2.2.1 ∧ (∀ x ∈ g9.2.2.2.2.1, RtH x) ∧ g9.2.2.2.2.2 = g9.2.2.2.2.1.flatMap rtEnc) (fun (g9 : Nat × Int × Nat × Value × List Rt × List Value) => [(0, .pointer (some ⟨sb, 0, none⟩)), (2, .slice none 0 0), (3, g9.2.2.2.1), (5, .string nm), (6, .int .i64 g9.2.1), (8, .slice (some ⟨g1, 0, none⟩) 3 3), (9, .int .i64 3), (10, .int .i64 ((k : Nat) : Int)), (19, .int .i64 v5), (20, .int .i64 ((g9.1 : Nat) : Int))]) (fun (g9 : Nat × Int × Nat × Value × List Rt × List Value) => fun w => Strm 25 w B sb (m + 40 * k + 1 + 1 + 8 * g9.1)) (fun (g9 : Nat × Int × Nat × Value × List Rt × List Value) => [(g1, 9, [.string ⟨#[109, 97, 120, 105]⟩, .string ⟨#[109, 105, 100, 105]⟩, .string ⟨#[109, 105, 110, 105]⟩])]) (fun (g9 : Nat × Int × Nat × Value × List Rt × List Value) => [⟨g9.2.2.2.1, 38, 7, g9.2.2.1, g9.2.2.2.2.2⟩]) (fun (g9 : Nat × Int × Nat × Value × List Rt × List Value) => []) (fun (g9 : Nat × Int × Nat × Value × List Rt × List Value) => (v5 - ((g9.1 : Nat) : Int)).toNat) (0, v3, n, v, l, l.flatMap rtEnc) ⟨by dsimp only; omega, ⟨by dsimp only; omega, by dsimp only; omega⟩, by dsimp only; omega, hi2, hi3, rfl⟩ ⟨rfl, rfl, rfl, rfl, rfl, rfl, rfl, rfl, rfl, rfl, trivial⟩ (fun _ hm => (hm.more rfl (by first | omega | (dsimp only; omega))).pick [2] [0] [] rfl rfl) ?_
  rintro ⟨j, fr, n, v, l, xs⟩ hinv
  replace hinv : (j : Int) ≤ v5 ∧ (0 ≤ fr ∧ fr ≤ 5000) ∧ n ≤ 3 * k + j ∧ l.length = n ∧ (∀ x ∈ l, RtH x) ∧ xs = l.flatMap rtEnc := hinv
  dsimp only
  refine sr_ ?_
  obtain ⟨hj0, hj1, hj2, hj3, hj4, rfl⟩ := hinv
  refine wl_ov (ov_lss rfl rfl) rfl (nn_ (gw_seq ?_))
  refine gw_cond rfl (fun hh => ?_) (fun hh => ?_)
  ·have hj : ((j : Nat) : Int) < v5 := by simpa using hh
   clear hh
   refine gw_skip (nx_then (gw_seq (gw_block (sr_ (mv_ rfl (mv_ rfl (mv_ rfl (mv_ rfl ?_))))))))
   refine wl_buildSlice (e := 3) (cs := [.int .i64 1, .int .i64 5, .int .i64 20, .int .i64 4000]) rfl (by kernel_rfl) rfl fun g6 => ?_
   refine wl_got (γ := Int) (val := fun v => .int .i64 v) (φ := fun v => v ∈ ([1, 5, 20, 4000] : List Int)) rfl cb34 rfl rfl rfl rfl (fun wx hm => (pick_any [1, 5, 20, 4000] _ _ _ wx B sb _ hm.k (by omega) (by simp) (by simp) (hm.blkI 0 rfl) (hm.neRow 0 rfl rfl))) fun v7 hv7 => ?_
   have bv7 : 1 ≤ v7 ∧ v7 ≤ 4000 := mem_rng hv7 (by decide)
   have bv70 := bv7.1
   have bv71 := bv7.2
   clear bv7
   refine ad_ rfl rfl (mv_ rfl ?_)
   refine wl_buildSlice (e := 3) (cs := [.int .i64 (-1), .int .i64 5, .int .i64 10, .int .i64 10, .int .i64 0]) rfl (by kernel_rfl) rfl fun g8 => ?_
   refine wl_got (γ := Int) (val := fun v => .int .i64 v) (φ := fun v => v ∈ ([-1, 5, 10, 10, 0] : List Int)) rfl cb34 rfl rfl rfl rfl (fun wx hm => (pick_any [-1, 5, 10, 10, 0] _ _ _ wx B sb _ hm.k (by omega) (by simp) (by simp) (hm.blkI 0 rfl) (hm.neRow 0 rfl rfl))) fun v9 hv9 => ?_
   have bv9 : -1 ≤ v9 ∧ v9 ≤ 10 := mem_rng hv9 (by decide)
   have bv90 := bv9.1
   have bv91 := bv9.2
   clear bv9
   refine mv_ rfl ?_
   refine wl_buildSlice (e := 3) (cs := [.int .i64 (-1), .int .i64 50, .int .i64 50, .int .i64 70, .int .i64 40]) rfl (by kernel_rfl) rfl fun g10 => ?_
   refine wl_got (γ := Int) (val := fun v => .int .i64 v) (φ := fun v => v ∈ ([-1, 50, 50, 70, 40] : List Int)) rfl cb34 rfl rfl rfl rfl (fun wx hm => (pick_any [-1, 50, 50, 70, 40] _ _ _ wx B sb _ hm.k (by omega) (by simp) (by simp) (hm.blkI 0 rfl) (hm.neRow 0 rfl rfl))) fun v11 hv11 => ?_
   have bv11 : -1 ≤ v11 ∧ v11 ≤ 70 := mem_rng hv11 (by decide)
   have bv110 := bv11.1
   have bv111 := bv11.2
   clear bv11
   refine mv_ rfl ?_
   refine wl_buildSlice (e := 3) (cs := [.int .i64 (-1), .int .i64 70, .int .i64 90, .int .i64 100]) rfl (by kernel_rfl) rfl fun g12 => ?_
   refine wl_got (γ := Int) (val := fun v => .int .i64 v) (φ := fun v => v ∈ ([-1, 70, 90, 100] : List Int)) rfl cb34 rfl rfl rfl rfl (fun wx hm => (pick_any [-1, 70, 90, 100] _ _ _ wx B sb _ hm.k (by omega) (by simp) (by simp) (hm.blkI 0 rfl) (hm.neRow 0 rfl rfl))) fun v13 hv13 => ?_
   have bv13 : -1 ≤ v13 ∧ v13 ≤ 100 := mem_rng hv13 (by decide)
   have bv130 := bv13.1
   have bv131 := bv13.2
   clear bv13
   refine mv_ rfl ?_
   refine wl_buildSlice (e := 3) (cs := [.int .i64 (-1), .int .i64 200, .int .i64 250, .int .i64 300]) rfl (by kernel_rfl) rfl fun g14 => ?_
   refine wl_got (γ := Int) (val := fun v => .int .i64 v) (φ := fun v => v ∈ ([-1, 200, 250, 300] : List Int)) rfl cb34 rfl rfl rfl rfl (fun wx hm => (pick_any [-1, 200, 250, 300] _ _ _ wx B sb _ hm.k (by omega) (by simp) (by simp) (hm.blkI 0 rfl) (hm.neRow 0 rfl rfl))) fun v15 hv15 => ?_
   have bv15 : -1 ≤ v15 ∧ v15 ≤ 300 := mem_rng hv15 (by decide)
   have bv150 := bv15.1
   have bv151 := bv15.2
   clear bv15
   refine wl_ov (ov_build (cs := [.string nm, .int .i64 fr, .int .i64 (fr + v7), .int .i64 v9, .int .i64 v11, .int .i64 v13, .int .i64 v15]) rfl (by kernel_rfl)) rfl ?_
   refine wl_alloc zc38 rfl fun g16 => ?_
   refine wl_stores (cs' := [.string nm, .int .i64 fr, .int .i64 (fr + v7), .int .i64 v9, .int .i64 v11, .int .i64 v13, .int .i64 v15]) 0 rz38 rfl rfl rfl rfl rfl rfl rfl rfl ?_
   refine nn_ (sr_ (fd_ fo38_2 rfl rfl (lk_ sc3 0 rfl rfl rfl ?_)))
   refine wl_ov (ov_min rfl rfl) rfl ?_
   refine fd_ fo38_2 rfl rfl ?_
   refine wl_store 0 sc3 rfl rfl rfl rfl rfl rfl ?_
   refine nn_ (gw_seq (sr_ (fd_ fo38_1 rfl rfl (lk_ sc3 0 rfl rfl rfl (fd_ fo38_2 rfl rfl (lk_ sc3 0 rfl rfl rfl ?_))))))
   refine wl_ov (ov_geq rfl rfl) rfl ?_
   refine nn_ ?_
   refine gw_cond rfl (fun hh => ?_) (fun hh => ?_)
   ·have hb : min (fr + v7) 4001 ≤ fr := by simpa using hh
    clear hh
    refine gw_exit ?_
    refine nx_then_exit ?_
    refine nx_blk_on rfl ?_
    refine nx_then_exit (nx_then_exit ?_)
    refine nx_blk_here ?_
    refine nx_blk_nrm (nx_then (gw_region (ad_ rfl rfl (mv_ rfl (wl_nil ?_)))))
    exact nx_round (k + 1, n, v, l, l.flatMap rtEnc) ⟨by dsimp only; omega, by dsimp only; omega, hj3, hj4, rfl⟩ (by dsimp only; omega) ⟨rfl, rfl, rfl, rfl, rfl, (some_int (by omega)), trivial⟩ (fun _ hm => (hm.more rfl (by first | omega | (dsimp only; omega))).pick [6] [0] [] rfl rfl)
   have hb : ¬ (min (fr + v7) 4001 ≤ fr) := by simpa using hh
   clear hh
   refine gw_skip (nx_then (sr_ (mv_ rfl ?_)))
   refine wl_ov (ov_loads rz38 rfl (fun _ hm => hm.blkI 0 rfl) rfl rfl) rfl ?_
   refine wl_buildSlice (e := 38) (cs := [.string nm, .int .i64 fr, .int .i64 (min (fr + v7) 4001), .int .i64 v9, .int .i64 v11, .int .i64 v13, .int .i64 v15]) rfl (by kernel_rfl) rfl fun g17 => ?_
   refine wl_append (news := [.string nm, .int .i64 fr, .int .i64 (min (fr + v7) 4001), .int .i64 v9, .int .i64 v11, .int .i64 v13, .int .i64 v15]) 0 0 ap26 rfl rfl rfl rfl rfl rfl rfl (by omega) (by unfold maxLen; omega) rfl rfl fun v2 hv2 => ?_
   refine sg_ rfl (nn_ ?_)
   refine gd (fun wz => Blk wz g17 38 [.string nm, .int .i64 fr, .int .i64 (min (fr + v7) 4001), .int .i64 v9, .int .i64 v11, .int .i64 v13, .int .i64 v15] ∧ Blk wz g16 38 [.string nm, .int .i64 fr, .int .i64 (min (fr + v7) 4001), .int .i64 v9, .int .i64 v11, .int .i64 v13, .int .i64 v15] ∧ Blk wz g14 3 [.int .i64 (-1), .int .i64 200, .int .i64 250, .int .i64 300] ∧ Blk wz g12 3 [.int .i64 (-1), .int .i64 70, .int .i64 90, .int .i64 100] ∧ Blk wz g10 3 [.int .i64 (-1), .int .i64 50, .int .i64 50, .int .i64 70, .int .i64 40] ∧ Blk wz g8 3 [.int .i64 (-1), .int .i64 5, .int .i64 10, .int .i64 10, .int .i64 0] ∧ Blk wz g6 3 [.int .i64 1, .int .i64 5, .int .i64 20, .int .i64 4000] ∧ Blk wz g1 9 [.string ⟨#[109, 97, 120, 105]⟩, .string ⟨#[109, 105, 100, 105]⟩, .string ⟨#[109, 105, 110, 105]⟩] ∧ True) mixed (fun _ hm => ⟨hm.bl 0, hm.bl 1, hm.bl 2, hm.bl 3, hm.bl 4, hm.bl 5, hm.bl 6, hm.bl 7, trivial⟩) fun z => ?_
   refine wt 0 7 1 rfl z (ov_field fo38_2 rfl rfl) ?_
   refine wt 1 7 3 rfl z (ov_load sc3 rfl (fun _ hm => hm.2.1) rfl) ?_
   refine wt 2 7 7 rfl z (ov_move rfl) ?_
   refine wa1 3 rfl ?_
   refine wl_buildSlice (e := 3) (cs := [.int .i64 0, .int .i64 0, .int .i64 0, .int .i64 2]) rfl (by kernel_rfl) rfl fun g18 => ?_
   refine wl_nil ?_
   refine nw 7 15 (fun _ hm => ⟨hm.bl 1, hm.bl 2, hm.bl 3, hm.bl 4, hm.bl 5, hm.bl 6, hm.bl 7, hm.bl 8, trivial⟩) fun z => ?_
   refine wa1 4 rfl ?_
   refine wl_got (γ := Int) (val := fun v => .int .i64 v) (φ := fun v => v ∈ ([0, 0, 0, 2] : List Int)) rfl cb34 rfl rfl rfl rfl (fun wx hm => (pick_any [0, 0, 0, 2] _ _ _ wx B sb _ hm.k (by omega) (by simp) (by simp) (hm.blkI 0 rfl) (hm.neRow 0 rfl rfl))) fun v19 hv19 => ?_
   have bv19 : 0 ≤ v19 ∧ v19 ≤ 2 := mem_rng hv19 (by decide)
   have bv190 := bv19.1
   have bv191 := bv19.2
   clear bv19
   refine wl_nil ?_
   refine nw 7 31 (fun _ hm => ⟨hm.bl 1, hm.bl 2, hm.bl 3, hm.bl 4, hm.bl 5, hm.bl 6, hm.bl 7, hm.bl 8, trivial⟩) fun z => ?_
   refine wt 5 7 63 rfl z (ov_add rfl rfl (by omega) (by omega)) ?_
   refine wt 6 7 127 rfl z (ov_assign rfl) ?_
   refine wa_done (by kernel_rfl) ?_
   refine nx_blk_nrm (nx_then (gw_region (ad_ rfl rfl (mv_ rfl (wl_nil ?_)))))
   exact nx_round (j + 1, (min (fr + v7) 4001) + v19, n + 1, v2, l ++ [⟨nm, fr, min (fr + v7) 4001, v9, v11, v13, v15⟩], l.flatMap rtEnc ++ ([.string nm, .int .i64 fr, .int .i64 (min (fr + v7) 4001), .int .i64 v9, .int .i64 v11, .int .i64 v13, .int .i64 v15] : List Value)) ⟨by dsimp only; omega, ⟨by dsimp only; omega, by dsimp only; omega⟩, by dsimp only; omega, by simp [hj3], rt_snoc hj4 ⟨by dsimp only; omega, by dsimp only; omega, ⟨by dsimp only; omega, by dsimp only; omega⟩, ⟨by dsimp only; omega, by dsimp only; omega⟩, ⟨by dsimp only; omega, by dsimp only; omega⟩, ⟨by dsimp only; omega, by dsimp only; omega⟩, ⟨by dsimp only; omega, by dsimp only; omega⟩, ⟨by dsimp only; omega, by dsimp only; omega⟩⟩, by simp [rtEnc]⟩ (by dsimp only; omega) ⟨rfl, rfl, rfl, rfl, rfl, rfl, rfl, rfl, rfl, (some_int (by omega)), trivial⟩ (fun _ hm => (hm.more rfl (by first | omega | (dsimp only; omega))).pick [8] [0] [] rfl rfl)
  have hj : ¬ (((j : Nat) : Int) < v5) := by simpa using hh
  clear hh
  refine gw_exit ?_
  refine nx_then_exit (nx_then_exit ?_)
  refine nx_blk_here ?_
  refine nx_blk_nrm (nx_then (gw_region (ad_ rfl rfl (mv_ rfl (wl_nil ?_)))))
  exact nx_round (k + 1, n, v, l, l.flatMap rtEnc) ⟨by dsimp only; omega, by dsimp only; omega, hj3, hj4, rfl⟩ (by dsimp only; omega) ⟨rfl, rfl, rfl, rfl, rfl, (some_int (by omega)), trivial⟩ (fun _ hm => (hm.more rfl (by first | omega | (dsimp only; omega))).pick [0] [0] [] rfl rfl)
 have hk : ¬ (((k : Nat) : Int) < 3) := by simpa using hh
 clear hh
 refine gw_exit ?_
 refine nx_then_exit (nx_then_exit ?_)
 refine nx_blk_here ?_
 refine nx_then (sr_ (mv_ rfl (sg_ rfl (nn_ ?_))))
 refine gw_ret ?_
 refine nx_look (R := ∃ A cc, v = .slice A n cc) (fun wx hm => own_slice (hm.ownI 0 rfl)) ?_
 rintro ⟨A, c, rfl⟩
 refine nx_ret1 rfl rfl fun wx hm => ?_
 exact ⟨A, n, c, l, rfl, hm.ownI 0 rfl, hi3, hi2, by omega, hm.k.more (by omega), hm.g⟩
theorem grates_h (w : World) (B sb m : Nat) (hS : Strm 25 w B sb m) (hm : m ≤ 100000000000) :
  Calls Tryz.prog 8 #[.pointer (some ⟨sb, 0, none⟩)] w (fun e w' => ∃ (A : Option Addr) (n c : Nat) (l : List Rt), e = .returned (.slice A n c) ∧ SlT rtEnc 7 38 w' A n l ∧ (∀ x ∈ l, RtH x) ∧ n ≤ 10 ∧ n ≤ c ∧ Strm 25 w' B sb (m + 200) ∧ w.grownBy w' (some sb)) := by
 refine gw_enter ⟨56, w, (some sb), []⟩ Tryz.func8 rfl Tryz.ntmps8 rfl (memS (X := []) hS allF_nil allL_nil) ?_
 refine sr_ (sg_ rfl (nn_ (sr_ (mv_ rfl ?_))))
 refine wl_callgs (γ := Option Addr × Nat × Nat × List Rt) (val := (fun g => .slice g.1 g.2.1 g.2.2.1)) (φ := (fun g => (∀ x ∈ g.2.2.2, RtH x) ∧ g.2.2.2.length = g.2.1 ∧ g.2.1 ≤ 9)) (m' := m + 120) (fun g => ⟨.slice g.1 g.2.1 g.2.2.1, 38, 7, g.2.1, g.2.2.2.flatMap rtEnc⟩) rfl cb55 rfl rfl rfl rfl (fun wx hm => (grightRates_h wx B sb _ hm.k (by omega)).mono fun _ _ ⟨A, n, c, l, he, ho, hok, hl, hn, hS, hg⟩ => ⟨(A, n, c, l), he, ⟨hok, hl, hn⟩, hS, hg, ho⟩) ?_
 rintro ⟨A, n, c, l⟩ hphi
 dsimp only at hphi ⊢
 obtain ⟨hi3, hi2, hn⟩ := hphi
 refine sg_ rfl (nn_ (gw_seq (sr_ (mv_ rfl (wl_ov (ov_len es26 rfl) rfl ?_)))))
 refine wl_ov (ov_gtr rfl rfl) rfl ?_
 refine mv_ rfl ?_
 rcases Bool.eq_false_or_eq_true (decide (0 < ((n : Nat) : Int))) with hb | hb
 ·refine wl_set 10 rfl (congrArg Value.bool hb) ?_
  have hk0 : 0 < n := by simpa using hb
  refine wl_guard_on rfl rfl rfl (mv_ rfl (wl_guard_on rfl rfl rfl ?_))
  refine wl_got (γ := Bool) (val := fun v => .bool v) (φ := fun v => True) rfl cb25 rfl rfl rfl rfl (fun wx hm => ((flip_any _ wx B sb _ hm.k (by omega) (by omega) (by omega)).mono fun _ _ ⟨v, he, hS, hg⟩ => ⟨v, trivial, he, hS, hg⟩)) fun f1 _ => ?_
  refine pt_ rfl rfl (nn_ ?_)
  refine gw_cond rfl (fun hh => ?_) (fun hh => ?_)
  ·have hf : f1 = true := by simpa using hh
   clear hh
   refine sr_ ?_
   refine wl_look (R := ∃ g, A = some ⟨g, 0, none⟩) (fun wx hm => own_addr (hm.ownI 0 rfl) hk0) ?_
   rintro ⟨bo, rfl⟩
   refine mv_ rfl (mv_ rfl (mv_ rfl (wl_ov (ov_len es26 rfl) rfl ?_)))
   refine wl_got (γ := Int) (val := fun v => .int .i64 v) (φ := fun v => IsBelow ((n : Nat) : Int) v) rfl cb56 rfl rfl rfl rfl (fun wx hm => (next_any _ wx B sb _ hm.k (by omega) (by omega) (by omega))) fun vj hvj => ?_
   have hj := isBelow_lt hvj (by omega)
   obtain ⟨i, rfl⟩ := Int.eq_ofNat_of_zero_le hj.1
   have hij : i < n := by omega
   obtain ⟨y, hy⟩ : ∃ y, l[i]? = some y := ⟨_, List.getElem?_eq_getElem (by omega)⟩
   obtain ⟨y0, y1, y2, y3, y4, y5, y6⟩ := y
   obtain ⟨hy3, hy0, hy1, hy2, hy4, hy5, hy6, hy7⟩ := hi3 _ (List.mem_of_getElem? hy)
   dsimp only at hy3 hy0 hy1 hy2 hy4 hy5 hy6 hy7
   obtain ⟨z, hz⟩ : ∃ z, l[0]? = some z := ⟨_, List.getElem?_eq_getElem (by omega)⟩
   obtain ⟨z0, z1, z2, z3, z4, z5, z6⟩ := z
   have hz0 := hi3 _ (List.mem_of_getElem? hz)
   refine wl_ov (ov_index (j := i) es26 rfl rfl (by omega)) rfl ?_
   refine sg_ rfl (nn_ (sr_ (mv_ rfl ?_)))
   refine wl_got (γ := Int) (val := fun v => .int .i64 v) (φ := fun v => IsBelow 4 v) rfl cb56 rfl rfl rfl rfl (fun wx hm => (next_any _ wx B sb _ hm.k (by omega) (by omega) (by omega))) fun vk hvk => ?_
   refine nn_ (gw_block (sr_ (wl_ov (ov_eql rfl rfl) rfl (sg_ rfl (nn_ ?_)))))
   refine gw_cond rfl (fun hh => ?_) (fun hh => ?_)
   ·have hc0 : vk = 0 := by simpa using hh
    clear hh
    refine gw_region (mv_ rfl (mv_ rfl ?_))
    refine wl_buildSlice (e := 9) (cs := [.string ⟨#[]⟩, .string ⟨#[65]⟩, .string ⟨#[109, 105, 110, 105]⟩, .string ⟨#[122, 101, 100]⟩]) rfl (by kernel_rfl) rfl fun g2 => ?_
    refine wl_got (γ := ByteArray) (val := fun v => .string v) (φ := fun v => v ∈ ([⟨#[]⟩, ⟨#[65]⟩, ⟨#[109, 105, 110, 105]⟩, ⟨#[122, 101, 100]⟩] : List ByteArray)) rfl cb57 rfl rfl rfl rfl (fun wx hm => (some_any [⟨#[]⟩, ⟨#[65]⟩, ⟨#[109, 105, 110, 105]⟩, ⟨#[122, 101, 100]⟩] _ _ _ wx B sb _ hm.k (by omega) (by simp) (by simp) (hm.blkI 0 rfl) (hm.neRow 0 rfl rfl))) fun s3 hs3 => ?_
    have zs3 : s3.size ≤ 100 := mem_sz hs3 (by decide)
    refine wl_ov (ov_nilcheck rfl) rfl (fd_ fo38_0 rfl rfl ?_)
    refine wl_storeE (l := l) (j := i) (r := 0) (el := ⟨y0, y1, y2, y3, y4, y5, y6⟩) (el' := ⟨s3, y1, y2, y3, y4, y5, y6⟩) 0 sc9 rfl rfl rfl rfl rt_len rfl hy hi2 (by decide) rfl rfl ?_
    refine wl_nil (nx_blk_nrm (nx_then (sr_ (mv_ rfl (sg_ rfl (nn_ ?_))))))
    refine gw_ret ?_
    refine nx_ret1 rfl rfl fun wx hm => ?_
    exact ⟨some ⟨bo, 0, none⟩, n, c, (l.set i ⟨s3, y1, y2, y3, y4, y5, y6⟩), rfl, SlT.ofOwn rt_len (hm.ownI 0 rfl) (by simp; exact hi2), rt_set (hi3) ⟨by dsimp only; omega, by dsimp only; omega, ⟨by dsimp only; omega, by dsimp only; omega⟩, ⟨by dsimp only; omega, by dsimp only; omega⟩, ⟨by dsimp only; omega, by dsimp only; omega⟩, ⟨by dsimp only; omega, by dsimp only; omega⟩, ⟨by dsimp only; omega, by dsimp only; omega⟩, ⟨by dsimp only; omega, by dsimp only; omega⟩⟩, by omega, own_cap (hm.ownI 0 rfl), hm.k.more (by omega), hm.g⟩
   have hc0 : ¬ (vk = 0) := by simpa using hh
   clear hh
   refine sr_ (wl_ov (ov_eql rfl rfl) rfl (sg_ rfl (nn_ ?_)))
   refine gw_cond rfl (fun hh => ?_) (fun hh => ?_)
   ·have hc1 : vk = 1 := by simpa using hh
    clear hh
    refine gw_region (mv_ rfl (mv_ rfl (mv_ rfl ?_)))
    refine wl_got (γ := Int) (val := fun v => .int .i64 v) (φ := fun v => -2000000000000000 ≤ v ∧ v ≤ 2000000000000000) rfl cb58 rfl rfl rfl rfl (fun wx hm => (odd_any _ _ wx B sb _ hm.k (by omega) (by omega) (by omega) (by omega))) fun v4 hv4 => ?_
    refine mv_ rfl ?_
    refine wl_got (γ := Int) (val := fun v => .int .i64 v) (φ := fun v => -2000000000000000 ≤ v ∧ v ≤ 2000000000000000) rfl cb58 rfl rfl rfl rfl (fun wx hm => (odd_any _ _ wx B sb _ hm.k (by omega) (by omega) (by omega) (by omega))) fun v5 hv5 => ?_
    refine wl_ov (ov_nilcheck rfl) rfl (fd_ fo38_1 rfl rfl ?_)
    refine wl_storeE (l := l) (j := i) (r := 1) (el := ⟨y0, y1, y2, y3, y4, y5, y6⟩) (el' := ⟨y0, v4, y2, y3, y4, y5, y6⟩) 0 sc3 rfl rfl rfl rfl rt_len rfl hy hi2 (by decide) rfl rfl ?_
    refine wl_ov (ov_nilcheck rfl) rfl (fd_ fo38_2 rfl rfl ?_)
    refine wl_storeE (l := (l.set i ⟨y0, v4, y2, y3, y4, y5, y6⟩)) (j := i) (r := 2) (el := ⟨y0, v4, y2, y3, y4, y5, y6⟩) (el' := ⟨y0, v4, v5, y3, y4, y5, y6⟩) 0 sc3 rfl rfl rfl rfl rt_len rfl (List.getElem?_set_self (by first | omega | (simp; omega))) (by simp; exact hi2) (by decide) rfl rfl ?_
    refine wl_nil (nx_blk_nrm (nx_then (sr_ (mv_ rfl (sg_ rfl (nn_ ?_))))))
    refine gw_ret ?_
    refine nx_ret1 rfl rfl fun wx hm => ?_
    exact ⟨some ⟨bo, 0, none⟩, n, c, ((l.set i ⟨y0, v4, y2, y3, y4, y5, y6⟩).set i ⟨y0, v4, v5, y3, y4, y5, y6⟩), rfl, SlT.ofOwn rt_len (hm.ownI 0 rfl) (by simp; exact hi2), rt_set (rt_set (hi3) ⟨by dsimp only; omega, by dsimp only; omega, ⟨by dsimp only; omega, by dsimp only; omega⟩, ⟨by dsimp only; omega, by dsimp only; omega⟩, ⟨by dsimp only; omega, by dsimp only; omega⟩, ⟨by dsimp only; omega, by dsimp only; omega⟩, ⟨by dsimp only; omega, by dsimp only; omega⟩, ⟨by dsimp only; omega, by dsimp only; omega⟩⟩) ⟨by dsimp only; omega, by dsimp only; omega, ⟨by dsimp only; omega, by dsimp only; omega⟩, ⟨by dsimp only; omega, by dsimp only; omega⟩, ⟨by dsimp only; omega, by dsimp only; omega⟩, ⟨by dsimp only; omega, by dsimp only; omega⟩, ⟨by dsimp only; omega, by dsimp only; omega⟩, ⟨by dsimp only; omega, by dsimp only; omega⟩⟩, by omega, own_cap (hm.ownI 0 rfl), hm.k.more (by omega), hm.g⟩
   have hc1 : ¬ (vk = 1) := by simpa using hh
   clear hh
   refine sr_ (wl_ov (ov_eql rfl rfl) rfl (sg_ rfl (nn_ ?_)))
   refine gw_cond rfl (fun hh => ?_) (fun hh => ?_)
   ·have hc2 : vk = 2 := by simpa using hh
    clear hh
    refine gw_region (mv_ rfl (mv_ rfl ?_))
    refine wl_got (γ := Int) (val := fun v => .int .i64 v) (φ := fun v => -2000000000000000 ≤ v ∧ v ≤ 2000000000000000) rfl cb58 rfl rfl rfl rfl (fun wx hm => (odd_any _ _ wx B sb _ hm.k (by omega) (by omega) (by omega) (by omega))) fun v6 hv6 => ?_
    refine wl_ov (ov_nilcheck rfl) rfl (fd_ fo38_4 rfl rfl ?_)
    refine wl_storeE (l := l) (j := i) (r := 4) (el := ⟨y0, y1, y2, y3, y4, y5, y6⟩) (el' := ⟨y0, y1, y2, y3, v6, y5, y6⟩) 0 sc3 rfl rfl rfl rfl rt_len rfl hy hi2 (by decide) rfl rfl ?_
    refine wl_nil (nx_blk_nrm (nx_then (sr_ (mv_ rfl (sg_ rfl (nn_ ?_))))))
    refine gw_ret ?_
    refine nx_ret1 rfl rfl fun wx hm => ?_
    exact ⟨some ⟨bo, 0, none⟩, n, c, (l.set i ⟨y0, y1, y2, y3, v6, y5, y6⟩), rfl, SlT.ofOwn rt_len (hm.ownI 0 rfl) (by simp; exact hi2), rt_set (hi3) ⟨by dsimp only; omega, by dsimp only; omega, ⟨by dsimp only; omega, by dsimp only; omega⟩, ⟨by dsimp only; omega, by dsimp only; omega⟩, ⟨by dsimp only; omega, by dsimp only; omega⟩, ⟨by dsimp only; omega, by dsimp only; omega⟩, ⟨by dsimp only; omega, by dsimp only; omega⟩, ⟨by dsimp only; omega, by dsimp only; omega⟩⟩, by omega, own_cap (hm.ownI 0 rfl), hm.k.more (by omega), hm.g⟩
   have hc2 : ¬ (vk = 2) := by simpa using hh
   clear hh
   refine gw_region (mv_ rfl (mv_ rfl ?_))
   refine wl_ov (ov_index (j := 0) es26 rfl rfl hk0) rfl ?_
   refine wl_ov (ov_elem (vs := [.string z0, .int .i64 z1, .int .i64 z2, .int .i64 z3, .int .i64 z4, .int .i64 z5, .int .i64 z6]) rz38 rfl (fun _ hm => (SlT.ofOwn rt_len (hm.ownI 0 rfl) hi2)) (show l[0]? = some _ from hz) rfl rfl) rfl ?_
   refine wl_buildSlice (e := 38) (cs := [.string z0, .int .i64 z1, .int .i64 z2, .int .i64 z3, .int .i64 z4, .int .i64 z5, .int .i64 z6]) rfl (by kernel_rfl) rfl fun g7 => ?_
   refine wl_append (news := [.string z0, .int .i64 z1, .int .i64 z2, .int .i64 z3, .int .i64 z4, .int .i64 z5, .int .i64 z6]) 0 0 ap26 rfl rfl rfl rfl rfl rfl rfl (by omega) (by unfold maxLen; omega) rfl rfl fun v2 hv2 => ?_
   refine wl_look (R := ∃ A cc, v2 = .slice A (n + 1) cc) (fun wx hm => own_slice (hm.ownI 0 rfl)) ?_
   rintro ⟨A2, c2, rfl⟩
   refine sg_ rfl (wl_nil (nx_blk_nrm (nx_then (sr_ (mv_ rfl (sg_ rfl (nn_ ?_)))))))
   refine gw_ret ?_
   refine nx_ret1 rfl rfl fun wx hm => ?_
   exact ⟨A2, n + 1, c2, l ++ [⟨z0, z1, z2, z3, z4, z5, z6⟩], rfl, SlT.ofOwn (l := l ++ [⟨z0, z1, z2, z3, z4, z5, z6⟩]) rt_len (by have h := hm.ownI 0 rfl; simpa [rtEnc] using h) (by simp [hi2]), rt_snoc hi3 hz0, by omega, own_cap (hm.ownI 0 rfl), hm.k.more (by omega), hm.g⟩
  have hf : f1 = false := by simpa using hh
  clear hh
  refine gw_skip (nx_then (sr_ (mv_ rfl (sg_ rfl (nn_ ?_)))))
  refine gw_ret ?_
  refine nx_ret1 rfl rfl fun wx hm => ?_
  exact ⟨A, n, c, l, rfl, SlT.ofOwn rt_len (hm.ownI 0 rfl) hi2, hi3, by omega, own_cap (hm.ownI 0 rfl), hm.k.more (by omega), hm.g⟩
 refine wl_set 10 rfl (congrArg Value.bool hb) ?_
 refine goff rfl rfl rfl (goff rfl rfl rfl (pf_ rfl rfl (nn_ (cf_ rfl (gw_skip (nx_then (sr_ (mv_ rfl (sg_ rfl (nn_ ?_))))))))))
 refine gw_ret ?_
 refine nx_ret1 rfl rfl fun wx hm => ?_
 exact ⟨A, n, c, l, rfl, SlT.ofOwn rt_len (hm.ownI 0 rfl) hi2, hi3, by omega, own_cap (hm.ownI 0 rfl), hm.k.more (by omega), hm.g⟩
end Go.Proofs.YtnpcbfllnkiopaaGreatDoor
namespace Go.Proofs.YtnpcbfllnkiopaaGreatDoor
open Go.RowKit
open Go.ChangeMaps (setBlock)
/-- The map at block g holds es. -/
def MapAt (g : Nat) (es : Array MapEntry) (ck : Nat) (w : World) : Prop := w.heap[g]? = some (.map es ck)
theorem MapAt.lasts2 {N : Nat} {row : Option Nat} {Tt : List TypeId} {g : Nat} {es : Array MapEntry} {ck : Nat} : Lasts2 N row Tt (MapAt g es ck) :=
  ⟨fun w w' h hx => (h.block g (Array.getElem?_eq_some_iff.1 hx).1 (by simp)).trans hx,
   fun w w' r T c h1 _ _ h3 hx => (h3.block g (Array.getElem?_eq_some_iff.1 hx).1 (fun e => by
     have e2 : g = r := by injection e
     subst e2
     unfold MapAt at hx
     rw [h1] at hx; cases hx)).trans hx⟩
/-- The map at block g, one of the call's own. -/
def OwnMap (N g : Nat) (es : Array MapEntry) (ck : Nat) (w : World) : Prop := N ≤ g ∧ MapAt g es ck w
theorem OwnMap.lasts2 {N M : Nat} {row : Option Nat} {Tt : List TypeId} {g : Nat} {es : Array MapEntry} {ck : Nat} : Lasts2 N row Tt (OwnMap M g es ck) :=
  ⟨fun w w' h hx => ⟨hx.1, MapAt.lasts2.gr (N := N) (row := row) (Tt := Tt) w w' h hx.2⟩, fun w w' r T c h1 h2 h3 h4 hx => ⟨hx.1, MapAt.lasts2.st w w' r T c h1 h2 h3 h4 hx.2⟩⟩
theorem BlkOld.far {N g b : Nat} {row : Option Nat} {T : TypeId} {cs : List Value} : ∀ w w' : World, N ≤ g → w.grownBy w' (some g) → BlkOld N row b T cs w → BlkOld N row b T cs w' := fun _ _ h1 h2 ⟨h3, h4⟩ => ⟨h3, h4.grown h2 (fun e => by
  have e2 : b = g := by injection e
  omega)⟩
end Go.Proofs.YtnpcbfllnkiopaaGreatDoor
namespace Go.Proofs.YtnpcbfllnkiopaaGreatDoor
open Go.RowKit Go.MapKept
open Go.ChangeMaps (setBlock)
theorem bytes_ext {a b : ByteArray} (h : a.toList = b.toList) : a = b := by
  rw [ByteArray.toList_eq, ByteArray.toList_eq] at h
  cases a; cases b
  simp only at h
  exact congrArg ByteArray.mk (Array.toList_inj.1 h)
theorem bytes_eqb {a b : ByteArray} : (a.toList == b.toList) = true ↔ a = b :=
  ⟨fun h => bytes_ext (by simpa using h), fun h => by subst h; simp⟩
def fPut {α : Type} (f : ByteArray → Option α) (k : ByteArray) (x : α) : ByteArray → Option α := fun j => if (j.toList == k.toList) = true then some x else f j
def fDel {α : Type} (f : ByteArray → Option α) (k : ByteArray) : ByteArray → Option α := fun j => if (j.toList == k.toList) = true then none else f j
def fNil {α : Type} : ByteArray → Option α := fun _ => none
theorem fPut_same {α : Type} (f : ByteArray → Option α) (k : ByteArray) (x : α) : fPut f k x k = some x := by unfold fPut; rw [if_pos (by simp)]
theorem fPut_other {α : Type} (f : ByteArray → Option α) {k j : ByteArray} (x : α) (h : j ≠ k) : fPut f k x j = f j := by unfold fPut; rw [if_neg (fun e => h (bytes_eqb.1 e))]
theorem fDel_same {α : Type} (f : ByteArray → Option α) (k : ByteArray) : fDel f k k = none := by unfold fDel; rw [if_pos (by simp)]
theorem fDel_other {α : Type} (f : ByteArray → Option α) {k j : ByteArray} (h : j ≠ k) : fDel f k j = f j := by unfold fDel; rw [if_neg (fun e => h (bytes_eqb.1 e))]
/-- What a map's block holds, key by key. -/
def Entries {α : Type} (enc : α → Value) (f : ByteArray → Option α) (es : Array MapEntry) (ck : Nat) : Prop :=
  Stamped es ck ∧ (∀ x ∈ es.toList, IsKey .string x.key) ∧ ∀ k v, (∃ e ∈ es.toList, e.key = .string k ∧ e.val = v) ↔ ∃ x, f k = some x ∧ v = enc x
/-- The map at block g, one of the call's own, has under each key what f says. -/
def MapF {α : Type} (enc : α → Value) (N g : Nat) (f : ByteArray → Option α) (w : World) : Prop :=
  N ≤ g ∧ ∃ es ck, w.heap[g]? = some (.map es ck) ∧ Entries enc f es ck
theorem MapF.lt {α : Type} {enc : α → Value} {N g : Nat} {f : ByteArray → Option α} {w : World} (h : MapF enc N g f w) : g < w.heap.size := by
  obtain ⟨_, es, ck, hb, _⟩ := h
  exact (Array.getElem?_eq_some_iff.1 hb).1
theorem MapF.kept {α : Type} {enc : α → Value} {N g : Nat} {f : ByteArray → Option α} {w w' : World} {row : Option Nat} (h : MapF enc N g f w) (hg : w.grownBy w' row) (hne : some g ≠ row) : MapF enc N g f w' := by
  have hlt := h.lt
  obtain ⟨h0, es, ck, hb, he⟩ := h
  exact ⟨h0, es, ck, (hg.block g hlt hne).trans hb, he⟩
theorem MapF.lasts2 {α : Type} {enc : α → Value} {N M : Nat} {row : Option Nat} {Tt : List TypeId} {g : Nat} {f : ByteArray → Option α} : Lasts2 N row Tt (MapF enc M g f) :=
  ⟨fun w w' h hx => hx.kept h (by simp),
   fun w w' r T c h1 _ _ h3 hx => hx.kept h3 (fun e => by
     have e2 : g = r := by injection e
     subst e2
     obtain ⟨_, es, ck, hb, _⟩ := hx
     rw [h1] at hb; cases hb)⟩
theorem MapF.far {α : Type} {enc : α → Value} {N M g g1 : Nat} {f : ByteArray → Option α} (hne : g1 ≠ g) : ∀ w w' : World, N ≤ g → w.grownBy w' (some g) → MapF enc M g1 f w → MapF enc M g1 f w' :=
  fun _ _ _ hg h => h.kept hg (fun e => hne (by injection e))
theorem SlOld.far {α : Type} {enc : α → List Value} {k N g : Nat} {T : TypeId} {row : Option Nat} {A : Option Addr} {n : Nat} {l : List α} : ∀ w w' : World, N ≤ g → w.grownBy w' (some g) → SlOld enc k T N row A n l w → SlOld enc k T N row A n l w' := fun w w' h1 h2 ⟨h3, h4⟩ => by
  refine ⟨⟨h3.len, fun hn => ?_⟩, h4⟩
  obtain ⟨b, off, cells, fz, e, hh, hr⟩ := h3.at_ hn
  exact ⟨b, off, cells, fz, e, (h2.block b (Array.getElem?_eq_some_iff.1 hh).1 (fun e2 => by
    have e3 : b = g := by injection e2
    obtain ⟨h5, _⟩ := h4 b off e hn
    omega)).trans hh, hr⟩
section
variable {α : Type} {enc : α → Value} {f : ByteArray → Option α} {es : Array MapEntry} {ck : Nat}
theorem Entries.nil : Entries enc fNil #[] 0 := ⟨stamped_empty 0, by simp, fun k v => by simp [fNil]⟩
theorem Entries.push (h : Entries enc f es ck) {k : ByteArray} (x : α) (hn : ∀ y ∈ es.toList, y.key ≠ .string k) : Entries enc (fPut f k x) (es.push ⟨.string k, enc x, ck⟩) (ck + 1) := by
  refine ⟨stamped_push h.1 hn, fun y hy => ?_, fun j v => ?_⟩
  · simp only [Array.toList_push, List.mem_append, List.mem_singleton] at hy
    rcases hy with hy | rfl
    · exact h.2.1 y hy
    · trivial
  · simp only [Array.toList_push, List.mem_append, List.mem_singleton]
    by_cases hj : j = k
    · subst hj
      rw [fPut_same]
      constructor
      · rintro ⟨e, he | rfl, h1, h2⟩
        · exact absurd h1 (hn e he)
        · exact ⟨x, rfl, h2.symm⟩
      · rintro ⟨y, hy, rfl⟩
        cases hy
        exact ⟨_, .inr rfl, rfl, rfl⟩
    · rw [fPut_other _ _ hj, ← h.2.2 j v]
      constructor
      · rintro ⟨e, he | rfl, h1, h2⟩
        · exact ⟨e, he, h1, h2⟩
        · injection h1 with h1
          exact absurd h1.symm hj
      · rintro ⟨e, he, h1, h2⟩
        exact ⟨e, .inl he, h1, h2⟩
theorem Entries.same (h : Entries enc f es ck) {k : ByteArray} (hn : f k = none) : Entries enc (fDel f k) es ck := by
  have e : fDel f k = f := by
    funext j
    by_cases hj : j = k
    · subst hj; rw [fDel_same, hn]
    · rw [fDel_other _ hj]
  rw [e]; exact h
end
end Go.Proofs.YtnpcbfllnkiopaaGreatDoor
namespace Go.Proofs.YtnpcbfllnkiopaaGreatDoor
open Go.RowKit
/-- The line of a record. -/
def rrParts (x : Rt) : List ByteArray := [x.cls, itoaS x.fr, itoaS x.to_, itoaS x.hr, itoaS x.dy, itoaS x.we, itoaS x.wk]
def rrLn (x : Rt) : ByteArray := joinS (rrParts x) ⟨#[32]⟩ ++ (⟨#[10]⟩ : ByteArray)
def rrTxL (l : List Rt) : List UInt8 := l.flatMap fun x => (rrLn x).data.toList
def rrTx (l : List Rt) : ByteArray := ⟨(rrTxL l).toArray⟩
theorem rrTxL_at {l : List Rt} {i : Nat} {x : Rt} (h : l[i]? = some x) : rrTxL (l.take (i + 1)) = rrTxL (l.take i) ++ (rrLn x).data.toList := by
  unfold rrTxL
  rw [List.take_add_one, h, Option.toList_some, List.flatMap_append]; simp
theorem rrTx_at {l : List Rt} {i : Nat} {x : Rt} (h : l[i]? = some x) : rrTx (l.take (i + 1)) = rrTx (l.take i) ++ rrLn x := by
  refine ba_eq ?_
  rw [ByteArray.data_append, Array.toList_append]
  unfold rrTx
  simp [rrTxL_at h]
theorem rr_i64 {x : Rt} (h : RtB x) : (-9223372036854775808 ≤ x.fr ∧ x.fr ≤ 9223372036854775807) ∧ (-9223372036854775808 ≤ x.to_ ∧ x.to_ ≤ 9223372036854775807) ∧ (-9223372036854775808 ≤ x.hr ∧ x.hr ≤ 9223372036854775807) ∧ (-9223372036854775808 ≤ x.dy ∧ x.dy ≤ 9223372036854775807) ∧ (-9223372036854775808 ≤ x.we ∧ x.we ≤ 9223372036854775807) ∧ (-9223372036854775808 ≤ x.wk ∧ x.wk ≤ 9223372036854775807) := by
  obtain ⟨_, h0, h1, h2, h3, h4, h5⟩ := h
  omega
theorem rrParts_sz {x : Rt} (h : RtB x) : ∀ y ∈ rrParts x, y.size ≤ 100 := fun y hy => by
  have hi := rr_i64 h
  obtain ⟨i0, i1, i2, i3, i4, i5⟩ := hi
  have e0 := itoa_sz i0
  have e1 := itoa_sz i1
  have e2 := itoa_sz i2
  have e3 := itoa_sz i3
  have e4 := itoa_sz i4
  have e5 := itoa_sz i5
  obtain ⟨s0, _⟩ := h
  unfold rrParts at hy
  simp only [List.mem_cons, List.not_mem_nil, or_false] at hy
  rcases hy with rfl | rfl | rfl | rfl | rfl | rfl | rfl <;> omega
theorem rr_join {x : Rt} (h : RtB x) : (joinS (rrParts x) ⟨#[32]⟩).size ≤ 707 := by
  have h1 := join_len (sep := ⟨#[32]⟩) (rrParts_sz h)
  have h2 : (rrParts x).length * ((⟨#[32]⟩ : ByteArray).size + 100) = 707 := by
    show 7 * (1 + 100) = 707
    decide
  omega
theorem rrLn_sz {x : Rt} (h : RtB x) : (rrLn x).size ≤ 708 := by
  have h1 := rr_join h
  unfold rrLn
  rw [ByteArray.size_append]
  have h2 : (⟨#[10]⟩ : ByteArray).size = 1 := rfl
  omega
theorem rrTxL_len {l : List Rt} (h : ∀ x ∈ l, RtB x) : (rrTxL l).length ≤ l.length * 708 := by
  induction l with
  | nil => exact Nat.le_refl _
  | cons x r ih =>
    have h1 := ih fun y hy => h y (List.mem_cons_of_mem _ hy)
    have h2 := rrLn_sz (h x (List.mem_cons_self ..))
    have e : rrTxL (x :: r) = (rrLn x).data.toList ++ rrTxL r := rfl
    rw [e, List.length_append, dl_size, List.length_cons]
    omega
theorem rrTx_sz {l : List Rt} (h : ∀ x ∈ l, RtB x) : (rrTx l).size ≤ l.length * 708 := by
  unfold rrTx; rw [sz_mk]; exact rrTxL_len h
theorem rr_take {l : List Rt} (h : ∀ x ∈ l, RtB x) (i : Nat) : ∀ x ∈ l.take i, RtB x := fun x hx => h x (List.mem_of_mem_take hx)
def rrPts (x : Rt) : List Pt := [.s x.cls, .n x.fr, .n x.to_, .n x.hr, .n x.dy, .n x.we, .n x.wk]
theorem rrPts_ok {x : Rt} (h : RtB x) : ∀ y ∈ rrPts x, PtOk y := fun y hy => by
  obtain ⟨i0, i1, i2, i3, i4, i5⟩ := rr_i64 h
  obtain ⟨s0, _⟩ := h
  unfold rrPts at hy
  simp only [List.mem_cons, List.not_mem_nil, or_false] at hy
  rcases hy with rfl | rfl | rfl | rfl | rfl | rfl | rfl
  · show x.cls.size ≤ 1000000; omega
  · exact i0
  · exact i1
  · exact i2
  · exact i3
  · exact i4
  · exact i5
theorem rrLn_eq (x0 : ByteArray) (x1 x2 x3 x4 x5 x6 : Int) : ((((((x0 ++ ((⟨#[32]⟩ : ByteArray) ++ itoaS x1)) ++ ((⟨#[32]⟩ : ByteArray) ++ itoaS x2)) ++ ((⟨#[32]⟩ : ByteArray) ++ itoaS x3)) ++ ((⟨#[32]⟩ : ByteArray) ++ itoaS x4)) ++ ((⟨#[32]⟩ : ByteArray) ++ itoaS x5)) ++ ((⟨#[32]⟩ : ByteArray) ++ itoaS x6)) ++ (⟨#[10]⟩ : ByteArray) = rrLn ⟨x0, x1, x2, x3, x4, x5, x6⟩ := by
  refine ba_eq ?_
  unfold rrLn rrParts joinS
  simp [Lib.join_cons, Lib.joinTail]
theorem rateLine_any (x0 : ByteArray) (x1 x2 x3 x4 x5 x6 : Int) (w : World) (ht : TxtW w) (hB : RtB ⟨x0, x1, x2, x3, x4, x5, x6⟩) :
  Calls Tryz.prog 65 #[.agg #[.string x0, .int .i64 x1, .int .i64 x2, .int .i64 x3, .int .i64 x4, .int .i64 x5, .int .i64 x6]] w (fun e w' => e = .returned (.string (rrLn ⟨x0, x1, x2, x3, x4, x5, x6⟩)) ∧ w.grownBy w' none) := by
 refine gw_enter ⟨34, w, none, []⟩ Tryz.func65 rfl Tryz.ntmps65 rfl (mem0 (X := [TxtO w.heap.size none]) (allF_cons ht.old allF_nil) (allL_cons TxtO.lasts allL_nil)) ?_
 refine sr_ ?_
 obtain ⟨i1, i2, i3, i4, i5, i6⟩ := rr_i64 hB
 dsimp only at i1 i2 i3 i4 i5 i6
 have s0 : x0.size ≤ 100 := hB.1
 have e1 := itoa_sz i1
 have e2 := itoa_sz i2
 have e3 := itoa_sz i3
 have e4 := itoa_sz i4
 have e5 := itoa_sz i5
 have e6 := itoa_sz i6
 have h32 : (⟨#[32]⟩ : ByteArray).size = 1 := rfl
 have h10 : (⟨#[10]⟩ : ByteArray).size = 1 := rfl
 refine wl_box rfl rfl rfl fun g1 => ?_
 refine sg_ rfl (nn_ (sr_ (fd_ fo38_0 rfl rfl (lk_ sc9 0 rfl rfl rfl (sg_ rfl (nn_ (gw_seq (sr_ (fd_ fo38_1 rfl rfl ?_)))))))))
 refine lk_ sc3 0 rfl rfl rfl (fd_ fo38_2 rfl rfl (lk_ sc3 0 rfl rfl rfl (fd_ fo38_3 rfl rfl (lk_ sc3 0 rfl rfl rfl (fd_ fo38_4 rfl rfl (lk_ sc3 0 rfl rfl rfl (fd_ fo38_5 rfl rfl (lk_ sc3 0 rfl rfl rfl (fd_ fo38_6 rfl rfl (lk_ sc3 0 rfl rfl rfl ?_))))))))))
 refine wl_buildSlice (e := 3) (cs := [.int .i64 x1, .int .i64 x2, .int .i64 x3, .int .i64 x4, .int .i64 x5, .int .i64 x6]) rfl (by kernel_rfl) rfl fun g2 => ?_
 refine wl_ov (ov_len es22 rfl) rfl ?_
 refine wl_set 21 (v' := .int .i64 6) rfl rfl ?_
 refine mv_ rfl (nn_ (gw_block ?_))
 refine gw_rounds 7 ?_
 refine gr_next ?_
 refine sr_ (wl_ov (ov_lss rfl rfl) rfl ?_)
 refine wl_set 23 (v' := .bool true) rfl (congrArg Value.bool (by decide)) ?_
 refine nn_ (gw_seq (ct_ rfl (gw_skip (nx_then (gw_seq (gw_block (sr_ ?_)))))))
 refine wl_ov (ov_index (j := 0) es22 rfl rfl (by decide)) rfl ?_
 refine lk_ sc3 0 rfl rfl rfl (sg_ rfl (nn_ (gw_region (mv_ rfl (mv_ rfl ?_)))))
 refine wl_callv rfl cb89 rfl rfl (fun wx hm => (itoa_any x1 wx (hm.fact 0 rfl).1 i1.1 i1.2)) ?_
 refine wl_ov (ov_sadd rfl rfl (by (try simp only [ByteArray.size_append]); omega)) rfl ?_
 refine wl_ov (ov_sadd rfl rfl (by (try simp only [ByteArray.size_append]); omega)) rfl ?_
 refine sg_ rfl (wl_nil (nx_blk_nrm (nx_then (gw_region (ad_ rfl rfl ?_)))))
 refine wl_set 31 (v' := .int .i64 1) rfl rfl ?_
 refine mv_ rfl (wl_nil ?_)
 refine nx_next ?_
 refine gr_next ?_
 refine sr_ (wl_ov (ov_lss rfl rfl) rfl ?_)
 refine wl_set 23 (v' := .bool true) rfl (congrArg Value.bool (by decide)) ?_
 refine nn_ (gw_seq (ct_ rfl (gw_skip (nx_then (gw_seq (gw_block (sr_ ?_)))))))
 refine wl_ov (ov_index (j := 1) es22 rfl rfl (by decide)) rfl ?_
 refine lk_ sc3 0 rfl rfl rfl (sg_ rfl (nn_ (gw_region (mv_ rfl (mv_ rfl ?_)))))
 refine wl_callv rfl cb89 rfl rfl (fun wx hm => (itoa_any x2 wx (hm.fact 0 rfl).1 i2.1 i2.2)) ?_
 refine wl_ov (ov_sadd rfl rfl (by (try simp only [ByteArray.size_append]); omega)) rfl ?_
 refine wl_ov (ov_sadd rfl rfl (by (try simp only [ByteArray.size_append]); omega)) rfl ?_
 refine sg_ rfl (wl_nil (nx_blk_nrm (nx_then (gw_region (ad_ rfl rfl ?_)))))
 refine wl_set 31 (v' := .int .i64 2) rfl rfl ?_
 refine mv_ rfl (wl_nil ?_)
 refine nx_next ?_
 refine gr_next ?_
 refine sr_ (wl_ov (ov_lss rfl rfl) rfl ?_)
 refine wl_set 23 (v' := .bool true) rfl (congrArg Value.bool (by decide)) ?_
 refine nn_ (gw_seq (ct_ rfl (gw_skip (nx_then (gw_seq (gw_block (sr_ ?_)))))))
 refine wl_ov (ov_index (j := 2) es22 rfl rfl (by decide)) rfl ?_
 refine lk_ sc3 0 rfl rfl rfl (sg_ rfl (nn_ (gw_region (mv_ rfl (mv_ rfl ?_)))))
 refine wl_callv rfl cb89 rfl rfl (fun wx hm => (itoa_any x3 wx (hm.fact 0 rfl).1 i3.1 i3.2)) ?_
 refine wl_ov (ov_sadd rfl rfl (by (try simp only [ByteArray.size_append]); omega)) rfl ?_
 refine wl_ov (ov_sadd rfl rfl (by (try simp only [ByteArray.size_append]); omega)) rfl ?_
 refine sg_ rfl (wl_nil (nx_blk_nrm (nx_then (gw_region (ad_ rfl rfl ?_)))))
 refine wl_set 31 (v' := .int .i64 3) rfl rfl ?_
 refine mv_ rfl (wl_nil ?_)
 refine nx_next ?_
 refine gr_next ?_
 refine sr_ (wl_ov (ov_lss rfl rfl) rfl ?_)
 refine wl_set 23 (v' := .bool true) rfl (congrArg Value.bool (by decide)) ?_
 refine nn_ (gw_seq (ct_ rfl (gw_skip (nx_then (gw_seq (gw_block (sr_ ?_)))))))
 refine wl_ov (ov_index (j := 3) es22 rfl rfl (by decide)) rfl ?_
 refine lk_ sc3 0 rfl rfl rfl (sg_ rfl (nn_ (gw_region (mv_ rfl (mv_ rfl ?_)))))
 refine wl_callv rfl cb89 rfl rfl (fun wx hm => (itoa_any x4 wx (hm.fact 0 rfl).1 i4.1 i4.2)) ?_
 refine wl_ov (ov_sadd rfl rfl (by (try simp only [ByteArray.size_append]); omega)) rfl ?_
 refine wl_ov (ov_sadd rfl rfl (by (try simp only [ByteArray.size_append]); omega)) rfl ?_
 refine sg_ rfl (wl_nil (nx_blk_nrm (nx_then (gw_region (ad_ rfl rfl ?_)))))
 refine wl_set 31 (v' := .int .i64 4) rfl rfl ?_
 refine mv_ rfl (wl_nil ?_)
 refine nx_next ?_
 refine gr_next ?_
 refine sr_ (wl_ov (ov_lss rfl rfl) rfl ?_)
 refine wl_set 23 (v' := .bool true) rfl (congrArg Value.bool (by decide)) ?_
 refine nn_ (gw_seq (ct_ rfl (gw_skip (nx_then (gw_seq (gw_block (sr_ ?_)))))))
 refine wl_ov (ov_index (j := 4) es22 rfl rfl (by decide)) rfl ?_
 refine lk_ sc3 0 rfl rfl rfl (sg_ rfl (nn_ (gw_region (mv_ rfl (mv_ rfl ?_)))))
 refine wl_callv rfl cb89 rfl rfl (fun wx hm => (itoa_any x5 wx (hm.fact 0 rfl).1 i5.1 i5.2)) ?_
 refine wl_ov (ov_sadd rfl rfl (by (try simp only [ByteArray.size_append]); omega)) rfl ?_
 refine wl_ov (ov_sadd rfl rfl (by (try simp only [ByteArray.size_append]); omega)) rfl ?_
 refine sg_ rfl (wl_nil (nx_blk_nrm (nx_then (gw_region (ad_ rfl rfl ?_)))))
 refine wl_set 31 (v' := .int .i64 5) rfl rfl ?_
 refine mv_ rfl (wl_nil ?_)
 refine nx_next ?_
 refine gr_next ?_
 refine sr_ (wl_ov (ov_lss rfl rfl) rfl ?_)
 refine wl_set 23 (v' := .bool true) rfl (congrArg Value.bool (by decide)) ?_
 refine nn_ (gw_seq (ct_ rfl (gw_skip (nx_then (gw_seq (gw_block (sr_ ?_)))))))
 refine wl_ov (ov_index (j := 5) es22 rfl rfl (by decide)) rfl ?_
 refine lk_ sc3 0 rfl rfl rfl (sg_ rfl (nn_ (gw_region (mv_ rfl (mv_ rfl ?_)))))
 refine wl_callv rfl cb89 rfl rfl (fun wx hm => (itoa_any x6 wx (hm.fact 0 rfl).1 i6.1 i6.2)) ?_
 refine wl_ov (ov_sadd rfl rfl (by (try simp only [ByteArray.size_append]); omega)) rfl ?_
 refine wl_ov (ov_sadd rfl rfl (by (try simp only [ByteArray.size_append]); omega)) rfl ?_
 refine sg_ rfl (wl_nil (nx_blk_nrm (nx_then (gw_region (ad_ rfl rfl ?_)))))
 refine wl_set 31 (v' := .int .i64 6) rfl rfl ?_
 refine mv_ rfl (wl_nil ?_)
 refine nx_next ?_
 refine gr_next ?_
 refine sr_ (wl_ov (ov_lss rfl rfl) rfl ?_)
 refine wl_set 23 (v' := .bool false) rfl (congrArg Value.bool (by decide)) ?_
 refine nn_ (gw_seq (cf_ rfl ?_))
 refine gw_exit ?_
 refine nx_then_exit (nx_then_exit ?_)
 refine nx_blk_here ?_
 refine nx_then (sr_ (mv_ rfl ?_))
 refine wl_ov (ov_sadd rfl rfl (by (try simp only [ByteArray.size_append]); omega)) rfl ?_
 refine sg_ rfl (nn_ ?_)
 refine gw_ret ?_
 refine nx_ret1 rfl rfl fun wx hm => ?_
 exact ⟨by rw [← rrLn_eq], hm.g⟩
end Go.Proofs.YtnpcbfllnkiopaaGreatDoor
namespace Go.Proofs.YtnpcbfllnkiopaaGreatDoor
open Go.RowKit
theorem rrLines_any (l : List Rt) (A : Option Addr) (n c : Nat) (w : World) (ht : TxtW w) (hl : SlT rtEnc 7 38 w A n l) (hB : ∀ x ∈ l, RtB x) (hn : n ≤ 10) :
  Calls Tryz.prog 11 #[.slice A n c] w (fun e w' => e = .returned (.string (rrTx l)) ∧ w.grownBy w' none) := by
 refine gw_enter ⟨18, w, none, []⟩ Tryz.func11 rfl Tryz.ntmps11 rfl (mem0 (X := [SlOld rtEnc 7 38 w.heap.size none A n l, TxtO w.heap.size none]) (allF_cons hl.old (allF_cons ht.old allF_nil)) (allL_cons SlOld.lasts (allL_cons TxtO.lasts allL_nil))) ?_
 refine sr_ ?_
 have hlen := hl.len
 refine sg_ rfl (nn_ (sr_ (sg_ rfl (nn_ (gw_seq (sr_ (mv_ rfl (wl_ov (ov_len es26 rfl) rfl (mv_ rfl ?_)))))))))
 refine nn_ (gw_block ?_)
 refine gw_loop (γ := Nat) (fun (i : Nat) => i ≤ n) (fun (i : Nat) => [(2, .string ⟨#[]⟩), (3, .string (rrTx (l.take i))), (6, .slice A n c), (7, .int .i64 ((n : Nat) : Int)), (8, .int .i64 ((i : Nat) : Int))]) (fun (i : Nat) => fun _ => True) (fun (i : Nat) => []) (fun (i : Nat) => []) (fun (i : Nat) => [SlOld rtEnc 7 38 w.heap.size none A n l, TxtO w.heap.size none]) (fun (i : Nat) => n - i) 0 (Nat.zero_le _) ⟨rfl, rfl, rfl, rfl, rfl, trivial⟩ (fun _ hm => hm.pick [] [] [0, 1] rfl rfl) ?_
 intro i hinv
 replace hinv : i ≤ n := hinv
 refine sr_ ?_
 have hi0 := hinv
 refine wl_ov (ov_lss rfl rfl) rfl (nn_ (gw_seq ?_))
 refine gw_cond rfl (fun hh => ?_) (fun hh => ?_)
 ·have hi : ((i : Nat) : Int) < ((n : Nat) : Int) := by simpa using hh
  clear hh
  refine gw_skip (nx_then (gw_seq (gw_block (sr_ ?_))))
  obtain ⟨b, off, hA, _, _⟩ := hl.get (by omega)
  subst hA
  obtain ⟨x, hx⟩ : ∃ x, l[i]? = some x := ⟨_, List.getElem?_eq_getElem (by omega)⟩
  obtain ⟨x0, x1, x2, x3, x4, x5, x6⟩ := x
  have hxm := List.mem_of_getElem? hx
  have hxB := hB _ hxm
  obtain ⟨i0, i1, i2, i3, i4, i5⟩ := rr_i64 hxB
  have hj6 := rr_join hxB
  have hln6 := rrLn_sz hxB
  have hts := rrTx_sz (rr_take hB i)
  have htl : (l.take i).length ≤ 10 := by rw [List.length_take]; omega
  have h10 : (⟨#[10]⟩ : ByteArray).size = 1 := rfl
  dsimp only at i0 i1 i2 i3 i4 i5
  have hat := rrTx_at hx
  refine wl_ov (ov_index (j := i) es26 rfl rfl (by omega)) rfl ?_
  refine wl_ov (ov_elem (vs := [.string x0, .int .i64 x1, .int .i64 x2, .int .i64 x3, .int .i64 x4, .int .i64 x5, .int .i64 x6]) rz38 rfl (fun _ hm => (hm.fact 0 rfl).1) hx rfl rfl) rfl ?_
  refine wl_alloc zc38 rfl fun g1 => ?_
  refine wl_stores (cs' := [.string x0, .int .i64 x1, .int .i64 x2, .int .i64 x3, .int .i64 x4, .int .i64 x5, .int .i64 x6]) 0 rz38 rfl rfl rfl rfl rfl rfl rfl rfl ?_
  refine nn_ (gw_region (mv_ rfl ?_))
  refine wl_ov (ov_loads rz38 rfl (fun _ hm => hm.blkI 0 rfl) rfl rfl) rfl ?_
  refine wl_callv rfl cb65 rfl rfl (fun wx hm => (rateLine_any x0 x1 x2 x3 x4 x5 x6 wx (hm.fact 1 rfl).1 hxB)) ?_
  refine wl_ov (ov_sadd rfl rfl (by (try simp only [ByteArray.size_append]); omega)) rfl ?_
  refine sg_ rfl (wl_nil (nx_blk_nrm (nx_then (gw_region (ad_ rfl rfl (mv_ rfl (wl_nil ?_)))))))
  exact nx_round (i + 1) (by omega) (by omega) ⟨rfl, (congrArg (fun z => some (Value.string z)) hat.symm), rfl, rfl, (some_int (by omega)), trivial⟩ (fun _ hm => hm.pick [] [] [0, 1] rfl rfl)
 have hi : ¬ (((i : Nat) : Int) < ((n : Nat) : Int)) := by simpa using hh
 clear hh
 refine gw_exit ?_
 refine nx_then_exit (nx_then_exit ?_)
 refine nx_blk_here ?_
 refine nx_then (sr_ ?_)
 have hlt : l.take i = l := List.take_of_length_le (by omega)
 rw [hlt]
 refine mv_ rfl (sg_ rfl (nn_ ?_))
 refine gw_ret ?_
 refine nx_ret1 rfl rfl fun wx hm => ?_
 exact ⟨rfl, hm.g⟩
theorem rrText_bad (l : List Rt) (A : Option Addr) (n c : Nat) (w : World) (ht : TxtW w) (hl : SlT rtEnc 7 38 w A n l) (hB : ∀ x ∈ l, RtB x) (hn : n ≤ 10) (h0 : ratesE l ≠ 0) :
  Calls Tryz.prog 9 #[.slice A n c] w (fun e w' => e = .returned (.tuple #[.string ⟨#[]⟩, .int .i64 (ratesE l)]) ∧ w.grownBy w' none) := by
 refine gw_enter ⟨49, w, none, []⟩ Tryz.func9 rfl Tryz.ntmps9 rfl (mem0 (X := [SlOld rtEnc 7 38 w.heap.size none A n l, TxtO w.heap.size none]) (allF_cons hl.old (allF_cons ht.old allF_nil)) (allL_cons SlOld.lasts (allL_cons TxtO.lasts allL_nil))) ?_
 refine sr_ ?_
 have hlen := hl.len
 obtain ⟨FE, hFE⟩ : ∃ z, z = ratesE l := ⟨_, rfl⟩
 rw [← hFE] at h0
 rw [← hFE]
 refine sg_ rfl (sg_ rfl (nn_ (gw_seq (sr_ (mv_ rfl ?_)))))
 refine wl_callv (v := .int .i64 FE) rfl cb59 rfl rfl (fun wx hm => (by rw [hFE]; exact checkRates_any l A n c wx (hm.fact 0 rfl).1 (fun x hx => rtB_ok (hB x hx)) (by omega))) ?_
 refine sg_ rfl (nn_ (sr_ (mv_ rfl (wl_ov (ov_neq rfl rfl) rfl (nn_ ?_)))))
 refine gw_cond rfl (fun hh => ?_) (fun hh => ?_)
 ·have h1 : ¬ (FE = 0) := by simpa using hh
  clear hh
  refine sr_ (mv_ rfl (sg_ rfl (sg_ rfl (nn_ ?_))))
  refine gw_ret ?_
  refine nx_then_ret ?_
  refine nx_ret2 rfl rfl rfl fun wx hm => ?_
  exact ⟨rfl, hm.g⟩
 have h1 : FE = 0 := by simpa using hh
 clear hh
 refine gw_skip (nx_then (sr_ ?_))
 exact absurd (by simpa using h1) h0
theorem rrText_right (l : List Rt) (A : Option Addr) (n c : Nat) (w : World) (ht : TxtW w) (hl : SlT rtEnc 7 38 w A n l) (hB : ∀ x ∈ l, RtB x) (hn : n ≤ 10) (h0 : ratesE l = 0) :
  Calls Tryz.prog 9 #[.slice A n c] w (fun e w' => e = .returned (.tuple #[.string (rrTx l), .int .i64 0]) ∧ w.grownBy w' none) := by
 refine gw_enter ⟨49, w, none, []⟩ Tryz.func9 rfl Tryz.ntmps9 rfl (mem0 (X := [SlOld rtEnc 7 38 w.heap.size none A n l, TxtO w.heap.size none]) (allF_cons hl.old (allF_cons ht.old allF_nil)) (allL_cons SlOld.lasts (allL_cons TxtO.lasts allL_nil))) ?_
 refine sr_ ?_
 have hlen := hl.len
 obtain ⟨FE, hFE⟩ : ∃ z, z = ratesE l := ⟨_, rfl⟩
 rw [← hFE] at h0
 refine sg_ rfl (sg_ rfl (nn_ (gw_seq (sr_ (mv_ rfl ?_)))))
 refine wl_callv (v := .int .i64 FE) rfl cb59 rfl rfl (fun wx hm => (by rw [hFE]; exact checkRates_any l A n c wx (hm.fact 0 rfl).1 (fun x hx => rtB_ok (hB x hx)) (by omega))) ?_
 refine sg_ rfl (nn_ (sr_ (mv_ rfl (wl_ov (ov_neq rfl rfl) rfl (nn_ ?_)))))
 refine gw_cond rfl (fun hh => ?_) (fun hh => ?_)
 ·have h1 : ¬ (FE = 0) := by simpa using hh
  clear hh
  refine sr_ ?_
  exact absurd h0 (by simpa using h1)
 have h1 : FE = 0 := by simpa using hh
 clear hh
 refine gw_skip (nx_then (sr_ ?_))
 refine wl_alloc zc101 rfl fun g1 => ?_
 refine nn_ (gw_seq (sr_ (mv_ rfl (wl_ov (ov_len es26 rfl) rfl (mv_ rfl (nn_ (gw_block ?_)))))))
 refine gw_nilOwn 5 1 ?_
 skip
 refine gw_loop (γ := Nat × Value × Value) (fun (gz : Nat × Value × Value) => gz.1 ≤ n ∧ (gz.2.1 = .pointer none ∨ gz.2.1 = .pointer (some ⟨g1, 0, none⟩))) (fun (gz : Nat × Value × Value) => [(2, .string ⟨#[]⟩), (3, .int .i64 0), (5, .pointer (some ⟨g1, 0, none⟩)), (13, .slice A n c), (14, .int .i64 ((n : Nat) : Int)), (15, .int .i64 ((gz.1 : Nat) : Int))]) (fun (gz : Nat × Value × Value) => fun _ => True) (fun (gz : Nat × Value × Value) => [(g1, 101, [gz.2.1, gz.2.2])]) (fun (gz : Nat × Value × Value) => [⟨gz.2.2, 5, 1, (Lib.byteCells (rrTxL (l.take gz.1))).length, (Lib.byteCells (rrTxL (l.take gz.1)))⟩]) (fun (gz : Nat × Value × Value) => [SlOld rtEnc 7 38 w.heap.size none A n l, TxtO w.heap.size none]) (fun (gz : Nat × Value × Value) => n - gz.1) (0, .pointer none, .slice none 0 0) ⟨Nat.zero_le _, .inl rfl⟩ ⟨rfl, rfl, rfl, rfl, rfl, rfl, trivial⟩ (fun _ hm => hm.pick [0] [0] [0, 1] rfl rfl) ?_
 rintro ⟨i, p, v⟩ hinv
 replace hinv : i ≤ n ∧ (p = .pointer none ∨ p = .pointer (some ⟨g1, 0, none⟩)) := hinv
 dsimp only
 refine sr_ ?_
 obtain ⟨hi0, hp⟩ := hinv
 refine wl_ov (ov_lss rfl rfl) rfl (nn_ (gw_seq ?_))
 refine gw_cond rfl (fun hh => ?_) (fun hh => ?_)
 ·have hi : ((i : Nat) : Int) < ((n : Nat) : Int) := by simpa using hh
  clear hh
  refine gw_skip (nx_then (gw_seq (gw_block (sr_ ?_))))
  obtain ⟨b, off, hA, _, _⟩ := hl.get (by omega)
  subst hA
  obtain ⟨x, hx⟩ : ∃ x, l[i]? = some x := ⟨_, List.getElem?_eq_getElem (by omega)⟩
  obtain ⟨x0, x1, x2, x3, x4, x5, x6⟩ := x
  have hxm := List.mem_of_getElem? hx
  have hxB := hB _ hxm
  obtain ⟨i0, i1, i2, i3, i4, i5⟩ := rr_i64 hxB
  have hj6 := rr_join hxB
  have hln6 := rrLn_sz hxB
  have hts := rrTx_sz (rr_take hB i)
  have htl : (l.take i).length ≤ 10 := by rw [List.length_take]; omega
  have h10 : (⟨#[10]⟩ : ByteArray).size = 1 := rfl
  dsimp only at i0 i1 i2 i3 i4 i5
  have hat := rrTxL_at hx
  have htl2 := rrTxL_len (rr_take hB i)
  refine wl_ov (ov_index (j := i) es26 rfl rfl (by omega)) rfl ?_
  refine wl_ov (ov_elem (vs := [.string x0, .int .i64 x1, .int .i64 x2, .int .i64 x3, .int .i64 x4, .int .i64 x5, .int .i64 x6]) rz38 rfl (fun _ hm => (hm.fact 0 rfl).1) hx rfl rfl) rfl ?_
  refine wl_alloc zc38 rfl fun g2 => ?_
  refine wl_stores (cs' := [.string x0, .int .i64 x1, .int .i64 x2, .int .i64 x3, .int .i64 x4, .int .i64 x5, .int .i64 x6]) 0 rz38 rfl rfl rfl rfl rfl rfl rfl rfl ?_
  refine nn_ (gw_region (fd_ fo38_0 rfl rfl (lk_ sc9 0 rfl rfl rfl ?_)))
  refine wl_ov (ov_iface (by kernel_rfl) rfl) rfl ?_
  refine fd_ fo38_1 rfl rfl (lk_ sc3 0 rfl rfl rfl ?_)
  refine wl_ov (ov_iface (by kernel_rfl) rfl) rfl ?_
  refine fd_ fo38_2 rfl rfl (lk_ sc3 0 rfl rfl rfl ?_)
  refine wl_ov (ov_iface (by kernel_rfl) rfl) rfl ?_
  refine fd_ fo38_3 rfl rfl (lk_ sc3 0 rfl rfl rfl ?_)
  refine wl_ov (ov_iface (by kernel_rfl) rfl) rfl ?_
  refine fd_ fo38_4 rfl rfl (lk_ sc3 0 rfl rfl rfl ?_)
  refine wl_ov (ov_iface (by kernel_rfl) rfl) rfl ?_
  refine fd_ fo38_5 rfl rfl (lk_ sc3 0 rfl rfl rfl ?_)
  refine wl_ov (ov_iface (by kernel_rfl) rfl) rfl ?_
  refine fd_ fo38_6 rfl rfl (lk_ sc3 0 rfl rfl rfl ?_)
  refine wl_ov (ov_iface (by kernel_rfl) rfl) rfl ?_
  refine wl_buildSlice (e := 20) (cs := [.iface 9 (.string x0), .iface 3 (.int .i64 x1), .iface 3 (.int .i64 x2), .iface 3 (.int .i64 x3), .iface 3 (.int .i64 x4), .iface 3 (.int .i64 x5), .iface 3 (.int .i64 x6)]) rfl (by kernel_rfl) rfl fun g3 => ?_
  refine wl_callv (v := .string (joinS (rrParts ⟨x0, x1, x2, x3, x4, x5, x6⟩) ⟨#[32]⟩)) rfl cb61 rfl rfl (fun wx hm => (by have h := wjoin_any (rrPts ⟨x0, x1, x2, x3, x4, x5, x6⟩) (some ⟨g3, 0, none⟩) 7 7 wx (hm.fact 1 rfl).1 (SlT.ofBlk (l := rrPts ⟨x0, x1, x2, x3, x4, x5, x6⟩) pt_len (hm.blkI 0 rfl)) (by omega) (by omega) (rrPts_ok hxB); exact h)) ?_
  refine wl_ov (ov_sadd rfl rfl (by rw [h10]; omega)) rfl ?_
  refine wl_callG (γ := Value) (val := fun _ => .tuple #[.int .i64 ((rrLn ⟨x0, x1, x2, x3, x4, x5, x6⟩).size : Int), .nilIface]) (φ := fun _ => True) (K' := fun _ => (fun _ => True)) (L' := fun g => [(g1, 101, [.pointer (some ⟨g1, 0, none⟩), g])]) (O' := fun g => [⟨g, 5, 1, (Lib.byteCells (rrTxL (l.take i)) ++ Lib.strCells (rrLn ⟨x0, x1, x2, x3, x4, x5, x6⟩)).length, Lib.byteCells (rrTxL (l.take i)) ++ Lib.strCells (rrLn ⟨x0, x1, x2, x3, x4, x5, x6⟩)⟩]) (X' := fun _ => [SlOld rtEnc 7 38 w.heap.size none (some ⟨b, off, none⟩) n l, TxtO w.heap.size none]) rfl cb60 rfl rfl (fun wx hm => (writeString_any w.heap.size g1 (Lib.byteCells (rrTxL (l.take i))) (rrLn ⟨x0, x1, x2, x3, x4, x5, x6⟩) wx (hm.isB 2 0 rfl rfl hp) (by rw [Lib.byteCells_length]; have := rrLn_sz hxB; omega) hm.g.size).mono fun e w' ⟨he, h1, hb⟩ => by
   obtain ⟨v, hM⟩ := hm.built h1 hb (oldX_cons (i := 0) SlOld.oldF rfl (oldX_cons (i := 1) TxtO.oldF rfl oldX_nil))
   exact ⟨v, he, trivial, hM⟩) ?_
  rintro v2 _
  rw [show Lib.byteCells (rrTxL (l.take i)) ++ Lib.strCells (rrLn ⟨x0, x1, x2, x3, x4, x5, x6⟩) = Lib.byteCells (rrTxL (l.take (i + 1))) from by rw [cells_app, ← hat]]
  refine wl_nil (nx_blk_nrm (nx_then (gw_region (ad_ rfl rfl (mv_ rfl (wl_nil ?_))))))
  exact nx_round (i + 1, .pointer (some ⟨g1, 0, none⟩), v2) ⟨by dsimp only; omega, .inr rfl⟩ (by dsimp only; omega) ⟨rfl, rfl, rfl, rfl, rfl, (some_int (by omega)), trivial⟩ (fun _ hm => hm.pick [0] [0] [0, 1] rfl rfl)
 have hi : ¬ (((i : Nat) : Int) < ((n : Nat) : Int)) := by simpa using hh
 clear hh
 refine gw_exit ?_
 refine nx_then_exit (nx_then_exit ?_)
 refine nx_blk_here ?_
 refine nx_then (sr_ ?_)
 have hlt : l.take i = l := List.take_of_length_le (by omega)
 rw [hlt]
 have htl := rrTx_sz hB
 refine wl_callG (γ := Unit) (val := fun _ => .string (rrTx l)) (φ := fun _ => True) (K' := fun _ => (fun _ => True)) (L' := fun _ => []) (O' := fun _ => []) (X' := fun _ => [SlOld rtEnc 7 38 w.heap.size none A n l, TxtO w.heap.size none]) rfl cb63 rfl rfl (fun wx hm => (string_any w.heap.size g1 (rrTxL l) wx (hm.isB 0 0 rfl rfl hp) hm.g.size).mono fun e w' ⟨he, hb⟩ => ⟨(), he, trivial, hm.belowX hb (oldX_cons (i := 0) SlOld.oldF rfl (oldX_cons (i := 1) TxtO.oldF rfl oldX_nil))⟩) ?_
 rintro _ _
 refine wl_callv rfl cb62 rfl rfl (fun wx hm => (sized_any (rrTx l) wx (by omega))) ?_
 refine wl_ov (ov_extract rfl rfl) rfl (wl_ov (ov_extract rfl rfl) rfl (sg_ rfl (sg_ rfl (nn_ ?_))))
 refine gw_ret ?_
 refine nx_ret2 rfl rfl rfl fun wx hm => ?_
 exact ⟨rfl, hm.g⟩
/-- Whether a line is a record's, and that record. -/
def rrRdB (t : ByteArray) : Bool := wdB t && decide ((wdL t).length = 7) && ((wdL t).drop 1).all numB
def rrRdV (t : ByteArray) : Rt := match wdL t with
  | [a0, a1, a2, a3, a4, a5, a6] => ⟨a0, numV a1, numV a2, numV a3, numV a4, numV a5, numV a6⟩
  | _ => ⟨⟨#[]⟩, 0, 0, 0, 0, 0, 0⟩
def rrRdA (t : ByteArray) (acc : List Rt) : List Rt := if rrRdB t = true then acc ++ [rrRdV t] else acc
def rrStep (t : ByteArray) (acc : List Rt) : List Rt × Bool := (rrRdA t acc, rrRdB t)
theorem rr_of {l : List ByteArray} (h : l.length = 7) : ∃ a0 a1 a2 a3 a4 a5 a6, l = [a0, a1, a2, a3, a4, a5, a6] := by
  match l, h with
  | [a0, a1, a2, a3, a4, a5, a6], _ => exact ⟨a0, a1, a2, a3, a4, a5, a6, rfl⟩
theorem rrRd_no {t : ByteArray} {acc : List Rt} (h : rrRdB t = false) : rrRdA t acc = acc := by unfold rrRdA; rw [h]; rfl
theorem rrRd_yes {t : ByteArray} {acc : List Rt} {a0 a1 a2 a3 a4 a5 a6 : ByteArray} (h : rrRdB t = true) (hw : wdL t = [a0, a1, a2, a3, a4, a5, a6]) : rrRdA t acc = acc ++ [⟨a0, numV a1, numV a2, numV a3, numV a4, numV a5, numV a6⟩] := by
  unfold rrRdA rrRdV; rw [if_pos h, hw]
theorem rrRd_wd {t : ByteArray} (h : (!wdB t) = true) : rrRdB t = false := by
  unfold rrRdB
  cases hb : wdB t with
  | false => rfl
  | true => rw [hb] at h; cases h
theorem rrRd_len {t : ByteArray} (h : ¬ (wdL t).length = 7) : rrRdB t = false := by
  unfold rrRdB; rw [decide_eq_false h, Bool.and_false]; rfl
theorem rrRd_all {t : ByteArray} {a0 a1 a2 a3 a4 a5 a6 : ByteArray} (hb : (!wdB t) = false) (hw : wdL t = [a0, a1, a2, a3, a4, a5, a6]) : rrRdB t = [a1, a2, a3, a4, a5, a6].all numB := by
  have h1 : wdB t = true := by
    cases h : wdB t with
    | true => rfl
    | false => rw [h] at hb; cases hb
  unfold rrRdB
  rw [h1, hw]; rfl
theorem rrRdA_len (t : ByteArray) (acc : List Rt) : (rrRdA t acc).length ≤ acc.length + 1 := by
  unfold rrRdA; split
  · rw [List.length_append]; exact Nat.le_refl _
  · omega
theorem rrOwn_n {w : World} {base n : Nat} {e : TypeId} {v : Value} {l : List Rt} (h : w.ownsRow base e 7 v n (l.flatMap rtEnc)) : n = l.length := by
  have h1 : (l.flatMap rtEnc).length = n * 7 := h.1
  rw [flat_len rtEnc 7 rt_len] at h1
  omega
theorem rrRdV_ok (t : ByteArray) (ht : t.size ≤ 1000000) : RtOk (rrRdV t) := by
  have h := wdL_sz t
  unfold rrRdV
  generalize wdL t = l at h ⊢
  split
  · rename_i a0 a1 a2 a3 a4 a5 a6
    exact Nat.le_trans (h a0 (by simp)) ht
  · exact Nat.zero_le _
theorem rrStep_ok (t : ByteArray) (acc : List Rt) (ht : t.size ≤ 200000) (h : ∀ b ∈ acc, RtOk b) : (∀ b ∈ (rrStep t acc).1, RtOk b) ∧ (rrStep t acc).1.length ≤ acc.length + 1 := by
  refine ⟨fun b hb => ?_, rrRdA_len t acc⟩
  have hb : b ∈ rrRdA t acc := hb
  unfold rrRdA at hb
  split at hb
  · rcases List.mem_append.1 hb with hb | hb
    · exact h b hb
    · rw [List.mem_singleton.1 hb]; exact rrRdV_ok t (by omega)
  · exact h b hb
def rrR (t : ByteArray) : Int × Bool × List Rt := linesR rrStep [] t
theorem rrR_all {t : ByteArray} (ht : t.size ≤ 200000) : (∀ b ∈ (rrR t).2.2, RtOk b) ∧ (rrR t).2.2.length ≤ t.size := by
  have h := linesR_all (Q := fun l => ∀ b ∈ l, RtOk b) (ms := List.length) (M := 200000) rrStep_ok ht (st := []) (fun _ hb => by cases hb)
  exact ⟨h.1, by have := h.2; rw [List.length_nil, Nat.zero_add] at this; exact this⟩
/-- What a text is read as: the error, the line, the records. -/
def rrE (t : ByteArray) : Int := if 200000 < t.size then 2 else if (rrR t).2.1 = false then 9 else ratesE (rrR t).2.2
def rrAt (t : ByteArray) : Int := if 200000 < t.size then 0 else if (rrR t).2.1 = false then (rrR t).1 else 0
def rrL (t : ByteArray) : List Rt := if 200000 < t.size then [] else if (rrR t).2.1 = false then [] else if ratesE (rrR t).2.2 = 0 then (rrR t).2.2 else []
theorem rr_big {t : ByteArray} (h : 200000 < t.size) : rrE t = 2 ∧ rrAt t = 0 ∧ rrL t = [] := by unfold rrE rrAt rrL; simp [h]
theorem rr_bad {t : ByteArray} (h : ¬ 200000 < t.size) (h2 : (rrR t).2.1 = false) : rrE t = 9 ∧ rrAt t = (rrR t).1 ∧ rrL t = [] := by unfold rrE rrAt rrL; simp [h, h2]
theorem rr_form {t : ByteArray} (h : ¬ 200000 < t.size) (h2 : (rrR t).2.1 = true) (h3 : ¬ ratesE (rrR t).2.2 = 0) : rrE t = ratesE (rrR t).2.2 ∧ rrAt t = 0 ∧ rrL t = [] := by unfold rrE rrAt rrL; simp [h, h2, h3]
theorem rr_right {t : ByteArray} (h : ¬ 200000 < t.size) (h2 : (rrR t).2.1 = true) (h3 : ratesE (rrR t).2.2 = 0) : rrE t = 0 ∧ rrAt t = 0 ∧ rrL t = (rrR t).2.2 := by unfold rrE rrAt rrL; simp [h, h2, h3]
theorem rrL_len {t : ByteArray} (ht : t.size ≤ 200000) : (rrL t).length ≤ t.size := by
  have h := (rrR_all ht).2
  unfold rrL
  split
  · exact Nat.zero_le _
  · split
    · exact Nat.zero_le _
    · split
      · exact h
      · exact Nat.zero_le _
def rrReadK (t : ByteArray) (w : World) (e : Ending) (w' : World) : Prop := ∃ A n c, e = .returned (.tuple #[.slice A n c, .int .i64 (rrAt t), .int .i64 (rrE t)]) ∧ SlT rtEnc 7 38 w' A n (rrL t) ∧ w.grownBy w' none
theorem rrReadK.nil {t : ByteArray} {w w' : World} {N E : Int} (h : rrE t = E ∧ rrAt t = N ∧ rrL t = []) (hg : w.grownBy w' none) : rrReadK t w (.returned (.tuple #[.slice none 0 0, .int .i64 N, .int .i64 E])) w' :=
  ⟨none, 0, 0, by rw [h.1, h.2.1], by rw [h.2.2]; exact SlT.nil_ w' none, hg⟩
theorem sc26' : scalarB Tryz.prog 26 = true := by kernel_rfl
theorem rrRead1_any (t : ByteArray) (w0 w : World) (g n : Nat) (v : Value) (acc : List Rt) (hts : t.size ≤ 1000000) (hn : n ≤ 1000000) (hm : Mem ⟨0, w0, some g, [9, 3]⟩ (RowK 0 26 1 1 1 g ([v].flatMap svEnc)) [] [⟨v, 38, 7, n, (acc).flatMap rtEnc⟩] [TxtO w0.heap.size (some g)] w) :
  Calls Tryz.prog 67 #[.string t, .pointer (some ⟨g, 0, none⟩)] w (fun e w' => ∃ v' n', e = .returned (.bool (rrRdB t)) ∧ Mem ⟨0, w0, some g, [9, 3]⟩ (RowK 0 26 1 1 1 g ([v'].flatMap svEnc)) [] [⟨v', 38, 7, n', (rrRdA t acc).flatMap rtEnc⟩] [TxtO w0.heap.size (some g)] w') := by
 refine gw_enter ⟨52, w0, (some g), [9, 3]⟩ Tryz.func67 rfl Tryz.ntmps67 rfl hm.cx ?_
 refine sr_ ?_
 by_cases h6 : (wdL t).length = 7
 ·obtain ⟨a0, a1, a2, a3, a4, a5, a6, hw⟩ := rr_of h6
  have hwz := wdL_sz t
  rw [hw] at hwz
  have za0 : a0.size ≤ 1000000 := Nat.le_trans (hwz a0 (by simp)) hts
  have za1 : a1.size ≤ 1000000 := Nat.le_trans (hwz a1 (by simp)) hts
  have za2 : a2.size ≤ 1000000 := Nat.le_trans (hwz a2 (by simp)) hts
  have za3 : a3.size ≤ 1000000 := Nat.le_trans (hwz a3 (by simp)) hts
  have za4 : a4.size ≤ 1000000 := Nat.le_trans (hwz a4 (by simp)) hts
  have za5 : a5.size ≤ 1000000 := Nat.le_trans (hwz a5 (by simp)) hts
  have za6 : a6.size ≤ 1000000 := Nat.le_trans (hwz a6 (by simp)) hts
  refine sg_ rfl (nn_ (sr_ (mv_ rfl ?_)))
  refine wl_callx (γ := Nat × Nat) (val := (fun g => .tuple #[.slice (some ⟨g.1, 0, none⟩) g.2 g.2, .bool (wdB t)])) (φ := (fun g => g.2 = 7)) (Y := (fun g => fun wy => SlT sgEnc 1 9 wy (some ⟨g.1, 0, none⟩) g.2 ([a0, a1, a2, a3, a4, a5, a6]))) rfl cb68 rfl rfl (fun wx hm => (words_any t wx (hm.fact 0 rfl).1 hts).mono fun _ _ ⟨gw, k, he, h1, h2, hg⟩ => ⟨(gw, k), he, by have h := h1.len; rw [h6] at h; exact h.symm, hg, by rw [hw] at h1; exact h1⟩) (fun _ => SlT.lasts2 rfl) ?_
  rintro ⟨gw, k⟩ hk
  dsimp only at hk ⊢
  subst hk
  refine mv_ rfl (wl_ov (ov_extract rfl rfl) rfl (wl_ov (ov_extract rfl rfl) rfl (sg_ rfl (sg_ rfl (nn_ (gw_seq (sr_ (mv_ rfl (wl_ov (ov_un_not rfl) rfl (mv_ rfl ?_))))))))))
  rcases Bool.eq_false_or_eq_true (!(wdB t)) with h1 | h1
  ·refine wl_set 14 rfl (congrArg Value.bool h1) ?_
   refine goff rfl rfl rfl (goff rfl rfl rfl (goff rfl rfl rfl (pt_ rfl rfl (nn_ (ct_ rfl (sr_ (sg_ rfl (nn_ ?_))))))))
   refine gw_ret ?_
   refine nx_then_ret ?_
   rw [rrRd_no (rrRd_wd h1)]
   refine nx_ret1 rfl rfl fun wx hm => ?_
   exact ⟨v, n, by rw [rrRd_wd h1], (hm.pick [] [0] [1] rfl rfl).cx⟩
  refine wl_set 14 rfl (congrArg Value.bool h1) ?_
  refine wl_guard_on rfl rfl rfl (mv_ rfl (wl_guard_on rfl rfl rfl (wl_ov (ov_len es112 rfl) rfl ?_)))
  refine wl_set 16 (v' := .int .i64 7) rfl rfl ?_
  refine wl_guard_on rfl rfl rfl (wl_ov (ov_neq rfl rfl) rfl ?_)
  refine wl_set 17 (v' := .bool false) rfl (congrArg Value.bool (by decide)) ?_
  refine pf_ rfl rfl (nn_ (cf_ rfl (gw_skip (nx_then (sr_ (mv_ rfl ?_))))))
  refine wl_ov (ov_sliceLo (lo := 1) es112 rfl rfl rfl (by omega)) rfl ?_
  have hsix := rrRd_all h1 hw
  obtain ⟨NB, hNB⟩ : ∃ z, z = [a1, a2, a3, a4, a5, a6].all numB := ⟨_, rfl⟩
  rw [← hNB] at hsix
  refine wl_callx (γ := Option Addr × Nat × Nat) (val := (fun g => .tuple #[.slice g.1 g.2.1 g.2.2, .bool NB])) (φ := (fun g => True)) (Y := (fun g => fun wy => IfT NB (SlT tiEnc 1 3 wy g.1 g.2.1 [numV a1, numV a2, numV a3, numV a4, numV a5, numV a6] ∧ g.2.1 = 7 - 1))) rfl cb69 rfl rfl (fun wx hm => (by have h := numbers_any [a1, a2, a3, a4, a5, a6] (if 7 = 1 then (some ⟨gw, 0, none⟩) else Option.map (fun a : Addr => a.add (1 * 1)) (some ⟨gw, 0, none⟩)) (7 - 1) (7 - 1) wx (hm.fact 1 rfl).1 (SlT.dropS (c := 7) (hm.fact 0 rfl) 1 (by omega) (by omega)) (by omega) (fun x hx => by simp only [List.mem_cons, List.not_mem_nil, or_false] at hx; rcases hx with rfl | rfl | rfl | rfl | rfl | rfl <;> assumption); rw [← hNB] at h; exact h.mono fun _ _ ⟨A2, k, c2, he, h1, hg⟩ => ⟨(A2, k, c2), he, trivial, hg, h1⟩)) (fun _ => (SlT.lasts2 rfl).ift) ?_
  rintro ⟨nA, nk, nc⟩ hphi
  dsimp only
  clear hphi
  refine mv_ rfl (wl_ov (ov_extract rfl rfl) rfl (wl_ov (ov_extract rfl rfl) rfl (sg_ rfl (sg_ rfl (nn_ (gw_seq (sr_ (mv_ rfl (nn_ ?_)))))))))
  refine gw_cond rfl (fun hh => ?_) (fun hh => ?_)
  ·have hn : NB = true := by simpa using hh
   clear hh
   subst hn
   refine gw_look (R := nk = 6) (fun wx hm => ((hm.fact 0 rfl) rfl).2) ?_
   rintro rfl
   refine gw_look (R := ∃ b o, nA = some ⟨b, o, none⟩) (fun wx hm => by obtain ⟨b, off, hA, _, _⟩ := SlT.get ((hm.fact 0 rfl) rfl).1 (by omega); exact ⟨b, off, hA⟩) ?_
   rintro ⟨bn, on, rfl⟩
   refine gw_look (R := ∃ A cc, v = .slice A n cc) (fun wx hm => own_slice (hm.ownI 0 rfl)) ?_
   rintro ⟨A, cc, rfl⟩
   refine gd (fun wz => (fun wy => IfT true (SlT tiEnc 1 3 wy (some ⟨bn, on, none⟩) 6 [numV a1, numV a2, numV a3, numV a4, numV a5, numV a6] ∧ 6 = 7 - 1)) wz ∧ (fun wy => SlT sgEnc 1 9 wy (some ⟨gw, 0, none⟩) 7 ([a0, a1, a2, a3, a4, a5, a6])) wz ∧ (TxtO w0.heap.size (some g)) wz ∧ True) mixed (fun _ hm => ⟨hm.fa 0, hm.fa 1, hm.fa 2, trivial⟩) fun z => ?_
   refine wt 1 26 2 rfl z (ov_move rfl) ?_
   refine wt 2 26 6 rfl z (ov_index (j := 0) es112 rfl rfl (by decide)) ?_
   refine wt 3 26 14 rfl z (ov_elem1 (k := 0) (v := .string a0) sc9 rfl (fun _ hm => (hm.2.1)) (show ([a0, a1, a2, a3, a4, a5, a6] : List ByteArray)[0]? = some a0 from rfl) rfl rfl) ?_
   refine wt 4 26 30 rfl z (ov_move rfl) ?_
   refine wt 5 26 62 rfl z (ov_index (j := 0) es22 rfl rfl (by omega)) ?_
   refine wt 6 26 126 rfl z (ov_elem1 (k := 0) (v := .int .i64 (numV a1)) sc3 rfl (fun _ hm => ((hm.1) rfl).1) (show ([numV a1, numV a2, numV a3, numV a4, numV a5, numV a6] : List Int)[0]? = some (numV a1) from rfl) rfl rfl) ?_
   refine wt 7 26 254 rfl z (ov_move rfl) ?_
   refine wt 8 26 510 rfl z (ov_index (j := 1) es22 rfl rfl (by omega)) ?_
   refine wt 9 26 1022 rfl z (ov_elem1 (k := 0) (v := .int .i64 (numV a2)) sc3 rfl (fun _ hm => ((hm.1) rfl).1) (show ([numV a1, numV a2, numV a3, numV a4, numV a5, numV a6] : List Int)[1]? = some (numV a2) from rfl) rfl rfl) ?_
   refine wt 10 26 2046 rfl z (ov_move rfl) ?_
   refine wt 11 26 4094 rfl z (ov_index (j := 2) es22 rfl rfl (by omega)) ?_
   refine wt 12 26 8190 rfl z (ov_elem1 (k := 0) (v := .int .i64 (numV a3)) sc3 rfl (fun _ hm => ((hm.1) rfl).1) (show ([numV a1, numV a2, numV a3, numV a4, numV a5, numV a6] : List Int)[2]? = some (numV a3) from rfl) rfl rfl) ?_
   refine wt 13 26 16382 rfl z (ov_move rfl) ?_
   refine wt 14 26 32766 rfl z (ov_index (j := 3) es22 rfl rfl (by omega)) ?_
   refine wt 15 26 65534 rfl z (ov_elem1 (k := 0) (v := .int .i64 (numV a4)) sc3 rfl (fun _ hm => ((hm.1) rfl).1) (show ([numV a1, numV a2, numV a3, numV a4, numV a5, numV a6] : List Int)[3]? = some (numV a4) from rfl) rfl rfl) ?_
   refine wt 16 26 131070 rfl z (ov_move rfl) ?_
   refine wt 17 26 262142 rfl z (ov_index (j := 4) es22 rfl rfl (by omega)) ?_
   refine wt 18 26 524286 rfl z (ov_elem1 (k := 0) (v := .int .i64 (numV a5)) sc3 rfl (fun _ hm => ((hm.1) rfl).1) (show ([numV a1, numV a2, numV a3, numV a4, numV a5, numV a6] : List Int)[4]? = some (numV a5) from rfl) rfl rfl) ?_
   refine wt 19 26 1048574 rfl z (ov_move rfl) ?_
   refine wt 20 26 2097150 rfl z (ov_index (j := 5) es22 rfl rfl (by omega)) ?_
   refine wt 21 26 4194302 rfl z (ov_elem1 (k := 0) (v := .int .i64 (numV a6)) sc3 rfl (fun _ hm => ((hm.1) rfl).1) (show ([numV a1, numV a2, numV a3, numV a4, numV a5, numV a6] : List Int)[5]? = some (numV a6) from rfl) rfl rfl) ?_
   refine wt 22 26 8388606 rfl z (ov_build (cs := [.string a0, .int .i64 (numV a1), .int .i64 (numV a2), .int .i64 (numV a3), .int .i64 (numV a4), .int .i64 (numV a5), .int .i64 (numV a6)]) rfl (by kernel_rfl)) ?_
   refine wa_all [0, 23] (by kernel_rfl) rfl ⟨⟨_, rfl, ?_⟩, ⟨_, rfl, ?_⟩, trivial⟩
   ·refine wl_ov (ov_load (v := .slice A n cc) sc26 rfl (fun _ hm => (rowBlk1 hm.k)) rfl) rfl ?_
    refine wl_nil ?_
    refine nw 26 8388607 (fun _ hm => ⟨hm.fa 0, hm.fa 1, hm.fa 2, trivial⟩) fun z => ?_
    refine wa1 23 rfl ?_
    refine wl_buildSlice (e := 38) (cs := [.string a0, .int .i64 (numV a1), .int .i64 (numV a2), .int .i64 (numV a3), .int .i64 (numV a4), .int .i64 (numV a5), .int .i64 (numV a6)]) rfl (by kernel_rfl) rfl fun g1 => ?_
    refine wl_nil ?_
    refine nw 26 16777215 (fun _ hm => ⟨hm.fa 0, hm.fa 1, hm.fa 2, trivial⟩) fun z => ?_
    refine wa1 24 rfl ?_
    refine wl_append (news := [.string a0, .int .i64 (numV a1), .int .i64 (numV a2), .int .i64 (numV a3), .int .i64 (numV a4), .int .i64 (numV a5), .int .i64 (numV a6)]) 0 0 ap26 rfl rfl rfl rfl rfl rfl rfl (by omega) (by unfold maxLen; omega) rfl rfl fun v2 hv => ?_
    refine wl_look (R := ∃ A cc, v2 = .slice A (n + 1) cc) (fun wx hm => own_slice (hm.ownI 0 rfl)) ?_
    rintro ⟨A5, c5, rfl⟩
    refine wl_nil ?_
    refine nw 26 33554431 (fun _ hm => ⟨hm.fa 0, hm.fa 1, hm.fa 2, trivial⟩) fun z => ?_
    refine wa1 25 rfl ?_
    refine wl_storeRow (l := [Value.slice A n cc]) (j := 0) (r := 0) (el := Value.slice A n cc) (el' := Value.slice A5 (n + 1) c5) rfl sc26' rfl rfl rfl sv_len rfl rfl rfl (by decide) rfl rfl ?_
    refine wl_nil ?_
    refine nw 26 67108863 (fun _ hm => ⟨hm.fa 0, hm.fa 1, hm.fa 2, trivial⟩) fun z => ?_
    refine wa_done (by kernel_rfl) ?_
    refine nx_then (sr_ (mv_ rfl (sg_ rfl (nn_ ?_))))
    refine gw_ret ?_
    rw [rrRd_yes hsix hw]
    rw [show acc.flatMap rtEnc ++ ([.string a0, .int .i64 (numV a1), .int .i64 (numV a2), .int .i64 (numV a3), .int .i64 (numV a4), .int .i64 (numV a5), .int .i64 (numV a6)] : List Value) = (acc ++ [(⟨a0, numV a1, numV a2, numV a3, numV a4, numV a5, numV a6⟩ : Rt)]).flatMap rtEnc from by simp [rtEnc]]
    refine nx_ret1 rfl rfl fun wx hm => ?_
    exact ⟨.slice A5 (n + 1) c5, n + 1, by rw [hsix], (hm.pick [] [0] [2] rfl rfl).cx⟩
   refine wl_buildSlice (e := 38) (cs := [.string a0, .int .i64 (numV a1), .int .i64 (numV a2), .int .i64 (numV a3), .int .i64 (numV a4), .int .i64 (numV a5), .int .i64 (numV a6)]) rfl (by kernel_rfl) rfl fun g2 => ?_
   refine wl_nil ?_
   refine nw 26 16777214 (fun _ hm => ⟨hm.fa 0, hm.fa 1, hm.fa 2, trivial⟩) fun z => ?_
   refine wa1 0 rfl ?_
   refine wl_ov (ov_load (v := .slice A n cc) sc26 rfl (fun _ hm => (rowBlk1 hm.k)) rfl) rfl ?_
   refine wl_nil ?_
   refine nw 26 16777215 (fun _ hm => ⟨hm.fa 0, hm.fa 1, hm.fa 2, trivial⟩) fun z => ?_
   refine wa1 24 rfl ?_
   refine wl_append (news := [.string a0, .int .i64 (numV a1), .int .i64 (numV a2), .int .i64 (numV a3), .int .i64 (numV a4), .int .i64 (numV a5), .int .i64 (numV a6)]) 0 0 ap26 rfl rfl rfl rfl rfl rfl rfl (by omega) (by unfold maxLen; omega) rfl rfl fun v2 hv => ?_
   refine wl_look (R := ∃ A cc, v2 = .slice A (n + 1) cc) (fun wx hm => own_slice (hm.ownI 0 rfl)) ?_
   rintro ⟨A5, c5, rfl⟩
   refine wl_nil ?_
   refine nw 26 33554431 (fun _ hm => ⟨hm.fa 0, hm.fa 1, hm.fa 2, trivial⟩) fun z => ?_
   refine wa1 25 rfl ?_
   refine wl_storeRow (l := [Value.slice A n cc]) (j := 0) (r := 0) (el := Value.slice A n cc) (el' := Value.slice A5 (n + 1) c5) rfl sc26' rfl rfl rfl sv_len rfl rfl rfl (by decide) rfl rfl ?_
   refine wl_nil ?_
   refine nw 26 67108863 (fun _ hm => ⟨hm.fa 0, hm.fa 1, hm.fa 2, trivial⟩) fun z => ?_
   refine wa_done (by kernel_rfl) ?_
   refine nx_then (sr_ (mv_ rfl (sg_ rfl (nn_ ?_))))
   refine gw_ret ?_
   rw [rrRd_yes hsix hw]
   rw [show acc.flatMap rtEnc ++ ([.string a0, .int .i64 (numV a1), .int .i64 (numV a2), .int .i64 (numV a3), .int .i64 (numV a4), .int .i64 (numV a5), .int .i64 (numV a6)] : List Value) = (acc ++ [(⟨a0, numV a1, numV a2, numV a3, numV a4, numV a5, numV a6⟩ : Rt)]).flatMap rtEnc from by simp [rtEnc]]
   refine nx_ret1 rfl rfl fun wx hm => ?_
   exact ⟨.slice A5 (n + 1) c5, n + 1, by rw [hsix], (hm.pick [] [0] [2] rfl rfl).cx⟩
  have hn : NB = false := by simpa using hh
  clear hh
  refine gw_skip (nx_then (sr_ ?_))
  rw [hn] at hsix
  refine mv_ rfl (sg_ rfl (nn_ ?_))
  refine gw_ret ?_
  rw [rrRd_no hsix]
  refine nx_ret1 rfl rfl fun wx hm => ?_
  exact ⟨v, n, by rw [hsix, hn], (hm.pick [] [0] [2] rfl rfl).cx⟩
 refine sg_ rfl (nn_ (sr_ (mv_ rfl ?_)))
 refine wl_callx (γ := Nat × Nat) (val := (fun g => .tuple #[.slice (some ⟨g.1, 0, none⟩) g.2 g.2, .bool (wdB t)])) (φ := (fun g => g.2 = (wdL t).length ∧ 1 ≤ g.2 ∧ g.2 ≤ t.size + 1)) (Y := (fun g => fun wy => SlT sgEnc 1 9 wy (some ⟨g.1, 0, none⟩) g.2 (wdL t))) rfl cb68 rfl rfl (fun wx hm => (words_any t wx (hm.fact 0 rfl).1 hts).mono fun _ _ ⟨gw, k, he, h1, h2, hg⟩ => ⟨(gw, k), he, ⟨h1.len.symm, h2⟩, hg, h1⟩) (fun _ => SlT.lasts2 rfl) ?_
 rintro ⟨gw, k⟩ hk
 dsimp only at hk ⊢
 refine mv_ rfl (wl_ov (ov_extract rfl rfl) rfl (wl_ov (ov_extract rfl rfl) rfl (sg_ rfl (sg_ rfl (nn_ (gw_seq (sr_ (mv_ rfl (wl_ov (ov_un_not rfl) rfl (mv_ rfl ?_))))))))))
 rcases Bool.eq_false_or_eq_true (!(wdB t)) with h1 | h1
 ·refine wl_set 14 rfl (congrArg Value.bool h1) ?_
  refine goff rfl rfl rfl (goff rfl rfl rfl (goff rfl rfl rfl (pt_ rfl rfl (nn_ (ct_ rfl (sr_ (sg_ rfl (nn_ ?_))))))))
  refine gw_ret ?_
  refine nx_then_ret ?_
  rw [rrRd_no (rrRd_wd h1)]
  refine nx_ret1 rfl rfl fun wx hm => ?_
  exact ⟨v, n, by rw [rrRd_wd h1], (hm.pick [] [0] [1] rfl rfl).cx⟩
 refine wl_set 14 rfl (congrArg Value.bool h1) ?_
 have hk2 : ¬ ((k : Nat) : Int) = 7 := by omega
 refine wl_guard_on rfl rfl rfl (mv_ rfl (wl_guard_on rfl rfl rfl (wl_ov (ov_len es112 rfl) rfl (wl_guard_on rfl rfl rfl (wl_ov (ov_neq rfl rfl) rfl (pf_ rfl rfl (nn_ ?_)))))))
 refine gw_cond rfl (fun hh => ?_) (fun hh => ?_)
 ·have hc : ¬ (((k : Nat) : Int) = 7) := by simpa using hh
  clear hh
  refine sr_ (sg_ rfl (nn_ ?_))
  refine gw_ret ?_
  refine nx_then_ret ?_
  rw [rrRd_no (rrRd_len h6)]
  refine nx_ret1 rfl rfl fun wx hm => ?_
  exact ⟨v, n, by rw [rrRd_len h6], (hm.pick [] [0] [1] rfl rfl).cx⟩
 have hc : ((k : Nat) : Int) = 7 := by simpa using hh
 clear hh
 refine gw_skip (nx_then (sr_ ?_))
 exact absurd (by simpa using hc) hk2
theorem rrRread1_any (t : ByteArray) (w0 w : World) (g n : Nat) (v : Value) (acc : List Rt) (hts : t.size ≤ 1000000) (hn : n ≤ 1000000) (hm : Mem ⟨0, w0, some g, [9, 3]⟩ (RowK 0 26 1 1 1 g ([v].flatMap svEnc)) [] [⟨v, 38, 7, n, (acc).flatMap rtEnc⟩] [TxtO w0.heap.size (some g)] w) :
  Calls Tryz.prog 71 #[.string t, .pointer (some ⟨g, 0, none⟩)] w (fun e w' => ∃ v' n', e = .returned (.bool (rrRdB t)) ∧ Mem ⟨0, w0, some g, [9, 3]⟩ (RowK 0 26 1 1 1 g ([v'].flatMap svEnc)) [] [⟨v', 38, 7, n', (rrRdA t acc).flatMap rtEnc⟩] [TxtO w0.heap.size (some g)] w') := by
 refine gw_enter ⟨53, w0, (some g), [9, 3]⟩ Tryz.func71 rfl Tryz.ntmps71 rfl hm.cx ?_
 refine sr_ ?_
 by_cases h6 : (wdL t).length = 7
 ·obtain ⟨a0, a1, a2, a3, a4, a5, a6, hw⟩ := rr_of h6
  have hwz := wdL_sz t
  rw [hw] at hwz
  have za0 : a0.size ≤ 1000000 := Nat.le_trans (hwz a0 (by simp)) hts
  have za1 : a1.size ≤ 1000000 := Nat.le_trans (hwz a1 (by simp)) hts
  have za2 : a2.size ≤ 1000000 := Nat.le_trans (hwz a2 (by simp)) hts
  have za3 : a3.size ≤ 1000000 := Nat.le_trans (hwz a3 (by simp)) hts
  have za4 : a4.size ≤ 1000000 := Nat.le_trans (hwz a4 (by simp)) hts
  have za5 : a5.size ≤ 1000000 := Nat.le_trans (hwz a5 (by simp)) hts
  have za6 : a6.size ≤ 1000000 := Nat.le_trans (hwz a6 (by simp)) hts
  refine sg_ rfl (nn_ (sr_ (mv_ rfl ?_)))
  refine wl_callx (γ := Nat × Nat) (val := (fun g => .tuple #[.slice (some ⟨g.1, 0, none⟩) g.2 g.2, .bool (wdB t)])) (φ := (fun g => g.2 = 7)) (Y := (fun g => fun wy => SlT sgEnc 1 9 wy (some ⟨g.1, 0, none⟩) g.2 ([a0, a1, a2, a3, a4, a5, a6]))) rfl cb72 rfl rfl (fun wx hm => (rwords_any t wx (hm.fact 0 rfl).1 hts).mono fun _ _ ⟨gw, k, he, h1, h2, hg⟩ => ⟨(gw, k), he, by have h := h1.len; rw [h6] at h; exact h.symm, hg, by rw [hw] at h1; exact h1⟩) (fun _ => SlT.lasts2 rfl) ?_
  rintro ⟨gw, k⟩ hk
  dsimp only at hk ⊢
  subst hk
  refine mv_ rfl (wl_ov (ov_extract rfl rfl) rfl (wl_ov (ov_extract rfl rfl) rfl (sg_ rfl (sg_ rfl (nn_ (gw_seq (sr_ (mv_ rfl (wl_ov (ov_un_not rfl) rfl (mv_ rfl ?_))))))))))
  rcases Bool.eq_false_or_eq_true (!(wdB t)) with h1 | h1
  ·refine wl_set 15 rfl (congrArg Value.bool h1) ?_
   refine goff rfl rfl rfl (goff rfl rfl rfl (goff rfl rfl rfl (pt_ rfl rfl (nn_ (ct_ rfl (sr_ (sg_ rfl (nn_ ?_))))))))
   refine gw_ret ?_
   refine nx_then_ret ?_
   rw [rrRd_no (rrRd_wd h1)]
   refine nx_ret1 rfl rfl fun wx hm => ?_
   exact ⟨v, n, by rw [rrRd_wd h1], (hm.pick [] [0] [1] rfl rfl).cx⟩
  refine wl_set 15 rfl (congrArg Value.bool h1) ?_
  refine wl_guard_on rfl rfl rfl (mv_ rfl (wl_guard_on rfl rfl rfl (wl_ov (ov_len es112 rfl) rfl ?_)))
  refine wl_set 17 (v' := .int .i64 7) rfl rfl ?_
  refine wl_guard_on rfl rfl rfl (wl_ov (ov_neq rfl rfl) rfl ?_)
  refine wl_set 18 (v' := .bool false) rfl (congrArg Value.bool (by decide)) ?_
  refine pf_ rfl rfl (nn_ (cf_ rfl (gw_skip (nx_then (sr_ (mv_ rfl ?_))))))
  refine wl_ov (ov_sliceLo (lo := 1) es112 rfl rfl rfl (by omega)) rfl ?_
  have hsix := rrRd_all h1 hw
  obtain ⟨NB, hNB⟩ : ∃ z, z = [a1, a2, a3, a4, a5, a6].all numB := ⟨_, rfl⟩
  rw [← hNB] at hsix
  refine wl_callx (γ := Option Addr × Nat × Nat) (val := (fun g => .tuple #[.slice g.1 g.2.1 g.2.2, .bool NB])) (φ := (fun g => True)) (Y := (fun g => fun wy => IfT NB (SlT tiEnc 1 3 wy g.1 g.2.1 [numV a1, numV a2, numV a3, numV a4, numV a5, numV a6] ∧ g.2.1 = 7 - 1))) rfl cb73 rfl rfl (fun wx hm => (by have h := rnumbers_any [a1, a2, a3, a4, a5, a6] (if 7 = 1 then (some ⟨gw, 0, none⟩) else Option.map (fun a : Addr => a.add (1 * 1)) (some ⟨gw, 0, none⟩)) (7 - 1) (7 - 1) wx (hm.fact 1 rfl).1 (SlT.dropS (c := 7) (hm.fact 0 rfl) 1 (by omega) (by omega)) (by omega) (fun x hx => by simp only [List.mem_cons, List.not_mem_nil, or_false] at hx; rcases hx with rfl | rfl | rfl | rfl | rfl | rfl <;> assumption); rw [← hNB] at h; exact h.mono fun _ _ ⟨A2, k, c2, he, h1, hg⟩ => ⟨(A2, k, c2), he, trivial, hg, h1⟩)) (fun _ => (SlT.lasts2 rfl).ift) ?_
  rintro ⟨nA, nk, nc⟩ hphi
  dsimp only
  clear hphi
  refine mv_ rfl (wl_ov (ov_extract rfl rfl) rfl (wl_ov (ov_extract rfl rfl) rfl (sg_ rfl (sg_ rfl (nn_ (gw_seq (sr_ (mv_ rfl (nn_ ?_)))))))))
  refine gw_cond rfl (fun hh => ?_) (fun hh => ?_)
  ·have hn : NB = true := by simpa using hh
   clear hh
   subst hn
   refine gw_look (R := nk = 6) (fun wx hm => ((hm.fact 0 rfl) rfl).2) ?_
   rintro rfl
   refine gw_look (R := ∃ b o, nA = some ⟨b, o, none⟩) (fun wx hm => by obtain ⟨b, off, hA, _, _⟩ := SlT.get ((hm.fact 0 rfl) rfl).1 (by omega); exact ⟨b, off, hA⟩) ?_
   rintro ⟨bn, on, rfl⟩
   refine gw_look (R := ∃ A cc, v = .slice A n cc) (fun wx hm => own_slice (hm.ownI 0 rfl)) ?_
   rintro ⟨A, cc, rfl⟩
   refine gd (fun wz => (fun wy => IfT true (SlT tiEnc 1 3 wy (some ⟨bn, on, none⟩) 6 [numV a1, numV a2, numV a3, numV a4, numV a5, numV a6] ∧ 6 = 7 - 1)) wz ∧ (fun wy => SlT sgEnc 1 9 wy (some ⟨gw, 0, none⟩) 7 ([a0, a1, a2, a3, a4, a5, a6])) wz ∧ (TxtO w0.heap.size (some g)) wz ∧ True) mixed (fun _ hm => ⟨hm.fa 0, hm.fa 1, hm.fa 2, trivial⟩) fun z => ?_
   refine wt 1 26 2 rfl z (ov_move rfl) ?_
   refine wt 2 26 6 rfl z (ov_index (j := 0) es112 rfl rfl (by decide)) ?_
   refine wt 3 26 14 rfl z (ov_elem1 (k := 0) (v := .string a0) sc9 rfl (fun _ hm => (hm.2.1)) (show ([a0, a1, a2, a3, a4, a5, a6] : List ByteArray)[0]? = some a0 from rfl) rfl rfl) ?_
   refine wt 4 26 30 rfl z (ov_move rfl) ?_
   refine wt 5 26 62 rfl z (ov_index (j := 0) es22 rfl rfl (by omega)) ?_
   refine wt 6 26 126 rfl z (ov_elem1 (k := 0) (v := .int .i64 (numV a1)) sc3 rfl (fun _ hm => ((hm.1) rfl).1) (show ([numV a1, numV a2, numV a3, numV a4, numV a5, numV a6] : List Int)[0]? = some (numV a1) from rfl) rfl rfl) ?_
   refine wt 7 26 254 rfl z (ov_move rfl) ?_
   refine wt 8 26 510 rfl z (ov_index (j := 1) es22 rfl rfl (by omega)) ?_
   refine wt 9 26 1022 rfl z (ov_elem1 (k := 0) (v := .int .i64 (numV a2)) sc3 rfl (fun _ hm => ((hm.1) rfl).1) (show ([numV a1, numV a2, numV a3, numV a4, numV a5, numV a6] : List Int)[1]? = some (numV a2) from rfl) rfl rfl) ?_
   refine wt 10 26 2046 rfl z (ov_move rfl) ?_
   refine wt 11 26 4094 rfl z (ov_index (j := 2) es22 rfl rfl (by omega)) ?_
   refine wt 12 26 8190 rfl z (ov_elem1 (k := 0) (v := .int .i64 (numV a3)) sc3 rfl (fun _ hm => ((hm.1) rfl).1) (show ([numV a1, numV a2, numV a3, numV a4, numV a5, numV a6] : List Int)[2]? = some (numV a3) from rfl) rfl rfl) ?_
   refine wt 13 26 16382 rfl z (ov_move rfl) ?_
   refine wt 14 26 32766 rfl z (ov_index (j := 3) es22 rfl rfl (by omega)) ?_
   refine wt 15 26 65534 rfl z (ov_elem1 (k := 0) (v := .int .i64 (numV a4)) sc3 rfl (fun _ hm => ((hm.1) rfl).1) (show ([numV a1, numV a2, numV a3, numV a4, numV a5, numV a6] : List Int)[3]? = some (numV a4) from rfl) rfl rfl) ?_
   refine wt 16 26 131070 rfl z (ov_move rfl) ?_
   refine wt 17 26 262142 rfl z (ov_index (j := 4) es22 rfl rfl (by omega)) ?_
   refine wt 18 26 524286 rfl z (ov_elem1 (k := 0) (v := .int .i64 (numV a5)) sc3 rfl (fun _ hm => ((hm.1) rfl).1) (show ([numV a1, numV a2, numV a3, numV a4, numV a5, numV a6] : List Int)[4]? = some (numV a5) from rfl) rfl rfl) ?_
   refine wt 19 26 1048574 rfl z (ov_move rfl) ?_
   refine wt 20 26 2097150 rfl z (ov_index (j := 5) es22 rfl rfl (by omega)) ?_
   refine wt 21 26 4194302 rfl z (ov_elem1 (k := 0) (v := .int .i64 (numV a6)) sc3 rfl (fun _ hm => ((hm.1) rfl).1) (show ([numV a1, numV a2, numV a3, numV a4, numV a5, numV a6] : List Int)[5]? = some (numV a6) from rfl) rfl rfl) ?_
   refine wt 22 26 8388606 rfl z (ov_build (cs := [.string a0, .int .i64 (numV a1), .int .i64 (numV a2), .int .i64 (numV a3), .int .i64 (numV a4), .int .i64 (numV a5), .int .i64 (numV a6)]) rfl (by kernel_rfl)) ?_
   refine wa_all [0, 23] (by kernel_rfl) rfl ⟨⟨_, rfl, ?_⟩, ⟨_, rfl, ?_⟩, trivial⟩
   ·refine wl_ov (ov_load (v := .slice A n cc) sc26 rfl (fun _ hm => (rowBlk1 hm.k)) rfl) rfl ?_
    refine wl_nil ?_
    refine nw 26 8388607 (fun _ hm => ⟨hm.fa 0, hm.fa 1, hm.fa 2, trivial⟩) fun z => ?_
    refine wa1 23 rfl ?_
    refine wl_buildSlice (e := 38) (cs := [.string a0, .int .i64 (numV a1), .int .i64 (numV a2), .int .i64 (numV a3), .int .i64 (numV a4), .int .i64 (numV a5), .int .i64 (numV a6)]) rfl (by kernel_rfl) rfl fun g1 => ?_
    refine wl_nil ?_
    refine nw 26 16777215 (fun _ hm => ⟨hm.fa 0, hm.fa 1, hm.fa 2, trivial⟩) fun z => ?_
    refine wa1 24 rfl ?_
    refine wl_append (news := [.string a0, .int .i64 (numV a1), .int .i64 (numV a2), .int .i64 (numV a3), .int .i64 (numV a4), .int .i64 (numV a5), .int .i64 (numV a6)]) 0 0 ap26 rfl rfl rfl rfl rfl rfl rfl (by omega) (by unfold maxLen; omega) rfl rfl fun v2 hv => ?_
    refine wl_look (R := ∃ A cc, v2 = .slice A (n + 1) cc) (fun wx hm => own_slice (hm.ownI 0 rfl)) ?_
    rintro ⟨A5, c5, rfl⟩
    refine wl_nil ?_
    refine nw 26 33554431 (fun _ hm => ⟨hm.fa 0, hm.fa 1, hm.fa 2, trivial⟩) fun z => ?_
    refine wa1 25 rfl ?_
    refine wl_storeRow (l := [Value.slice A n cc]) (j := 0) (r := 0) (el := Value.slice A n cc) (el' := Value.slice A5 (n + 1) c5) rfl sc26' rfl rfl rfl sv_len rfl rfl rfl (by decide) rfl rfl ?_
    refine wl_nil ?_
    refine nw 26 67108863 (fun _ hm => ⟨hm.fa 0, hm.fa 1, hm.fa 2, trivial⟩) fun z => ?_
    refine wa_done (by kernel_rfl) ?_
    refine nx_then (sr_ (mv_ rfl (sg_ rfl (nn_ ?_))))
    refine gw_ret ?_
    rw [rrRd_yes hsix hw]
    rw [show acc.flatMap rtEnc ++ ([.string a0, .int .i64 (numV a1), .int .i64 (numV a2), .int .i64 (numV a3), .int .i64 (numV a4), .int .i64 (numV a5), .int .i64 (numV a6)] : List Value) = (acc ++ [(⟨a0, numV a1, numV a2, numV a3, numV a4, numV a5, numV a6⟩ : Rt)]).flatMap rtEnc from by simp [rtEnc]]
    refine nx_ret1 rfl rfl fun wx hm => ?_
    exact ⟨.slice A5 (n + 1) c5, n + 1, by rw [hsix], (hm.pick [] [0] [2] rfl rfl).cx⟩
   refine wl_buildSlice (e := 38) (cs := [.string a0, .int .i64 (numV a1), .int .i64 (numV a2), .int .i64 (numV a3), .int .i64 (numV a4), .int .i64 (numV a5), .int .i64 (numV a6)]) rfl (by kernel_rfl) rfl fun g2 => ?_
   refine wl_nil ?_
   refine nw 26 16777214 (fun _ hm => ⟨hm.fa 0, hm.fa 1, hm.fa 2, trivial⟩) fun z => ?_
   refine wa1 0 rfl ?_
   refine wl_ov (ov_load (v := .slice A n cc) sc26 rfl (fun _ hm => (rowBlk1 hm.k)) rfl) rfl ?_
   refine wl_nil ?_
   refine nw 26 16777215 (fun _ hm => ⟨hm.fa 0, hm.fa 1, hm.fa 2, trivial⟩) fun z => ?_
   refine wa1 24 rfl ?_
   refine wl_append (news := [.string a0, .int .i64 (numV a1), .int .i64 (numV a2), .int .i64 (numV a3), .int .i64 (numV a4), .int .i64 (numV a5), .int .i64 (numV a6)]) 0 0 ap26 rfl rfl rfl rfl rfl rfl rfl (by omega) (by unfold maxLen; omega) rfl rfl fun v2 hv => ?_
   refine wl_look (R := ∃ A cc, v2 = .slice A (n + 1) cc) (fun wx hm => own_slice (hm.ownI 0 rfl)) ?_
   rintro ⟨A5, c5, rfl⟩
   refine wl_nil ?_
   refine nw 26 33554431 (fun _ hm => ⟨hm.fa 0, hm.fa 1, hm.fa 2, trivial⟩) fun z => ?_
   refine wa1 25 rfl ?_
   refine wl_storeRow (l := [Value.slice A n cc]) (j := 0) (r := 0) (el := Value.slice A n cc) (el' := Value.slice A5 (n + 1) c5) rfl sc26' rfl rfl rfl sv_len rfl rfl rfl (by decide) rfl rfl ?_
   refine wl_nil ?_
   refine nw 26 67108863 (fun _ hm => ⟨hm.fa 0, hm.fa 1, hm.fa 2, trivial⟩) fun z => ?_
   refine wa_done (by kernel_rfl) ?_
   refine nx_then (sr_ (mv_ rfl (sg_ rfl (nn_ ?_))))
   refine gw_ret ?_
   rw [rrRd_yes hsix hw]
   rw [show acc.flatMap rtEnc ++ ([.string a0, .int .i64 (numV a1), .int .i64 (numV a2), .int .i64 (numV a3), .int .i64 (numV a4), .int .i64 (numV a5), .int .i64 (numV a6)] : List Value) = (acc ++ [(⟨a0, numV a1, numV a2, numV a3, numV a4, numV a5, numV a6⟩ : Rt)]).flatMap rtEnc from by simp [rtEnc]]
   refine nx_ret1 rfl rfl fun wx hm => ?_
   exact ⟨.slice A5 (n + 1) c5, n + 1, by rw [hsix], (hm.pick [] [0] [2] rfl rfl).cx⟩
  have hn : NB = false := by simpa using hh
  clear hh
  refine gw_skip (nx_then (sr_ ?_))
  rw [hn] at hsix
  refine mv_ rfl (sg_ rfl (nn_ ?_))
  refine gw_ret ?_
  rw [rrRd_no hsix]
  refine nx_ret1 rfl rfl fun wx hm => ?_
  exact ⟨v, n, by rw [hsix, hn], (hm.pick [] [0] [2] rfl rfl).cx⟩
 refine sg_ rfl (nn_ (sr_ (mv_ rfl ?_)))
 refine wl_callx (γ := Nat × Nat) (val := (fun g => .tuple #[.slice (some ⟨g.1, 0, none⟩) g.2 g.2, .bool (wdB t)])) (φ := (fun g => g.2 = (wdL t).length ∧ 1 ≤ g.2 ∧ g.2 ≤ t.size + 1)) (Y := (fun g => fun wy => SlT sgEnc 1 9 wy (some ⟨g.1, 0, none⟩) g.2 (wdL t))) rfl cb72 rfl rfl (fun wx hm => (rwords_any t wx (hm.fact 0 rfl).1 hts).mono fun _ _ ⟨gw, k, he, h1, h2, hg⟩ => ⟨(gw, k), he, ⟨h1.len.symm, h2⟩, hg, h1⟩) (fun _ => SlT.lasts2 rfl) ?_
 rintro ⟨gw, k⟩ hk
 dsimp only at hk ⊢
 refine mv_ rfl (wl_ov (ov_extract rfl rfl) rfl (wl_ov (ov_extract rfl rfl) rfl (sg_ rfl (sg_ rfl (nn_ (gw_seq (sr_ (mv_ rfl (wl_ov (ov_un_not rfl) rfl (mv_ rfl ?_))))))))))
 rcases Bool.eq_false_or_eq_true (!(wdB t)) with h1 | h1
 ·refine wl_set 15 rfl (congrArg Value.bool h1) ?_
  refine goff rfl rfl rfl (goff rfl rfl rfl (goff rfl rfl rfl (pt_ rfl rfl (nn_ (ct_ rfl (sr_ (sg_ rfl (nn_ ?_))))))))
  refine gw_ret ?_
  refine nx_then_ret ?_
  rw [rrRd_no (rrRd_wd h1)]
  refine nx_ret1 rfl rfl fun wx hm => ?_
  exact ⟨v, n, by rw [rrRd_wd h1], (hm.pick [] [0] [1] rfl rfl).cx⟩
 refine wl_set 15 rfl (congrArg Value.bool h1) ?_
 have hk2 : ¬ ((k : Nat) : Int) = 7 := by omega
 refine wl_guard_on rfl rfl rfl (mv_ rfl (wl_guard_on rfl rfl rfl (wl_ov (ov_len es112 rfl) rfl (wl_guard_on rfl rfl rfl (wl_ov (ov_neq rfl rfl) rfl (pf_ rfl rfl (nn_ ?_)))))))
 refine gw_cond rfl (fun hh => ?_) (fun hh => ?_)
 ·have hc : ¬ (((k : Nat) : Int) = 7) := by simpa using hh
  clear hh
  refine sr_ (sg_ rfl (nn_ ?_))
  refine gw_ret ?_
  refine nx_then_ret ?_
  rw [rrRd_no (rrRd_len h6)]
  refine nx_ret1 rfl rfl fun wx hm => ?_
  exact ⟨v, n, by rw [rrRd_len h6], (hm.pick [] [0] [1] rfl rfl).cx⟩
 have hc : ((k : Nat) : Int) = 7 := by simpa using hh
 clear hh
 refine gw_skip (nx_then (sr_ ?_))
 exact absurd (by simpa using hc) hk2
theorem rrWl_any (t : ByteArray) (g : Nat) (w : World) (hts : t.size ≤ 200000) (hb : Blk w g 26 [.slice none 0 0]) (htx : TxtO w.heap.size (some g) w) :
  Calls Tryz.prog 66 #[.string t, .func (.func 67) #[] #[.pointer (some ⟨g, 0, none⟩)]] w (fun e w' => ∃ v n, e = .returned (.tuple #[.int .i64 (rrR t).1, .bool (rrR t).2.1]) ∧ Blk w' g 26 [v] ∧ w'.ownsRow w.heap.size 38 7 v n ((rrR t).2.2.flatMap rtEnc) ∧ w.grownBy w' (some g)) := by
 refine gw_enter ⟨30, w, (some g), [9, 3]⟩ Tryz.func66 rfl Tryz.ntmps66 rfl (memR (X := [TxtO w.heap.size (some g)]) (blkRow1 hb) (allF_cons htx allF_nil) (allL_cons TxtO.lasts allL_nil)) ?_
 refine sr_ (sg_ rfl (sg_ rfl (nn_ (gw_seq (sr_ (sg_ rfl (nn_ (gw_block ?_))))))))
 refine gw_nilOwn 38 7 ?_
 refine gw_loop (γ := Nat × ByteArray × Int × Value × List Rt) (fun (gz : Nat × ByteArray × Int × Value × List Rt) => gz.2.1.size < gz.1 ∧ gz.2.1.size ≤ t.size ∧ rrR t = linesF rrStep gz.1 gz.2.1 gz.2.2.1 gz.2.2.2.2 ∧ 0 ≤ gz.2.2.1 ∧ gz.2.2.1 + gz.2.1.size ≤ t.size ∧ gz.2.2.2.2.length + gz.2.1.size ≤ t.size) (fun (gz : Nat × ByteArray × Int × Value × List Rt) => [(0, .string gz.2.1), (1, .func (.func 67) #[] #[.pointer (some ⟨g, 0, none⟩)]), (6, .int .i64 gz.2.2.1)]) (fun (gz : Nat × ByteArray × Int × Value × List Rt) => RowK 0 26 1 1 1 g ([gz.2.2.2.1].flatMap svEnc)) (fun (gz : Nat × ByteArray × Int × Value × List Rt) => []) (fun (gz : Nat × ByteArray × Int × Value × List Rt) => [⟨gz.2.2.2.1, 38, 7, gz.2.2.2.2.length, gz.2.2.2.2.flatMap rtEnc⟩]) (fun (gz : Nat × ByteArray × Int × Value × List Rt) => [TxtO w.heap.size (some g)]) (fun (gz : Nat × ByteArray × Int × Value × List Rt) => gz.1) (t.size + 1, t, 0, .slice none 0 0, []) ⟨Nat.lt_succ_self _, Nat.le_refl _, rfl, Int.le_refl _, by dsimp only; omega, by simp⟩ ⟨rfl, rfl, rfl, trivial⟩ (fun _ hm => hm.pick [] [0] [0] rfl rfl) ?_
 rintro ⟨f, u, at_, v, acc⟩ hinv
 replace hinv : u.size < f ∧ u.size ≤ t.size ∧ rrR t = linesF rrStep f u at_ acc ∧ 0 ≤ at_ ∧ at_ + u.size ≤ t.size ∧ acc.length + u.size ≤ t.size := hinv
 dsimp only
 refine gw_seq (sr_ ?_)
 obtain ⟨hf, hu, hR, ha0, ha1, hacc⟩ := hinv
 refine mv_ rfl (wl_ov (ov_sneq rfl rfl) rfl (nn_ ?_))
 refine gw_cond rfl (fun hh => ?_) (fun hh => ?_)
 ·have he : (u.toList == (⟨#[]⟩ : ByteArray).toList) = false := by simpa using hh
  clear hh
  refine gw_skip (nx_then (gw_seq (gw_block (sr_ ?_))))
  replace he : (u.toList == (⟨#[]⟩ : ByteArray).toList) = false := by simpa using he
  have hu1 := size_pos he
  obtain ⟨⟨c1, c2, cf⟩, hcut⟩ : ∃ z, cutS u nlS = z := ⟨_, rfl⟩
  have hsz := cut_sz u nlS (by decide)
  rw [hcut] at hsz
  obtain ⟨hs1, hs2, hs3⟩ := hsz
  have hs1 : c1.size ≤ u.size := hs1
  have hs2 : cf = true → 1 ≤ u.size → c2.size + 1 ≤ u.size := hs2
  refine mv_ rfl ?_
  refine wl_callv (v := .tuple #[.string c1, .string c2, .bool cf]) rfl cb163 rfl rfl (fun wx hm => (by have h := cut_any u nlS wx (hm.fact 0 rfl).1 (by omega); rw [hcut] at h; exact h)) ?_
  refine mv_ rfl (wl_ov (ov_extract rfl rfl) rfl (wl_ov (ov_extract rfl rfl) rfl (wl_ov (ov_extract rfl rfl) rfl (sg_ rfl (sg_ rfl (sg_ rfl (nn_ (gw_seq (sr_ (mv_ rfl (wl_ov (ov_un_not rfl) rfl ?_)))))))))))
  refine mv_ rfl ?_
  rcases Bool.eq_false_or_eq_true (!cf) with hcf | hcf
  ·refine wl_set 22 rfl (congrArg Value.bool hcf) ?_
   replace hcf : cf = false := by simpa using hcf
   subst hcf
   refine goff rfl rfl rfl (goff rfl rfl rfl (goff rfl rfl rfl (goff rfl rfl rfl (pt_ rfl rfl (nn_ (ct_ rfl (sr_ (mv_ rfl (sg_ rfl (sg_ rfl (wl_nil ?_)))))))))))
   refine nx_then ?_
   refine gw_ret ?_
   refine nx_then_ret (nx_blk_ret (nx_then_ret (nx_then_ret (nx_blk_ret (nx_then_ret ?_)))))
   refine nx_ret2 rfl rfl rfl fun wx hm => ?_
   have hR2 := hR.trans (lns_open hf he hcut)
   rw [hR2]
   exact ⟨_, _, rfl, rowBlk1 hm.k, hm.ownI 0 rfl, hm.g⟩
  refine wl_set 22 rfl (congrArg Value.bool hcf) ?_
  replace hcf : cf = true := by simpa using hcf
  subst hcf
  have hs2 := hs2 rfl hu1
  refine wl_guard_on rfl rfl rfl (mv_ rfl (wl_guard_on rfl rfl rfl (mv_ rfl (wl_guard_on rfl rfl rfl ?_))))
  refine wl_callG (γ := Value) (val := fun _ => .bool (rrRdB c1)) (φ := fun _ => True) (K' := fun z => RowK 0 26 1 1 1 g ([z].flatMap svEnc)) (L' := fun _ => []) (O' := fun z => [⟨z, 38, 7, (rrRdA c1 acc).length, (rrRdA c1 acc).flatMap rtEnc⟩]) (X' := fun _ => [TxtO w.heap.size (some g)]) rfl cb67 rfl rfl (fun wx hm => (rrRead1_any c1 w wx g acc.length v acc (by omega) (by omega) (hm.pick [] [0] [0] rfl rfl).cx).mono fun e w' ⟨v', n', he, hM⟩ => by
   obtain rfl : n' = (rrRdA c1 acc).length := rrOwn_n (hM.ownI 0 rfl)
   exact ⟨v', he, trivial, hM.cx⟩) ?_
  rintro v1 _
  have hrl := rrRdA_len c1 acc
  refine wl_guard_on rfl rfl rfl (wl_ov (ov_un_not rfl) rfl (pf_ rfl rfl (nn_ ?_)))
  refine gw_cond rfl (fun hh => ?_) (fun hh => ?_)
  ·have hr : (rrRdB c1) = false := by simpa using hh
   clear hh
   refine sr_ ?_
   replace hr : rrRdB c1 = false := by simpa using hr
   refine mv_ rfl (sg_ rfl (sg_ rfl (nn_ ?_)))
   refine gw_ret ?_
   refine nx_then_ret (nx_blk_ret (nx_then_ret (nx_then_ret (nx_blk_ret (nx_then_ret ?_)))))
   refine nx_ret2 rfl rfl rfl fun wx hm => ?_
   have hR2 := hR.trans (lns_no hf he hcut hr)
   rw [hR2]
   exact ⟨_, _, rfl, rowBlk1 hm.k, hm.ownI 0 rfl, hm.g⟩
  have hr : (rrRdB c1) = true := by simpa using hh
  clear hh
  refine gw_skip (nx_then (gw_region ?_))
  replace hr : rrRdB c1 = true := by simpa using hr
  refine mv_ rfl (sg_ rfl (wl_nil (nx_blk_nrm (nx_then (gw_region (mv_ rfl (ad_ rfl rfl (sg_ rfl (wl_nil ?_)))))))))
  exact nx_round (f - 1, c2, at_ + 1, v1, rrRdA c1 acc) ⟨by dsimp only; omega, by dsimp only; omega, hR.trans (lns_go hf he hcut hr), by dsimp only; omega, by dsimp only; omega, by dsimp only; omega⟩ (by dsimp only; omega) ⟨rfl, rfl, rfl, trivial⟩ (fun _ hm => hm.pick [] [0] [0] rfl rfl)
 have he : (u.toList == (⟨#[]⟩ : ByteArray).toList) = true := by simpa using hh
 clear hh
 refine gw_exit ?_
 refine nx_then_exit (nx_then_exit ?_)
 refine nx_blk_here ?_
 refine nx_then (sr_ (sg_ rfl (sg_ rfl (nn_ ?_))))
 refine gw_ret ?_
 refine nx_ret2 rfl rfl rfl fun wx hm => ?_
 have hR2 := hR.trans (lns_nil hf (by simpa using he))
 rw [hR2]
 exact ⟨_, _, rfl, rowBlk1 hm.k, hm.ownI 0 rfl, hm.g⟩
theorem rrRl_any (t : ByteArray) (g : Nat) (w : World) (hts : t.size ≤ 200000) (hb : Blk w g 26 [.slice none 0 0]) (htx : TxtO w.heap.size (some g) w) :
  Calls Tryz.prog 70 #[.string t, .func (.func 71) #[] #[.pointer (some ⟨g, 0, none⟩)]] w (fun e w' => ∃ v n, e = .returned (.tuple #[.int .i64 (rrR t).1, .bool (rrR t).2.1]) ∧ Blk w' g 26 [v] ∧ w'.ownsRow w.heap.size 38 7 v n ((rrR t).2.2.flatMap rtEnc) ∧ w.grownBy w' (some g)) := by
 refine gw_enter ⟨30, w, (some g), [9, 3]⟩ Tryz.func70 rfl Tryz.ntmps70 rfl (memR (X := [TxtO w.heap.size (some g)]) (blkRow1 hb) (allF_cons htx allF_nil) (allL_cons TxtO.lasts allL_nil)) ?_
 refine sr_ (sg_ rfl (sg_ rfl (nn_ (gw_seq (sr_ (sg_ rfl (nn_ (gw_block ?_))))))))
 refine gw_nilOwn 38 7 ?_
 refine gw_loop (γ := Nat × ByteArray × Int × Value × List Rt) (fun (gz : Nat × ByteArray × Int × Value × List Rt) => gz.2.1.size < gz.1 ∧ gz.2.1.size ≤ t.size ∧ rrR t = linesF rrStep gz.1 gz.2.1 gz.2.2.1 gz.2.2.2.2 ∧ 0 ≤ gz.2.2.1 ∧ gz.2.2.1 + gz.2.1.size ≤ t.size ∧ gz.2.2.2.2.length + gz.2.1.size ≤ t.size) (fun (gz : Nat × ByteArray × Int × Value × List Rt) => [(0, .string gz.2.1), (1, .func (.func 71) #[] #[.pointer (some ⟨g, 0, none⟩)]), (6, .int .i64 gz.2.2.1)]) (fun (gz : Nat × ByteArray × Int × Value × List Rt) => RowK 0 26 1 1 1 g ([gz.2.2.2.1].flatMap svEnc)) (fun (gz : Nat × ByteArray × Int × Value × List Rt) => []) (fun (gz : Nat × ByteArray × Int × Value × List Rt) => [⟨gz.2.2.2.1, 38, 7, gz.2.2.2.2.length, gz.2.2.2.2.flatMap rtEnc⟩]) (fun (gz : Nat × ByteArray × Int × Value × List Rt) => [TxtO w.heap.size (some g)]) (fun (gz : Nat × ByteArray × Int × Value × List Rt) => gz.1) (t.size + 1, t, 0, .slice none 0 0, []) ⟨Nat.lt_succ_self _, Nat.le_refl _, rfl, Int.le_refl _, by dsimp only; omega, by simp⟩ ⟨rfl, rfl, rfl, trivial⟩ (fun _ hm => hm.pick [] [0] [0] rfl rfl) ?_
 rintro ⟨f, u, at_, v, acc⟩ hinv
 replace hinv : u.size < f ∧ u.size ≤ t.size ∧ rrR t = linesF rrStep f u at_ acc ∧ 0 ≤ at_ ∧ at_ + u.size ≤ t.size ∧ acc.length + u.size ≤ t.size := hinv
 dsimp only
 refine gw_seq (sr_ ?_)
 obtain ⟨hf, hu, hR, ha0, ha1, hacc⟩ := hinv
 refine mv_ rfl (wl_ov (ov_sneq rfl rfl) rfl (nn_ ?_))
 refine gw_cond rfl (fun hh => ?_) (fun hh => ?_)
 ·have he : (u.toList == (⟨#[]⟩ : ByteArray).toList) = false := by simpa using hh
  clear hh
  refine gw_skip (nx_then (gw_seq (gw_block (sr_ ?_))))
  replace he : (u.toList == (⟨#[]⟩ : ByteArray).toList) = false := by simpa using he
  have hu1 := size_pos he
  obtain ⟨⟨c1, c2, cf⟩, hcut⟩ : ∃ z, cutS u nlS = z := ⟨_, rfl⟩
  have hsz := cut_sz u nlS (by decide)
  rw [hcut] at hsz
  obtain ⟨hs1, hs2, hs3⟩ := hsz
  have hs1 : c1.size ≤ u.size := hs1
  have hs2 : cf = true → 1 ≤ u.size → c2.size + 1 ≤ u.size := hs2
  refine mv_ rfl ?_
  refine wl_callv (v := .tuple #[.string c1, .string c2, .bool cf]) rfl cb163 rfl rfl (fun wx hm => (by have h := cut_any u nlS wx (hm.fact 0 rfl).1 (by omega); rw [hcut] at h; exact h)) ?_
  refine mv_ rfl (wl_ov (ov_extract rfl rfl) rfl (wl_ov (ov_extract rfl rfl) rfl (wl_ov (ov_extract rfl rfl) rfl (sg_ rfl (sg_ rfl (sg_ rfl (nn_ (gw_seq (sr_ (mv_ rfl (wl_ov (ov_un_not rfl) rfl ?_)))))))))))
  refine mv_ rfl ?_
  rcases Bool.eq_false_or_eq_true (!cf) with hcf | hcf
  ·refine wl_set 22 rfl (congrArg Value.bool hcf) ?_
   replace hcf : cf = false := by simpa using hcf
   subst hcf
   refine goff rfl rfl rfl (goff rfl rfl rfl (goff rfl rfl rfl (goff rfl rfl rfl (pt_ rfl rfl (nn_ (ct_ rfl (sr_ (mv_ rfl (sg_ rfl (sg_ rfl (wl_nil ?_)))))))))))
   refine nx_then ?_
   refine gw_ret ?_
   refine nx_then_ret (nx_blk_ret (nx_then_ret (nx_then_ret (nx_blk_ret (nx_then_ret ?_)))))
   refine nx_ret2 rfl rfl rfl fun wx hm => ?_
   have hR2 := hR.trans (lns_open hf he hcut)
   rw [hR2]
   exact ⟨_, _, rfl, rowBlk1 hm.k, hm.ownI 0 rfl, hm.g⟩
  refine wl_set 22 rfl (congrArg Value.bool hcf) ?_
  replace hcf : cf = true := by simpa using hcf
  subst hcf
  have hs2 := hs2 rfl hu1
  refine wl_guard_on rfl rfl rfl (mv_ rfl (wl_guard_on rfl rfl rfl (mv_ rfl (wl_guard_on rfl rfl rfl ?_))))
  refine wl_callG (γ := Value) (val := fun _ => .bool (rrRdB c1)) (φ := fun _ => True) (K' := fun z => RowK 0 26 1 1 1 g ([z].flatMap svEnc)) (L' := fun _ => []) (O' := fun z => [⟨z, 38, 7, (rrRdA c1 acc).length, (rrRdA c1 acc).flatMap rtEnc⟩]) (X' := fun _ => [TxtO w.heap.size (some g)]) rfl cb71 rfl rfl (fun wx hm => (rrRread1_any c1 w wx g acc.length v acc (by omega) (by omega) (hm.pick [] [0] [0] rfl rfl).cx).mono fun e w' ⟨v', n', he, hM⟩ => by
   obtain rfl : n' = (rrRdA c1 acc).length := rrOwn_n (hM.ownI 0 rfl)
   exact ⟨v', he, trivial, hM.cx⟩) ?_
  rintro v1 _
  have hrl := rrRdA_len c1 acc
  refine wl_guard_on rfl rfl rfl (wl_ov (ov_un_not rfl) rfl (pf_ rfl rfl (nn_ ?_)))
  refine gw_cond rfl (fun hh => ?_) (fun hh => ?_)
  ·have hr : (rrRdB c1) = false := by simpa using hh
   clear hh
   refine sr_ ?_
   replace hr : rrRdB c1 = false := by simpa using hr
   refine mv_ rfl (sg_ rfl (sg_ rfl (nn_ ?_)))
   refine gw_ret ?_
   refine nx_then_ret (nx_blk_ret (nx_then_ret (nx_then_ret (nx_blk_ret (nx_then_ret ?_)))))
   refine nx_ret2 rfl rfl rfl fun wx hm => ?_
   have hR2 := hR.trans (lns_no hf he hcut hr)
   rw [hR2]
   exact ⟨_, _, rfl, rowBlk1 hm.k, hm.ownI 0 rfl, hm.g⟩
  have hr : (rrRdB c1) = true := by simpa using hh
  clear hh
  refine gw_skip (nx_then (gw_region ?_))
  replace hr : rrRdB c1 = true := by simpa using hr
  refine mv_ rfl (sg_ rfl (wl_nil (nx_blk_nrm (nx_then (gw_region (mv_ rfl (ad_ rfl rfl (sg_ rfl (wl_nil ?_)))))))))
  exact nx_round (f - 1, c2, at_ + 1, v1, rrRdA c1 acc) ⟨by dsimp only; omega, by dsimp only; omega, hR.trans (lns_go hf he hcut hr), by dsimp only; omega, by dsimp only; omega, by dsimp only; omega⟩ (by dsimp only; omega) ⟨rfl, rfl, rfl, trivial⟩ (fun _ hm => hm.pick [] [0] [0] rfl rfl)
 have he : (u.toList == (⟨#[]⟩ : ByteArray).toList) = true := by simpa using hh
 clear hh
 refine gw_exit ?_
 refine nx_then_exit (nx_then_exit ?_)
 refine nx_blk_here ?_
 refine nx_then (sr_ (sg_ rfl (sg_ rfl (nn_ ?_))))
 refine gw_ret ?_
 refine nx_ret2 rfl rfl rfl fun wx hm => ?_
 have hR2 := hR.trans (lns_nil hf (by simpa using he))
 rw [hR2]
 exact ⟨_, _, rfl, rowBlk1 hm.k, hm.ownI 0 rfl, hm.g⟩
theorem rrRead_any (t : ByteArray) (w : World) (htx : TxtW w) (hts : t.size ≤ 1000000000) :
  Calls Tryz.prog 13 #[.string t] w (rrReadK t w) := by
 refine gw_enter ⟨27, w, none, []⟩ Tryz.func13 rfl Tryz.ntmps13 rfl (mem0 (X := [TxtO w.heap.size none]) (allF_cons htx.old allF_nil) (allL_cons TxtO.lasts allL_nil)) ?_
 refine sr_ (sg_ rfl (sg_ rfl (sg_ rfl (nn_ (gw_seq (sr_ (mv_ rfl ?_)))))))
 refine wl_ov (ov_lens us9 rfl) rfl ?_
 refine wl_ov (ov_gtr rfl rfl) rfl ?_
 refine nn_ ?_
 refine gw_cond rfl (fun hh => ?_) (fun hh => ?_)
 ·have hb : 200000 < ((t).size : Int) := by simpa using hh
  clear hh
  refine sr_ (sg_ rfl (sg_ rfl (sg_ rfl (nn_ ?_))))
  refine gw_ret ?_
  refine nx_then_ret ?_
  refine nx_ret3 rfl rfl rfl rfl fun wx hm => ?_
  exact rrReadK.nil (rr_big (by omega)) hm.g
 have hb : ¬ (200000 < ((t).size : Int)) := by simpa using hh
 clear hh
 refine gw_skip (nx_then (sr_ ?_))
 have hb : ¬ 200000 < t.size := by omega
 obtain ⟨hok, hll⟩ := rrR_all (t := t) (by omega)
 refine wl_alloc zc26 rfl fun g1 => ?_
 refine nn_ (sr_ (mv_ rfl (wl_ov (ov_makeFunc rfl rfl) rfl ?_)))
 refine wl_callG (γ := Value) (val := fun _ => .tuple #[.int .i64 (rrR t).1, .bool (rrR t).2.1]) (φ := fun _ => True) (K' := fun _ => (fun _ => True)) (L' := fun z => [(g1, 26, [z])]) (O' := fun z => [⟨z, 38, 7, (rrR t).2.2.length, (rrR t).2.2.flatMap rtEnc⟩]) (X' := fun _ => [TxtO w.heap.size none]) rfl cb66 rfl rfl (fun wx hm => (rrWl_any t g1 wx (by omega) (hm.blkI 0 rfl) ((hm.fact 0 rfl).here (hm.b _ (List.mem_singleton.2 rfl)).1)).mono fun e w' ⟨v', n', he, hb, ho, hg⟩ => by
  obtain rfl : n' = (rrR t).2.2.length := rrOwn_n ho
  exact ⟨v', he, trivial, hm.handed hg hb ho (fun A hA => by rw [List.mem_singleton.1 hA]; exact ⟨fun _ _ => TxtO.far _ _, List.mem_of_getElem? (i := 0) rfl⟩)⟩) ?_
 rintro v1 _
 refine wl_look (R := ∃ A cc, v1 = .slice A ((rrR t).2.2.length) cc) (fun wx hm => own_slice (hm.ownI 0 rfl)) ?_
 rintro ⟨A, cc, rfl⟩
 refine mv_ rfl (wl_ov (ov_extract rfl rfl) rfl (wl_ov (ov_extract rfl rfl) rfl (sg_ rfl (sg_ rfl (nn_ (gw_seq (sr_ (mv_ rfl (wl_ov (ov_un_not rfl) rfl (nn_ ?_))))))))))
 refine gw_cond rfl (fun hh => ?_) (fun hh => ?_)
 ·have ho : ((rrR t).2.1) = false := by simpa using hh
  clear hh
  refine sr_ ?_
  replace ho : (rrR t).2.1 = false := by simpa using ho
  refine mv_ rfl (sg_ rfl (sg_ rfl (sg_ rfl (nn_ ?_))))
  refine gw_ret ?_
  refine nx_then_ret ?_
  refine nx_ret3 rfl rfl rfl rfl fun wx hm => ?_
  exact rrReadK.nil (rr_bad hb ho) hm.g
 have ho : ((rrR t).2.1) = true := by simpa using hh
 clear hh
 refine gw_skip (nx_then (gw_seq (sr_ ?_)))
 replace ho : (rrR t).2.1 = true := by simpa using ho
 refine lk_ sc26 0 rfl rfl rfl ?_
 refine wl_callv rfl cb59 rfl rfl (fun wx hm => (checkRates_any (rrR t).2.2 A _ cc wx (SlT.ofOwn rt_len (hm.ownI 0 rfl) rfl) hok (by omega))) ?_
 refine sg_ rfl (nn_ (sr_ (mv_ rfl (wl_ov (ov_neq rfl rfl) rfl (nn_ ?_)))))
 refine gw_cond rfl (fun hh => ?_) (fun hh => ?_)
 ·have hf : ¬ (ratesE (rrR t).2.2 = 0) := by simpa using hh
  clear hh
  refine sr_ (mv_ rfl (sg_ rfl (sg_ rfl (sg_ rfl (nn_ ?_)))))
  refine gw_ret ?_
  refine nx_then_ret ?_
  refine nx_ret3 rfl rfl rfl rfl fun wx hm => ?_
  exact rrReadK.nil (rr_form hb ho hf) hm.g
 have hf : ratesE (rrR t).2.2 = 0 := by simpa using hh
 clear hh
 refine gw_skip (nx_then (sr_ ?_))
 replace hf : ratesE (rrR t).2.2 = 0 := by simpa using hf
 have hR := rr_right hb ho hf
 refine lk_ sc26 0 rfl rfl rfl (sg_ rfl (sg_ rfl (sg_ rfl (nn_ ?_))))
 refine gw_ret ?_
 refine nx_ret3 rfl rfl rfl rfl fun wx hm => ?_
 exact ⟨A, _, cc, by rw [hR.1, hR.2.1], by rw [hR.2.2]; exact SlT.ofOwn rt_len (hm.ownI 0 rfl) rfl, hm.g⟩
theorem rrRref_any (t : ByteArray) (w : World) (htx : TxtW w) (hts : t.size ≤ 1000000000) :
  Calls Tryz.prog 14 #[.string t] w (rrReadK t w) := by
 refine gw_enter ⟨27, w, none, []⟩ Tryz.func14 rfl Tryz.ntmps14 rfl (mem0 (X := [TxtO w.heap.size none]) (allF_cons htx.old allF_nil) (allL_cons TxtO.lasts allL_nil)) ?_
 refine sr_ (sg_ rfl (sg_ rfl (sg_ rfl (nn_ (gw_seq (sr_ (mv_ rfl ?_)))))))
 refine wl_ov (ov_lens us9 rfl) rfl ?_
 refine wl_ov (ov_gtr rfl rfl) rfl ?_
 refine nn_ ?_
 refine gw_cond rfl (fun hh => ?_) (fun hh => ?_)
 ·have hb : 200000 < ((t).size : Int) := by simpa using hh
  clear hh
  refine sr_ (sg_ rfl (sg_ rfl (sg_ rfl (nn_ ?_))))
  refine gw_ret ?_
  refine nx_then_ret ?_
  refine nx_ret3 rfl rfl rfl rfl fun wx hm => ?_
  exact rrReadK.nil (rr_big (by omega)) hm.g
 have hb : ¬ (200000 < ((t).size : Int)) := by simpa using hh
 clear hh
 refine gw_skip (nx_then (sr_ ?_))
 have hb : ¬ 200000 < t.size := by omega
 obtain ⟨hok, hll⟩ := rrR_all (t := t) (by omega)
 refine wl_alloc zc26 rfl fun g1 => ?_
 refine nn_ (sr_ (mv_ rfl (wl_ov (ov_makeFunc rfl rfl) rfl ?_)))
 refine wl_callG (γ := Value) (val := fun _ => .tuple #[.int .i64 (rrR t).1, .bool (rrR t).2.1]) (φ := fun _ => True) (K' := fun _ => (fun _ => True)) (L' := fun z => [(g1, 26, [z])]) (O' := fun z => [⟨z, 38, 7, (rrR t).2.2.length, (rrR t).2.2.flatMap rtEnc⟩]) (X' := fun _ => [TxtO w.heap.size none]) rfl cb70 rfl rfl (fun wx hm => (rrRl_any t g1 wx (by omega) (hm.blkI 0 rfl) ((hm.fact 0 rfl).here (hm.b _ (List.mem_singleton.2 rfl)).1)).mono fun e w' ⟨v', n', he, hb, ho, hg⟩ => by
  obtain rfl : n' = (rrR t).2.2.length := rrOwn_n ho
  exact ⟨v', he, trivial, hm.handed hg hb ho (fun A hA => by rw [List.mem_singleton.1 hA]; exact ⟨fun _ _ => TxtO.far _ _, List.mem_of_getElem? (i := 0) rfl⟩)⟩) ?_
 rintro v1 _
 refine wl_look (R := ∃ A cc, v1 = .slice A ((rrR t).2.2.length) cc) (fun wx hm => own_slice (hm.ownI 0 rfl)) ?_
 rintro ⟨A, cc, rfl⟩
 refine mv_ rfl (wl_ov (ov_extract rfl rfl) rfl (wl_ov (ov_extract rfl rfl) rfl (sg_ rfl (sg_ rfl (nn_ (gw_seq (sr_ (mv_ rfl (wl_ov (ov_un_not rfl) rfl (nn_ ?_))))))))))
 refine gw_cond rfl (fun hh => ?_) (fun hh => ?_)
 ·have ho : ((rrR t).2.1) = false := by simpa using hh
  clear hh
  refine sr_ ?_
  replace ho : (rrR t).2.1 = false := by simpa using ho
  refine mv_ rfl (sg_ rfl (sg_ rfl (sg_ rfl (nn_ ?_))))
  refine gw_ret ?_
  refine nx_then_ret ?_
  refine nx_ret3 rfl rfl rfl rfl fun wx hm => ?_
  exact rrReadK.nil (rr_bad hb ho) hm.g
 have ho : ((rrR t).2.1) = true := by simpa using hh
 clear hh
 refine gw_skip (nx_then (gw_seq (sr_ ?_)))
 replace ho : (rrR t).2.1 = true := by simpa using ho
 refine lk_ sc26 0 rfl rfl rfl ?_
 refine wl_callv rfl cb10 rfl rfl (fun wx hm => (ratesFault_any (rrR t).2.2 A _ cc wx (SlT.ofOwn rt_len (hm.ownI 0 rfl) rfl) hok (by omega))) ?_
 refine sg_ rfl (nn_ (sr_ (mv_ rfl (wl_ov (ov_neq rfl rfl) rfl (nn_ ?_)))))
 refine gw_cond rfl (fun hh => ?_) (fun hh => ?_)
 ·have hf : ¬ (ratesE (rrR t).2.2 = 0) := by simpa using hh
  clear hh
  refine sr_ (mv_ rfl (sg_ rfl (sg_ rfl (sg_ rfl (nn_ ?_)))))
  refine gw_ret ?_
  refine nx_then_ret ?_
  refine nx_ret3 rfl rfl rfl rfl fun wx hm => ?_
  exact rrReadK.nil (rr_form hb ho hf) hm.g
 have hf : ratesE (rrR t).2.2 = 0 := by simpa using hh
 clear hh
 refine gw_skip (nx_then (sr_ ?_))
 replace hf : ratesE (rrR t).2.2 = 0 := by simpa using hf
 have hR := rr_right hb ho hf
 refine lk_ sc26 0 rfl rfl rfl (sg_ rfl (sg_ rfl (sg_ rfl (nn_ ?_))))
 refine gw_ret ?_
 refine nx_ret3 rfl rfl rfl rfl fun wx hm => ?_
 exact ⟨A, _, cc, by rw [hR.1, hR.2.1], by rw [hR.2.2]; exact SlT.ofOwn rt_len (hm.ownI 0 rfl) rfl, hm.g⟩
end Go.Proofs.YtnpcbfllnkiopaaGreatDoor
namespace Go.Proofs.YtnpcbfllnkiopaaGreatDoor
open Go.RowKit
theorem str_pos {t : ByteArray} (h : (t.toList == (⟨#[]⟩ : ByteArray).toList) = false) : 1 ≤ t.size := by
  by_cases h0 : t.size = 0
  · have e : t = ⟨#[]⟩ := by
      cases t with
      | mk a => exact congrArg ByteArray.mk (Array.eq_empty_of_size_eq_zero h0)
    rw [e] at h; simp at h
  · omega
theorem extract_hi2 (s : ByteArray) (i : Nat) : (s.extract 0 i).size ≤ i := by
  rw [ByteArray.size_extract]; omega
theorem extract_lo2 (s : ByteArray) (i : Nat) : (s.extract i s.size).size ≤ s.size - i := by
  rw [ByteArray.size_extract]; omega
theorem gchanged_any (tx wi : ByteArray) (w : World) (B sb m : Nat) (hS : Strm 25 w B sb m) (hm : m ≤ 100000000000) (htx : tx.size ≤ 1000000) (hwi : wi.size ≤ 1000) :
  Calls Tryz.prog 35 #[.pointer (some ⟨sb, 0, none⟩), .string tx, .string wi] w (fun e w' => ∃ v : ByteArray, e = .returned (.string v) ∧ v.size ≤ tx.size + wi.size + 4 ∧ Strm 25 w' B sb (m + 3) ∧ w.grownBy w' (some sb)) := by
 refine gw_enter ⟨63, w, (some sb), []⟩ Tryz.func35 rfl Tryz.ntmps35 rfl (memS (X := []) hS allF_nil allL_nil) ?_
 refine sr_ (sg_ rfl (nn_ (gw_seq (sr_ (mv_ rfl (wl_ov (ov_seql rfl rfl) rfl (mv_ rfl ?_)))))))
 rcases Bool.eq_false_or_eq_true (tx.toList == (⟨#[]⟩ : ByteArray).toList) with h1 | h1
 ·refine wl_set 11 rfl (congrArg Value.bool h1) ?_
  refine goff rfl rfl rfl (goff rfl rfl rfl (pt_ rfl rfl (nn_ (ct_ rfl (sr_ (mv_ rfl (sg_ rfl (nn_ ?_))))))))
  refine gw_ret ?_
  refine nx_then_ret ?_
  refine nx_ret1 rfl rfl fun wx hm => ?_
  exact ⟨wi, rfl, (by (try simp only [ByteArray.size_append]); omega), hm.k.more (by omega), hm.g⟩
 refine wl_set 11 rfl (congrArg Value.bool h1) ?_
 refine wl_guard_on rfl rfl rfl (mv_ rfl (wl_guard_on rfl rfl rfl (wl_ov (ov_seql rfl rfl) rfl (pf_ rfl rfl (nn_ ?_)))))
 refine gw_cond rfl (fun hh => ?_) (fun hh => ?_)
 ·have h2 : (wi.toList == (⟨#[]⟩ : ByteArray).toList) = true := by simpa using hh
  clear hh
  refine sr_ (mv_ rfl (sg_ rfl (nn_ ?_)))
  refine gw_ret ?_
  refine nx_then_ret ?_
  refine nx_ret1 rfl rfl fun wx hm => ?_
  exact ⟨wi, rfl, (by (try simp only [ByteArray.size_append]); omega), hm.k.more (by omega), hm.g⟩
 have h2 : (wi.toList == (⟨#[]⟩ : ByteArray).toList) = false := by simpa using hh
 clear hh
 refine gw_skip (nx_then (sr_ ?_))
 have htx1 := str_pos h1
 have hwi1 := str_pos h2
 refine mv_ rfl (mv_ rfl ?_)
 refine wl_ov (ov_lens us9 rfl) rfl ?_
 refine wl_got (γ := Int) (val := fun v => .int .i64 v) (φ := fun v => IsBelow ((tx).size : Int) v) rfl cb56 rfl rfl rfl rfl (fun wx hm => (next_any _ wx B sb _ hm.k (by omega) (by omega) (by omega))) fun va hva => ?_
 have ha := isBelow_lt hva (by omega)
 refine sg_ rfl (nn_ (sr_ (mv_ rfl (mv_ rfl (mv_ rfl ?_)))))
 refine wl_ov (ov_lens us9 rfl) rfl ?_
 refine wl_got (γ := Int) (val := fun v => .int .i64 v) (φ := fun v => IsBelow ((wi).size : Int) v) rfl cb56 rfl rfl rfl rfl (fun wx hm => (next_any _ wx B sb _ hm.k (by omega) (by omega) (by omega))) fun vb hvb => ?_
 have hb := isBelow_lt hvb (by omega)
 have hbd := byteAt_bd wi vb
 refine wl_ov (ov_strIx us9 rfl rfl (by omega) (by omega)) rfl ?_
 refine sg_ rfl (nn_ (gw_seq (sr_ (mv_ rfl ?_))))
 refine wl_got (γ := Int) (val := fun v => .int .i64 v) (φ := fun v => IsBelow 3 v) rfl cb56 rfl rfl rfl rfl (fun wx hm => (next_any _ wx B sb _ hm.k (by omega) (by omega) (by omega))) fun vc hvc => ?_
 have e1 := extract_hi2 tx va.toNat
 have e2 := extract_lo2 tx (va + 1).toNat
 have e3 := encode_size (byteAt wi vb)
 have e4 := extract_lo2 tx va.toNat
 refine nn_ (gw_block (sr_ (wl_ov (ov_eql rfl rfl) rfl (sg_ rfl (nn_ ?_)))))
 refine gw_cond rfl (fun hh => ?_) (fun hh => ?_)
 ·have hc1 : vc = 0 := by simpa using hh
  clear hh
  refine gw_seq ?_
  refine gd (fun wz => True) mixed (fun _ _ => trivial) fun z => ?_
  refine wt 0 13 1 rfl z (ov_move rfl) ?_
  refine wt 1 13 3 rfl z (ov_move rfl) ?_
  refine wt 2 13 7 rfl z (ov_strHi us9 rfl rfl (by omega) (by omega)) ?_
  refine wt 3 13 15 rfl z (ov_move rfl) ?_
  refine wt 4 13 31 rfl z (ov_toI32 (by kernel_rfl) (by kernel_rfl) rfl (by omega) (by omega)) ?_
  refine wt 5 13 63 rfl z (ov_runeStr (by kernel_rfl) us9 rfl) ?_
  refine wt 6 13 127 rfl z (ov_sadd rfl rfl (by (try simp only [ByteArray.size_append]); omega)) ?_
  refine wt 7 13 255 rfl z (ov_move rfl) ?_
  refine wt 8 13 511 rfl z (ov_move rfl) ?_
  refine wt 9 13 1023 rfl z (ov_add rfl rfl (by omega) (by omega)) ?_
  refine wt 10 13 2047 rfl z (ov_strLo us9 rfl rfl (by omega) (by omega)) ?_
  refine wt 11 13 4095 rfl z (ov_sadd rfl rfl (by (try simp only [ByteArray.size_append]); omega)) ?_
  refine wt 12 13 8191 rfl z (ov_assign rfl) ?_
  refine wa_done (by kernel_rfl) ?_
  refine nx_then ?_
  refine gw_ret ?_
  refine nx_blk_ret (nx_then_ret ?_)
  refine nx_ret1 rfl rfl fun wx hm => ?_
  exact ⟨((tx.extract 0 va.toNat) ++ (Utf8.encode (byteAt wi vb))) ++ (tx.extract (va + 1).toNat tx.size), rfl, (by (try simp only [ByteArray.size_append]); omega), hm.k.more (by omega), hm.g⟩
 have hc1 : ¬ (vc = 0) := by simpa using hh
 clear hh
 refine sr_ (wl_ov (ov_eql rfl rfl) rfl (sg_ rfl (nn_ ?_)))
 refine gw_cond rfl (fun hh => ?_) (fun hh => ?_)
 ·have hc2 : vc = 1 := by simpa using hh
  clear hh
  refine gw_seq ?_
  refine gd (fun wz => True) mixed (fun _ _ => trivial) fun z => ?_
  refine wt 0 12 1 rfl z (ov_move rfl) ?_
  refine wt 1 12 3 rfl z (ov_move rfl) ?_
  refine wt 2 12 7 rfl z (ov_strHi us9 rfl rfl (by omega) (by omega)) ?_
  refine wt 3 12 15 rfl z (ov_move rfl) ?_
  refine wt 4 12 31 rfl z (ov_toI32 (by kernel_rfl) (by kernel_rfl) rfl (by omega) (by omega)) ?_
  refine wt 5 12 63 rfl z (ov_runeStr (by kernel_rfl) us9 rfl) ?_
  refine wt 6 12 127 rfl z (ov_sadd rfl rfl (by (try simp only [ByteArray.size_append]); omega)) ?_
  refine wt 7 12 255 rfl z (ov_move rfl) ?_
  refine wt 8 12 511 rfl z (ov_move rfl) ?_
  refine wt 9 12 1023 rfl z (ov_strLo us9 rfl rfl (by omega) (by omega)) ?_
  refine wt 10 12 2047 rfl z (ov_sadd rfl rfl (by (try simp only [ByteArray.size_append]); omega)) ?_
  refine wt 11 12 4095 rfl z (ov_assign rfl) ?_
  refine wa_done (by kernel_rfl) ?_
  refine nx_then ?_
  refine gw_ret ?_
  refine nx_blk_ret (nx_then_ret ?_)
  refine nx_ret1 rfl rfl fun wx hm => ?_
  exact ⟨((tx.extract 0 va.toNat) ++ (Utf8.encode (byteAt wi vb))) ++ (tx.extract va.toNat tx.size), rfl, (by (try simp only [ByteArray.size_append]); omega), hm.k.more (by omega), hm.g⟩
 have hc2 : ¬ (vc = 1) := by simpa using hh
 clear hh
 refine gw_skip (nx_blk_nrm (nx_then (gw_seq ?_)))
 refine gd (fun wz => True) mixed (fun _ _ => trivial) fun z => ?_
 refine wt 0 9 1 rfl z (ov_move rfl) ?_
 refine wt 1 9 3 rfl z (ov_move rfl) ?_
 refine wt 2 9 7 rfl z (ov_strHi us9 rfl rfl (by omega) (by omega)) ?_
 refine wt 3 9 15 rfl z (ov_move rfl) ?_
 refine wt 4 9 31 rfl z (ov_move rfl) ?_
 refine wt 5 9 63 rfl z (ov_add rfl rfl (by omega) (by omega)) ?_
 refine wt 6 9 127 rfl z (ov_strLo us9 rfl rfl (by omega) (by omega)) ?_
 refine wt 7 9 255 rfl z (ov_sadd rfl rfl (by (try simp only [ByteArray.size_append]); omega)) ?_
 refine wt 8 9 511 rfl z (ov_assign rfl) ?_
 refine wa_done (by kernel_rfl) ?_
 refine nx_then ?_
 refine gw_ret ?_
 refine nx_ret1 rfl rfl fun wx hm => ?_
 exact ⟨(tx.extract 0 va.toNat) ++ (tx.extract (va + 1).toNat tx.size), rfl, (by (try simp only [ByteArray.size_append]); omega), hm.k.more (by omega), hm.g⟩
end Go.Proofs.YtnpcbfllnkiopaaGreatDoor
namespace Go.Proofs.YtnpcbfllnkiopaaGreatDoor
open Go.RowKit
def RtPos (r : Rt) : Prop := 0 ≤ r.to_ ∧ r.to_ ≤ 4001
theorem rt_pos {l : List Rt} (h : ratesE l = 0) : ∀ r ∈ l, RtPos r := fun r hr => by
  have h1 := ((ratesE_ok h).2.2 r hr).2.1
  exact ⟨by omega, h1.2.2⟩
theorem rateP_yes {c : ByteArray} {d : Int} {r : Rt} (h : (r.cls.toList == c.toList) = true) : inB d r.fr (r.to_ - 1) = rateP c d r := by unfold rateP; rw [h]; rfl
theorem rateP_no {c : ByteArray} {d : Int} {r : Rt} (h : (r.cls.toList == c.toList) = false) : false = rateP c d r := by unfold rateP; rw [h]; rfl
theorem ratePred (cl : ByteArray) (fr tt ho dd we wk : Int) (gc gd : Nat) (c : ByteArray) (d : Int) (w : World) (hc : Blk w gc 9 [.string c]) (hd : Blk w gd 3 [.int .i64 d]) (h0 : 0 ≤ tt) (h1 : tt ≤ 4001) :
  Calls Tryz.prog 296 #[.agg #[.string cl, .int .i64 fr, .int .i64 tt, .int .i64 ho, .int .i64 dd, .int .i64 we, .int .i64 wk], .pointer (some ⟨gc, 0, none⟩), .pointer (some ⟨gd, 0, none⟩)] w (fun e w' => e = .returned (.bool (rateP c d ⟨cl, fr, tt, ho, dd, we, wk⟩)) ∧ w.grownBy w' none) := by
 refine gw_enter ⟨18, w, none, []⟩ Tryz.func296 rfl Tryz.ntmps296 rfl (mem0 (X := [BlkOld w.heap.size none gc 9 [.string c], BlkOld w.heap.size none gd 3 [.int .i64 d]]) (allF_cons hc.old (allF_cons hd.old allF_nil)) (allL_cons BlkOld.lasts (allL_cons BlkOld.lasts allL_nil))) ?_
 refine sr_ ?_
 refine wl_box rfl rfl rfl fun g1 => ?_
 refine sg_ rfl (nn_ (sr_ (fd_ fo38_0 rfl rfl (lk_ sc9 0 rfl rfl rfl ?_))))
 refine wl_ov (ov_load (v := .string c) sc9 rfl (fun _ hm => (hm.fact 0 rfl).2) rfl) rfl ?_
 refine wl_ov (ov_seql rfl rfl) rfl (mv_ rfl ?_)
 rcases Bool.eq_false_or_eq_true (cl.toList == c.toList) with h | h
 ·refine wl_set 9 rfl (congrArg Value.bool h) ?_
  refine wl_guard_on rfl rfl rfl ?_
  refine wl_ov (ov_load (v := .int .i64 d) sc3 rfl (fun _ hm => (hm.fact 1 rfl).2) rfl) rfl ?_
  refine wl_guard_on rfl rfl rfl (fd_ fo38_1 rfl rfl (wl_guard_on rfl rfl rfl (lk_ sc3 0 rfl rfl rfl (wl_guard_on rfl rfl rfl (fd_ fo38_2 rfl rfl (wl_guard_on rfl rfl rfl (lk_ sc3 0 rfl rfl rfl (wl_guard_on rfl rfl rfl ?_))))))))
  refine wl_ov (ov_sub rfl rfl (by omega) (by omega)) rfl ?_
  refine wl_guard_on rfl rfl rfl ?_
  refine wl_callw rfl cb154 rfl rfl (fun wx hm => (in_any _ _ _ wx)) ?_
  refine pt_ rfl rfl (sg_ rfl (nn_ ?_))
  refine gw_ret ?_
  refine nx_ret1 rfl rfl fun wx hm => ?_
  exact ⟨by rw [← rateP_yes (r := ⟨cl, fr, tt, ho, dd, we, wk⟩) h], hm.g⟩
 refine wl_set 9 rfl (congrArg Value.bool h) ?_
 refine goff rfl rfl rfl (goff rfl rfl rfl (goff rfl rfl rfl (goff rfl rfl rfl (goff rfl rfl rfl (goff rfl rfl rfl (goff rfl rfl rfl (pf_ rfl rfl (sg_ rfl (nn_ ?_)))))))))
 refine gw_ret ?_
 refine nx_ret1 rfl rfl fun wx hm => ?_
 exact ⟨by rw [← rateP_no (r := ⟨cl, fr, tt, ho, dd, we, wk⟩) h], hm.g⟩
theorem index_rate (l : List Rt) (A : Option Addr) (n c0 : Nat) (gc gd : Nat) (c : ByteArray) (d : Int) (w : World) (hl : SlT rtEnc 7 38 w A n l) (hn : n ≤ 1000000) (hpos : ∀ r ∈ l, RtPos r) (hc : Blk w gc 9 [.string c]) (hd : Blk w gd 3 [.int .i64 d]) :
  Calls Tryz.prog 295 #[.slice A n c0, .func (.func 296) #[] #[.pointer (some ⟨gc, 0, none⟩), .pointer (some ⟨gd, 0, none⟩)]] w (GotE w (ixP (rateP c d) l 0)) := by
 refine gw_enter ⟨19, w, none, []⟩ Tryz.func295 rfl Tryz.ntmps295 rfl (mem0 (X := [SlOld rtEnc 7 38 w.heap.size none A n l, BlkOld w.heap.size none gc 9 [.string c], BlkOld w.heap.size none gd 3 [.int .i64 d]]) (allF_cons hl.old (allF_cons hc.old (allF_cons hd.old allF_nil))) (allL_cons SlOld.lasts (allL_cons BlkOld.lasts (allL_cons BlkOld.lasts allL_nil)))) ?_
 refine sr_ ?_
 have hlen := hl.len
 refine sg_ rfl (nn_ (gw_seq (sr_ (mv_ rfl (wl_ov (ov_len es26 rfl) rfl (mv_ rfl (nn_ (gw_block ?_))))))))
 refine gw_loop (γ := Nat) (fun (k : Nat) => k ≤ n ∧ ixP (rateP c d) l 0 = ixP (rateP c d) (l.drop k) k) (fun (k : Nat) => [(0, .slice A n c0), (1, .func (.func 296) #[] #[.pointer (some ⟨gc, 0, none⟩), .pointer (some ⟨gd, 0, none⟩)]), (7, .int .i64 ((n : Nat) : Int)), (8, .int .i64 ((k : Nat) : Int))]) (fun (k : Nat) => fun _ => True) (fun (k : Nat) => []) (fun (k : Nat) => []) (fun (k : Nat) => [SlOld rtEnc 7 38 w.heap.size none A n l, BlkOld w.heap.size none gc 9 [.string c], BlkOld w.heap.size none gd 3 [.int .i64 d]]) (fun (k : Nat) => n - k) 0 ⟨Nat.zero_le _, rfl⟩ ⟨rfl, rfl, rfl, rfl, trivial⟩ (fun _ hm => hm.pick [] [] [0, 1, 2] rfl rfl) ?_
 intro k hinv
 replace hinv : k ≤ n ∧ ixP (rateP c d) l 0 = ixP (rateP c d) (l.drop k) k := hinv
 refine sr_ (wl_ov (ov_lss rfl rfl) rfl (nn_ (gw_seq ?_)))
 refine gw_cond rfl (fun hh => ?_) (fun hh => ?_)
 ·have hk : ((k : Nat) : Int) < ((n : Nat) : Int) := by simpa using hh
  clear hh
  refine gw_skip (nx_then (gw_seq (gw_block (sr_ ?_))))
  obtain ⟨b, off, hA, _, _⟩ := hl.get (by omega)
  subst hA
  obtain ⟨x, hx⟩ : ∃ x, l[k]? = some x := ⟨_, List.getElem?_eq_getElem (by omega)⟩
  obtain ⟨cl, fr, tt, ho, dd, we, wk⟩ := x
  have hat := ixP_at (p := rateP c d) hx
  obtain ⟨hp0, hp1⟩ := hpos _ (List.mem_of_getElem? hx)
  refine mv_ rfl (sg_ rfl (nn_ (sr_ (mv_ rfl (mv_ rfl (mv_ rfl ?_))))))
  refine wl_ov (ov_index (j := k) es26 rfl rfl (by omega)) rfl ?_
  refine wl_ov (ov_elem (vs := [.string cl, .int .i64 fr, .int .i64 tt, .int .i64 ho, .int .i64 dd, .int .i64 we, .int .i64 wk]) rz38 rfl (fun _ hm => (hm.fact 0 rfl).1) hx rfl rfl) rfl ?_
  refine wl_callv rfl cb296 rfl rfl (fun wx hm => (ratePred cl fr tt ho dd we wk gc gd c d wx (hm.fact 1 rfl).2 (hm.fact 2 rfl).2 hp0 hp1)) ?_
  refine nn_ ?_
  refine gw_cond rfl (fun hh => ?_) (fun hh => ?_)
  ·have hq : (rateP c d ⟨cl, fr, tt, ho, dd, we, wk⟩) = true := by simpa using hh
   clear hh
   refine sr_ (mv_ rfl (sg_ rfl (nn_ ?_)))
   refine gw_ret ?_
   refine nx_blk_ret (nx_then_ret (nx_then_ret (nx_blk_ret (nx_then_ret ?_))))
   refine nx_ret1 rfl rfl fun wx hm => ?_
   exact ⟨ret_int (by rw [hinv.2, hat, if_pos hq]), hm.g⟩
  have hq : (rateP c d ⟨cl, fr, tt, ho, dd, we, wk⟩) = false := by simpa using hh
  clear hh
  refine gw_skip (nx_blk_nrm (nx_then (gw_region (ad_ rfl rfl (mv_ rfl (wl_nil ?_))))))
  exact nx_round (k + 1) ⟨by omega, by rw [hinv.2, hat, if_neg (by rw [hq]; decide)]⟩ (by omega) ⟨rfl, rfl, rfl, (some_int (by omega)), trivial⟩ (fun _ hm => hm.pick [] [] [0, 1, 2] rfl rfl)
 have hk : ¬ (((k : Nat) : Int) < ((n : Nat) : Int)) := by simpa using hh
 clear hh
 refine gw_exit ?_
 refine nx_then_exit (nx_then_exit ?_)
 refine nx_blk_here ?_
 refine nx_then (sr_ (sg_ rfl ?_))
 refine wl_set 4 (v' := .int .i64 (-1)) rfl rfl ?_
 refine nn_ ?_
 refine gw_ret ?_
 refine nx_ret1 rfl rfl fun wx hm => ?_
 exact ⟨ret_int (by rw [hinv.2, List.drop_eq_nil_of_le (by omega)]; rfl), hm.g⟩
theorem rateOn_any (l : List Rt) (A : Option Addr) (n c0 : Nat) (c : ByteArray) (d : Int) (w : World) (hl : SlT rtEnc 7 38 w A n l) (hn : n ≤ 1000000) (hpos : ∀ r ∈ l, RtPos r) :
  Calls Tryz.prog 240 #[.slice A n c0, .string c, .int .i64 d] w (GotE w (ixP (rateP c d) l 0)) := by
 refine gw_enter ⟨10, w, none, []⟩ Tryz.func240 rfl Tryz.ntmps240 rfl (mem0 (X := [SlOld rtEnc 7 38 w.heap.size none A n l]) (allF_cons hl.old allF_nil) (allL_cons SlOld.lasts allL_nil)) ?_
 refine sr_ ?_
 refine wl_box rfl rfl rfl fun g1 => ?_
 refine wl_box rfl rfl rfl fun g2 => ?_
 refine sg_ rfl (nn_ (sr_ (mv_ rfl (wl_ov (ov_makeFunc rfl rfl) rfl ?_))))
 refine wl_callv rfl cb295 rfl rfl (fun wx hm => (index_rate l A n c0 _ _ c d wx (hm.fact 0 rfl).1 hn hpos (hm.blkI 1 rfl) (hm.blkI 0 rfl))) ?_
 refine sg_ rfl (nn_ ?_)
 refine gw_ret ?_
 refine nx_ret1 rfl rfl fun wx hm => ?_
 exact ⟨rfl, hm.g⟩
theorem timeE_okT {a b : Int} (h : timeE a b = 0) : 0 ≤ a ∧ a < b ∧ b ≤ 5761439 := by
  unfold timeE at h
  split at h
  · cases h
  · omega
theorem timeE_days {a b : Int} (h : timeE a b = 0) : 1 ≤ daysV a b ∧ daysV a b ≤ 120 := by
  obtain ⟨h0, h1, h2⟩ := timeE_okT h
  unfold timeE at h
  rw [if_neg (by omega)] at h
  have h3 : ¬ 120 < daysV a b := fun e => by rw [decide_eq_true e] at h; exact absurd h (by decide)
  unfold daysV at h3 ⊢; omega
end Go.Proofs.YtnpcbfllnkiopaaGreatDoor
namespace Go.Proofs.YtnpcbfllnkiopaaGreatDoor
open Go.RowKit
def itEnc (z : Int) : List Value := [.int .i64 z]
theorem it_len (z : Int) : (itEnc z).length = 1 := rfl
theorem slice_cut {b o i mm c : Nat} (h : i < c) : Value.slice (if c = i then (some ⟨b, o, none⟩ : Option Addr) else Option.map (fun a : Addr => a.add (i * 1)) (some ⟨b, o, none⟩)) (i + mm - i) (c - i) = .slice (some ⟨b, o + i, none⟩) mm (c - i) := by
  rw [if_neg (by omega), Nat.add_sub_cancel_left]
  simp only [Option.map_some, Nat.mul_one, Value.slice.injEq, Option.some.injEq, and_self, and_true]
  exact add_addr b o i
theorem SlT.cut {α : Type} {enc : α → List Value} {T : TypeId} {w : World} {b o n i mm : Nat} {l : List α} (h : SlT enc 1 T w (some ⟨b, o, none⟩) n l) (h1 : i + mm ≤ n) (h2 : i < n) : SlT enc 1 T w (some ⟨b, o + i, none⟩) mm ((l.drop i).take mm) := by
  have hb := h.between i (i + mm) (by omega) h1 (Nat.le_refl n)
  rw [if_neg (by omega), Nat.add_sub_cancel_left] at hb
  simp only [Option.map_some, Nat.mul_one] at hb
  rw [add_addr] at hb
  exact hb
theorem index_int (l : List Int) (A : Option Addr) (n c0 : Nat) (x : Int) (w : World) (hl : SlT itEnc 1 3 w A n l) (hn : n ≤ 1000000) :
  Calls Tryz.prog 349 #[.slice A n c0, .int .i64 x] w (GotE w (ixP (fun y => decide (x = y)) l 0)) := by
 refine gw_enter ⟨19, w, none, []⟩ Tryz.func349 rfl Tryz.ntmps349 rfl (mem0 (X := [SlOld itEnc 1 3 w.heap.size none A n l]) (allF_cons hl.old allF_nil) (allL_cons SlOld.lasts allL_nil)) ?_
 refine sr_ ?_
 have hlen := hl.len
 refine sg_ rfl (nn_ (gw_seq (sr_ (mv_ rfl (wl_ov (ov_len es22 rfl) rfl (mv_ rfl (nn_ (gw_block ?_))))))))
 refine gw_loop (γ := Nat) (fun (k : Nat) => k ≤ n ∧ ixP (fun y => decide (x = y)) l 0 = ixP (fun y => decide (x = y)) (l.drop k) k) (fun (k : Nat) => [(0, .slice A n c0), (1, .int .i64 x), (7, .int .i64 ((n : Nat) : Int)), (8, .int .i64 ((k : Nat) : Int))]) (fun (k : Nat) => fun _ => True) (fun (k : Nat) => []) (fun (k : Nat) => []) (fun (k : Nat) => [SlOld itEnc 1 3 w.heap.size none A n l]) (fun (k : Nat) => n - k) 0 ⟨Nat.zero_le _, rfl⟩ ⟨rfl, rfl, rfl, rfl, trivial⟩ (fun _ hm => hm.pick [] [] [0] rfl rfl) ?_
 intro k hinv
 replace hinv : k ≤ n ∧ ixP (fun y => decide (x = y)) l 0 = ixP (fun y => decide (x = y)) (l.drop k) k := hinv
 refine sr_ (wl_ov (ov_lss rfl rfl) rfl (nn_ (gw_seq ?_)))
 refine gw_cond rfl (fun hh => ?_) (fun hh => ?_)
 ·have hk : ((k : Nat) : Int) < ((n : Nat) : Int) := by simpa using hh
  clear hh
  refine gw_skip (nx_then (gw_seq (gw_block (sr_ ?_))))
  obtain ⟨b, off, hA, _, _⟩ := hl.get (by omega)
  subst hA
  obtain ⟨z0, hx⟩ : ∃ x, l[k]? = some x := ⟨_, List.getElem?_eq_getElem (by omega)⟩
  have hat := ixP_at (p := fun y => decide (x = y)) hx
  refine mv_ rfl (sg_ rfl (nn_ (sr_ (mv_ rfl (mv_ rfl (mv_ rfl ?_))))))
  refine wl_ov (ov_index (j := k) es22 rfl rfl (by omega)) rfl ?_
  refine wl_ov (ov_elem1 (k := 0) (v := .int .i64 z0) sc3 rfl (fun _ hm => (hm.fact 0 rfl).1) hx rfl rfl) rfl ?_
  refine wl_ov (ov_eql rfl rfl) rfl (nn_ ?_)
  refine gw_cond rfl (fun hh => ?_) (fun hh => ?_)
  ·have hq : x = z0 := by simpa using hh
   clear hh
   refine sr_ (mv_ rfl (sg_ rfl (nn_ ?_)))
   refine gw_ret ?_
   refine nx_blk_ret (nx_then_ret (nx_then_ret (nx_blk_ret (nx_then_ret ?_))))
   refine nx_ret1 rfl rfl fun wx hm => ?_
   exact ⟨ret_int (by rw [hinv.2, hat, if_pos (decide_eq_true hq)]), hm.g⟩
  have hq : ¬ (x = z0) := by simpa using hh
  clear hh
  refine gw_skip (nx_blk_nrm (nx_then (gw_region (ad_ rfl rfl (mv_ rfl (wl_nil ?_))))))
  exact nx_round (k + 1) ⟨by omega, by rw [hinv.2, hat, if_neg (by rw [decide_eq_false hq]; decide)]⟩ (by omega) ⟨rfl, rfl, rfl, (some_int (by omega)), trivial⟩ (fun _ hm => hm.pick [] [] [0] rfl rfl)
 have hk : ¬ (((k : Nat) : Int) < ((n : Nat) : Int)) := by simpa using hh
 clear hh
 refine gw_exit ?_
 refine nx_then_exit (nx_then_exit ?_)
 refine nx_blk_here ?_
 refine nx_then (sr_ (sg_ rfl ?_))
 refine wl_set 4 (v' := .int .i64 (-1)) rfl rfl ?_
 refine nn_ ?_
 refine gw_ret ?_
 refine nx_ret1 rfl rfl fun wx hm => ?_
 exact ⟨ret_int (by rw [hinv.2, List.drop_eq_nil_of_le (by omega)]; rfl), hm.g⟩
theorem contains_int (l : List Int) (A : Option Addr) (n c0 : Nat) (x : Int) (w : World) (hl : SlT itEnc 1 3 w A n l) (hn : n ≤ 1000000) :
  Calls Tryz.prog 297 #[.slice A n c0, .int .i64 x] w (fun e w' => e = .returned (.bool (decide (x ∈ l))) ∧ w.grownBy w' none) := by
 refine gw_enter ⟨9, w, none, []⟩ Tryz.func297 rfl Tryz.ntmps297 rfl (mem0 (X := [SlOld itEnc 1 3 w.heap.size none A n l]) (allF_cons hl.old allF_nil) (allL_cons SlOld.lasts allL_nil)) ?_
 refine sr_ (sg_ rfl (nn_ (sr_ (mv_ rfl (mv_ rfl ?_)))))
 refine wl_callv rfl cb349 rfl rfl (fun wx hm => (index_int l A n c0 x wx (hm.fact 0 rfl).1 hn)) ?_
 refine wl_ov (ov_geq rfl rfl) rfl ?_
 refine sg_ rfl (nn_ ?_)
 refine gw_ret ?_
 refine nx_ret1 rfl rfl fun wx hm => ?_
 exact ⟨by rw [ix_mem], hm.g⟩
theorem tbegin_any (A : Option Addr) (n c0 : Nat) (fr tt : Int) (vs : Value) (i : Nat) (w : World) (h0 : 0 ≤ fr) (h1 : fr ≤ 5761439) (hi : i ≤ 10000) :
  Calls Tryz.prog 241 #[.agg #[.slice A n c0, .int .i64 fr, .int .i64 tt, vs], .int .i64 ((i : Nat) : Int)] w (fun e w' => e = .returned (.int .i64 (begV fr i)) ∧ w.grownBy w' none) := by
 refine gw_enter ⟨11, w, none, []⟩ Tryz.func241 rfl Tryz.ntmps241 rfl (mem0 (X := []) allF_nil allL_nil) ?_
 refine sr_ ?_
 refine wl_box rfl rfl rfl fun g1 => ?_
 refine sg_ rfl (nn_ (sr_ (fd_ fo223_1 rfl rfl (fd_ fo42_0 rfl rfl (lk_ sc3 0 rfl rfl rfl (mv_ rfl ?_))))))
 refine wl_ov (ov_mul rfl rfl (by omega) (by omega)) rfl ?_
 refine ad_ rfl rfl (sg_ rfl (nn_ ?_))
 refine gw_ret ?_
 refine nx_ret1 rfl rfl fun wx hm => ?_
 exact ⟨rfl, hm.g⟩
theorem tend_any (A : Option Addr) (n c0 : Nat) (fr tt : Int) (vs : Value) (i : Nat) (w : World) (h0 : 0 ≤ fr) (h1 : fr ≤ 5761439) (hi : i ≤ 9000) :
  Calls Tryz.prog 299 #[.agg #[.slice A n c0, .int .i64 fr, .int .i64 tt, vs], .int .i64 ((i : Nat) : Int)] w (fun e w' => e = .returned (.int .i64 (endV fr tt i)) ∧ w.grownBy w' none) := by
 refine gw_enter ⟨13, w, none, []⟩ Tryz.func299 rfl Tryz.ntmps299 rfl (mem0 (X := []) allF_nil allL_nil) ?_
 refine sr_ ?_
 refine wl_box rfl rfl rfl fun g1 => ?_
 refine sg_ rfl (nn_ (gw_seq ?_))
 refine gd (fun wz => Blk wz g1 223 [.slice A n c0, .int .i64 fr, .int .i64 tt, vs] ∧ True) mixed (fun _ hm => ⟨hm.bl 0, trivial⟩) fun z => ?_
 refine wt 0 9 1 rfl z (ov_loads rz223 rfl (fun _ hm => hm.1) rfl rfl) ?_
 refine wt 1 9 3 rfl z (ov_move rfl) ?_
 refine wt 2 9 7 rfl z (ov_add rfl rfl (by omega) (by omega)) ?_
 refine wa_set 7 (v' := .int .i64 ((i + 1 : Nat) : Int)) rfl (congrArg (Value.int .i64) (by omega)) ?_
 refine wt 4 9 23 rfl z (ov_field fo223_1 rfl rfl) ?_
 refine wt 5 9 55 rfl z (ov_field fo42_1 rfl rfl) ?_
 refine wt 6 9 119 rfl z (ov_load sc3 rfl (fun _ hm => hm.1) rfl) ?_
 refine wa1 3 rfl ?_
 refine wl_callv rfl cb241 rfl rfl (fun wx hm => (tbegin_any A n c0 fr tt vs (i + 1) wx h0 h1 (by omega))) ?_
 refine wl_nil ?_
 refine nw 9 127 (fun _ hm => ⟨hm.bl 0, trivial⟩) fun z => ?_
 refine wt 7 9 255 rfl z (ov_min rfl rfl) ?_
 refine wt 8 9 511 rfl z (ov_assign rfl) ?_
 refine wa_done (by kernel_rfl) ?_
 refine nx_then ?_
 refine gw_ret ?_
 refine nx_ret1 rfl rfl fun wx hm => ?_
 exact ⟨by unfold endV begV; simp, hm.g⟩
theorem tweekend_any (x : Int) (w : World) (h0 : 0 ≤ x) (h1 : x ≤ 100000000) :
  Calls Tryz.prog 298 #[.int .i64 x] w (GotE w (wkE x)) := by
 refine gw_enter ⟨32, w, none, []⟩ Tryz.func298 rfl Tryz.ntmps298 rfl (mem0 (X := []) allF_nil allL_nil) ?_
 refine sr_ ?_
 have hr0 : 0 ≤ x % 10080 := Int.emod_nonneg _ (by omega)
 have hr1 : x % 10080 < 10080 := Int.emod_lt_of_pos _ (by omega)
 refine sg_ rfl (nn_ (sr_ (mv_ rfl (mv_ rfl ?_))))
 refine wl_ov (ov_rem rfl rfl (by omega) (by omega) (by omega)) rfl ?_
 refine wl_ov (ov_sub rfl rfl (by omega) (by omega)) rfl ?_
 refine sg_ rfl (nn_ (gw_seq (sr_ (mv_ rfl ?_))))
 refine wl_ov (ov_sub rfl rfl (by omega) (by omega)) rfl ?_
 refine mv_ rfl (ad_ rfl rfl ?_)
 refine wl_buildSlice (e := 3) (cs := [.int .i64 ((x - (x % 10080)) - 4320), .int .i64 ((x - (x % 10080)) + 5760)]) rfl (by kernel_rfl) rfl fun g1 => ?_
 refine wl_ov (ov_len es22 rfl) rfl ?_
 refine wl_set 16 (v' := .int .i64 2) rfl rfl ?_
 refine mv_ rfl (nn_ (gw_block ?_))
 refine gw_rounds 3 ?_
 refine gr_next ?_
 refine sr_ (wl_ov (ov_lss rfl rfl) rfl ?_)
 refine wl_set 18 (v' := .bool true) rfl (congrArg Value.bool (by decide)) ?_
 refine nn_ (gw_seq (ct_ rfl (gw_skip (nx_then (gw_seq (gw_block (sr_ ?_)))))))
 refine wl_ov (ov_index (j := 0) es22 rfl rfl (by decide)) rfl ?_
 refine lk_ sc3 0 rfl rfl rfl (sg_ rfl (nn_ (sr_ (mv_ rfl (ad_ rfl rfl (sg_ rfl (nn_ (sr_ (mv_ rfl ?_)))))))))
 refine mv_ rfl (mv_ rfl (ad_ rfl rfl ?_))
 refine wl_ov (ov_sub rfl rfl (by omega) (by omega)) rfl ?_
 refine wl_callw rfl cb154 rfl rfl (fun wx hm => (in_any _ _ _ wx)) ?_
 refine nn_ ?_
 refine gw_cond rfl (fun hh => ?_) (fun hh => ?_)
 ·have h1 : (inB x (((x - (x % 10080)) - 4320) + 720) (((((x - (x % 10080)) - 4320) + 720) + 4320) - 1)) = true := by simpa using hh
  clear hh
  refine sr_ (mv_ rfl (ad_ rfl rfl (sg_ rfl (nn_ ?_))))
  refine gw_ret ?_
  refine nx_blk_ret (nx_then_ret (nx_then_ret (nx_blk_ret (nx_then_ret ?_))))
  refine nx_ret1 rfl rfl fun wx hm => ?_
  have h1 := inB_iff.1 h1
  refine ⟨ret_int ?_, hm.g⟩
  unfold wkE; rw [if_pos (by omega)]; omega
 have h1 : (inB x (((x - (x % 10080)) - 4320) + 720) (((((x - (x % 10080)) - 4320) + 720) + 4320) - 1)) = false := by simpa using hh
 clear hh
 refine gw_skip (nx_blk_nrm (nx_then (gw_region (ad_ rfl rfl ?_))))
 refine wl_set 31 (v' := .int .i64 1) rfl rfl ?_
 refine mv_ rfl (wl_nil ?_)
 refine nx_next ?_
 refine gr_next ?_
 refine sr_ (wl_ov (ov_lss rfl rfl) rfl ?_)
 refine wl_set 18 (v' := .bool true) rfl (congrArg Value.bool (by decide)) ?_
 refine nn_ (gw_seq (ct_ rfl (gw_skip (nx_then (gw_seq (gw_block (sr_ ?_)))))))
 refine wl_ov (ov_index (j := 1) es22 rfl rfl (by decide)) rfl ?_
 refine lk_ sc3 0 rfl rfl rfl (sg_ rfl (nn_ (sr_ (mv_ rfl (ad_ rfl rfl (sg_ rfl (nn_ (sr_ (mv_ rfl ?_)))))))))
 refine mv_ rfl (mv_ rfl (ad_ rfl rfl ?_))
 refine wl_ov (ov_sub rfl rfl (by omega) (by omega)) rfl ?_
 refine wl_callw rfl cb154 rfl rfl (fun wx hm => (in_any _ _ _ wx)) ?_
 refine nn_ ?_
 refine gw_cond rfl (fun hh => ?_) (fun hh => ?_)
 ·have h2 : (inB x (((x - (x % 10080)) + 5760) + 720) (((((x - (x % 10080)) + 5760) + 720) + 4320) - 1)) = true := by simpa using hh
  clear hh
  refine sr_ (mv_ rfl (ad_ rfl rfl (sg_ rfl (nn_ ?_))))
  refine gw_ret ?_
  refine nx_blk_ret (nx_then_ret (nx_then_ret (nx_blk_ret (nx_then_ret ?_))))
  refine nx_ret1 rfl rfl fun wx hm => ?_
  have h1 := inB_false.1 h1
  have h2 := inB_iff.1 h2
  refine ⟨ret_int ?_, hm.g⟩
  unfold wkE; rw [if_neg (by omega), if_pos (by omega)]; omega
 have h2 : (inB x (((x - (x % 10080)) + 5760) + 720) (((((x - (x % 10080)) + 5760) + 720) + 4320) - 1)) = false := by simpa using hh
 clear hh
 refine gw_skip (nx_blk_nrm (nx_then (gw_region (ad_ rfl rfl ?_))))
 refine wl_set 31 (v' := .int .i64 2) rfl rfl ?_
 refine mv_ rfl (wl_nil ?_)
 refine nx_next ?_
 refine gr_next ?_
 refine sr_ (wl_ov (ov_lss rfl rfl) rfl ?_)
 refine wl_set 18 (v' := .bool false) rfl (congrArg Value.bool (by decide)) ?_
 refine nn_ (gw_seq (cf_ rfl ?_))
 refine gw_exit ?_
 refine nx_then_exit (nx_then_exit ?_)
 refine nx_blk_here ?_
 refine nx_then (sr_ (sg_ rfl ?_))
 refine wl_set 2 (v' := .int .i64 (-1)) rfl rfl ?_
 refine nn_ ?_
 refine gw_ret ?_
 refine nx_ret1 rfl rfl fun wx hm => ?_
 have h1 := inB_false.1 h1
 have h2 := inB_false.1 h2
 refine ⟨ret_int ?_, hm.g⟩
 unfold wkE; rw [if_neg (by omega), if_neg (by omega)]
theorem trent_any (l : List Rt) (A : Option Addr) (n c0 : Nat) (c : ByteArray) (fr tt : Int) (w : World) (hl : SlT rtEnc 7 38 w A n l) (hn : n ≤ 1000000) (hpos : ∀ r ∈ l, RtPos r) (ht : timeE fr tt = 0) :
  Calls Tryz.prog 167 #[.slice A n c0, .string c, .agg #[.int .i64 fr, .int .i64 tt]] w (fun e w' => ∃ A2 c2, e = .returned (.agg #[.slice A n c0, .int .i64 fr, .int .i64 tt, .slice A2 (daysV fr tt).toNat c2]) ∧ w.grownBy w' none ∧ SlT itEnc 1 3 w' A2 (daysV fr tt).toNat (seasons l c fr (daysV fr tt).toNat) ∧ (daysV fr tt).toNat ≤ c2) := by
 refine gw_enter ⟨31, w, none, []⟩ Tryz.func167 rfl Tryz.ntmps167 rfl (mem0 (X := [SlOld rtEnc 7 38 w.heap.size none A n l]) (allF_cons hl.old allF_nil) (allL_cons SlOld.lasts allL_nil)) ?_
 refine sr_ ?_
 obtain ⟨h0, h1, h2, h3⟩ := timeE_ok ht
 have hD1 := timeE_days ht
 obtain ⟨D, hDn⟩ := Int.eq_ofNat_of_zero_le (show 0 ≤ daysV fr tt by omega)
 have hDN : (daysV fr tt).toNat = D := by omega
 rw [hDN]
 have hD2 : D ≤ 120 := by omega
 refine wl_box rfl rfl rfl fun g1 => ?_
 refine wl_alloc zc223 rfl fun g2 => ?_
 refine nn_ (sr_ (mv_ rfl ?_))
 refine wl_ov (ov_loads rz42 rfl (fun _ hm => hm.blkI 1 rfl) rfl rfl) rfl ?_
 refine wl_ov (ov_build (cs := [.slice A n c0, .int .i64 fr, .int .i64 tt, .slice none 0 0]) rfl (by kernel_rfl)) rfl ?_
 refine wl_alloc zc223 rfl fun g3 => ?_
 refine wl_stores (cs' := [.slice A n c0, .int .i64 fr, .int .i64 tt, .slice none 0 0]) 0 rz223 rfl rfl rfl rfl rfl rfl rfl rfl ?_
 refine nn_ (gw_seq (sr_ ?_))
 refine wl_ov (ov_loads rz42 rfl (fun _ hm => hm.blkI 2 rfl) rfl rfl) rfl ?_
 refine wl_callv rfl cb239 rfl rfl (fun wx hm => (days_any _ _ wx (by omega) (by omega) (by omega))) ?_
 refine mv_ rfl (nn_ (gw_block ?_))
 refine gw_nilOwn 3 1 ?_
 refine gw_set 13 (v' := .int .i64 ((D : Nat) : Int)) rfl (congrArg (Value.int .i64) hDn) ?_
 refine gw_loop (γ := Nat × Value × List Value) (fun g => g.1 ≤ D ∧ g.2.2 = (seasons l c fr g.1).flatMap itEnc) (fun g => [(0, .slice A n c0), (1, .string c), (6, .pointer (some ⟨g2, 0, none⟩)), (7, .pointer (some ⟨g3, 0, none⟩)), (13, .int .i64 ((D : Nat) : Int)), (14, .int .i64 ((g.1 : Nat) : Int))]) (fun g => fun _ => True) (fun g => [(g3, 223, [.slice A n c0, .int .i64 fr, .int .i64 tt, g.2.1]), (g2, 223, [.slice none 0 0, .int .i64 0, .int .i64 0, .slice none 0 0])]) (fun g => [⟨g.2.1, 3, 1, g.1, g.2.2⟩]) (fun g => [SlOld rtEnc 7 38 w.heap.size none A n l]) (fun g => D - g.1) (0, .slice none 0 0, []) ⟨Nat.zero_le _, rfl⟩ ⟨rfl, rfl, rfl, rfl, rfl, rfl, trivial⟩ (fun _ hm => hm.pick [0, 1] [0] [0] rfl rfl) ?_
 rintro ⟨k, v, xs⟩ hinv
 replace hinv : k ≤ D ∧ xs = (seasons l c fr k).flatMap itEnc := hinv
 dsimp only
 refine sr_ ?_
 obtain ⟨hi0, rfl⟩ := hinv
 refine wl_ov (ov_lss rfl rfl) rfl (nn_ (gw_seq ?_))
 refine gw_cond rfl (fun hh => ?_) (fun hh => ?_)
 ·have hk : ((k : Nat) : Int) < ((D : Nat) : Int) := by simpa using hh
  clear hh
  refine gw_skip (nx_then (gw_seq (gw_block (sr_ ?_))))
  obtain ⟨S, hS⟩ : ∃ S, S = seaV l c fr k := ⟨_, rfl⟩
  have hbv : 0 ≤ begV fr k ∧ begV fr k ≤ 10000000 := by unfold begV; omega
  have hbv0 := hbv.1
  have hbv1 := hbv.2
  refine mv_ rfl (sg_ rfl (nn_ ?_))
  refine gd (fun wz => Blk wz g2 223 [.slice none 0 0, .int .i64 0, .int .i64 0, .slice none 0 0] ∧ (SlOld rtEnc 7 38 w.heap.size none A n l) wz ∧ True) mixed (fun _ hm => ⟨hm.bl 1, hm.fa 0, trivial⟩) fun z => ?_
  refine wt 0 13 1 rfl z (ov_field fo223_2 rfl rfl) ?_
  refine wt 2 13 5 rfl z (ov_move rfl) ?_
  refine wt 3 13 13 rfl z (ov_move rfl) ?_
  refine wt 5 13 45 rfl z (ov_move rfl) ?_
  refine wa_all [1, 4] (by kernel_rfl) rfl ⟨⟨_, rfl, ?_⟩, ⟨_, rfl, ?_⟩, trivial⟩
  ·refine lk_ sc22 0 rfl rfl rfl (wl_nil ?_)
   refine nw 13 47 (fun _ hm => ⟨hm.bl 1, hm.fa 0, trivial⟩) fun z => ?_
   refine wa1 4 rfl ?_
   refine wl_ov (ov_loads rz223 rfl (fun _ hm => hm.blkI 0 rfl) rfl rfl) rfl ?_
   refine wl_nil ?_
   refine nw 13 63 (fun _ hm => ⟨hm.bl 1, hm.fa 0, trivial⟩) fun z => ?_
   refine wa1 6 rfl ?_
   refine wl_callv rfl cb241 rfl rfl (fun wx hm => (tbegin_any A n c0 fr tt v k wx h0 (by omega) (by omega))) ?_
   refine wl_nil ?_
   refine nw 13 127 (fun _ hm => ⟨hm.bl 1, hm.fa 0, trivial⟩) fun z => ?_
   refine wt 7 13 255 rfl z (ov_quo rfl rfl (by omega) (by omega) (by omega)) ?_
   refine wa1 8 rfl ?_
   refine wl_callv (v := .int .i64 S) rfl cb240 rfl rfl (fun wx hm => (by rw [hS]; exact rateOn_any l A n c0 c (begV fr k / 1440) wx (hm.fact 0 rfl).1 hn hpos)) ?_
   refine wl_nil ?_
   refine nw 13 511 (fun _ hm => ⟨hm.bl 1, hm.fa 0, trivial⟩) fun z => ?_
   refine wa1 9 rfl ?_
   refine wl_buildSlice (e := 3) (cs := [.int .i64 S]) rfl (by kernel_rfl) rfl fun g4 => ?_
   refine wl_nil ?_
   refine nw 13 1023 (fun _ hm => ⟨hm.bl 2, hm.fa 0, trivial⟩) fun z => ?_
   refine wa1 10 rfl ?_
   refine wl_append (news := [.int .i64 S]) 0 0 ap22 rfl rfl rfl rfl rfl rfl rfl (by omega) (by unfold maxLen; omega) rfl rfl fun v2 hv2 => ?_
   refine wl_look (R := ∃ A cc, v2 = .slice A (k + 1) cc) (fun wx hm => own_slice (hm.ownI 0 rfl)) ?_
   rintro ⟨A9, c9, rfl⟩
   refine wl_nil ?_
   refine nw 13 2047 (fun _ hm => ⟨hm.bl 2, hm.fa 0, trivial⟩) fun z => ?_
   refine wt 11 13 4095 rfl z (ov_field fo223_2 rfl rfl) ?_
   refine wa1 12 rfl ?_
   refine wl_store 1 sc22 rfl rfl rfl rfl rfl rfl ?_
   refine wl_nil ?_
   refine nw 13 8191 (fun _ hm => ⟨hm.bl 2, hm.fa 0, trivial⟩) fun z => ?_
   refine wa_done (by kernel_rfl) ?_
   refine nx_blk_nrm (nx_then (gw_region (ad_ rfl rfl (mv_ rfl (wl_nil ?_)))))
   exact nx_round (k + 1, .slice A9 (k + 1) c9, (seasons l c fr k).flatMap itEnc ++ ([.int .i64 S] : List Value)) ⟨by dsimp only; omega, by rw [hS, seasons_succ]; simp [itEnc]⟩ (by dsimp only; omega) ⟨rfl, rfl, rfl, rfl, rfl, (some_int (by omega)), trivial⟩ (fun _ hm => hm.pick [1, 2] [0] [0] rfl rfl)
  refine wl_ov (ov_loads rz223 rfl (fun _ hm => hm.blkI 0 rfl) rfl rfl) rfl ?_
  refine wl_nil ?_
  refine nw 13 61 (fun _ hm => ⟨hm.bl 1, hm.fa 0, trivial⟩) fun z => ?_
  refine wa_all [1, 6] (by kernel_rfl) rfl ⟨⟨_, rfl, ?_⟩, ⟨_, rfl, ?_⟩, trivial⟩
  ·refine lk_ sc22 0 rfl rfl rfl (wl_nil ?_)
   refine nw 13 63 (fun _ hm => ⟨hm.bl 1, hm.fa 0, trivial⟩) fun z => ?_
   refine wa1 6 rfl ?_
   refine wl_callv rfl cb241 rfl rfl (fun wx hm => (tbegin_any A n c0 fr tt v k wx h0 (by omega) (by omega))) ?_
   refine wl_nil ?_
   refine nw 13 127 (fun _ hm => ⟨hm.bl 1, hm.fa 0, trivial⟩) fun z => ?_
   refine wt 7 13 255 rfl z (ov_quo rfl rfl (by omega) (by omega) (by omega)) ?_
   refine wa1 8 rfl ?_
   refine wl_callv (v := .int .i64 S) rfl cb240 rfl rfl (fun wx hm => (by rw [hS]; exact rateOn_any l A n c0 c (begV fr k / 1440) wx (hm.fact 0 rfl).1 hn hpos)) ?_
   refine wl_nil ?_
   refine nw 13 511 (fun _ hm => ⟨hm.bl 1, hm.fa 0, trivial⟩) fun z => ?_
   refine wa1 9 rfl ?_
   refine wl_buildSlice (e := 3) (cs := [.int .i64 S]) rfl (by kernel_rfl) rfl fun g5 => ?_
   refine wl_nil ?_
   refine nw 13 1023 (fun _ hm => ⟨hm.bl 2, hm.fa 0, trivial⟩) fun z => ?_
   refine wa1 10 rfl ?_
   refine wl_append (news := [.int .i64 S]) 0 0 ap22 rfl rfl rfl rfl rfl rfl rfl (by omega) (by unfold maxLen; omega) rfl rfl fun v2 hv2 => ?_
   refine wl_look (R := ∃ A cc, v2 = .slice A (k + 1) cc) (fun wx hm => own_slice (hm.ownI 0 rfl)) ?_
   rintro ⟨A9, c9, rfl⟩
   refine wl_nil ?_
   refine nw 13 2047 (fun _ hm => ⟨hm.bl 2, hm.fa 0, trivial⟩) fun z => ?_
   refine wt 11 13 4095 rfl z (ov_field fo223_2 rfl rfl) ?_
   refine wa1 12 rfl ?_
   refine wl_store 1 sc22 rfl rfl rfl rfl rfl rfl ?_
   refine wl_nil ?_
   refine nw 13 8191 (fun _ hm => ⟨hm.bl 2, hm.fa 0, trivial⟩) fun z => ?_
   refine wa_done (by kernel_rfl) ?_
   refine nx_blk_nrm (nx_then (gw_region (ad_ rfl rfl (mv_ rfl (wl_nil ?_)))))
   exact nx_round (k + 1, .slice A9 (k + 1) c9, (seasons l c fr k).flatMap itEnc ++ ([.int .i64 S] : List Value)) ⟨by dsimp only; omega, by rw [hS, seasons_succ]; simp [itEnc]⟩ (by dsimp only; omega) ⟨rfl, rfl, rfl, rfl, rfl, (some_int (by omega)), trivial⟩ (fun _ hm => hm.pick [1, 2] [0] [0] rfl rfl)
  refine wl_callv rfl cb241 rfl rfl (fun wx hm => (tbegin_any A n c0 fr tt v k wx h0 (by omega) (by omega))) ?_
  refine wl_nil ?_
  refine nw 13 125 (fun _ hm => ⟨hm.bl 1, hm.fa 0, trivial⟩) fun z => ?_
  refine wt 7 13 253 rfl z (ov_quo rfl rfl (by omega) (by omega) (by omega)) ?_
  refine wa_all [1, 8] (by kernel_rfl) rfl ⟨⟨_, rfl, ?_⟩, ⟨_, rfl, ?_⟩, trivial⟩
  ·refine lk_ sc22 0 rfl rfl rfl (wl_nil ?_)
   refine nw 13 255 (fun _ hm => ⟨hm.bl 1, hm.fa 0, trivial⟩) fun z => ?_
   refine wa1 8 rfl ?_
   refine wl_callv (v := .int .i64 S) rfl cb240 rfl rfl (fun wx hm => (by rw [hS]; exact rateOn_any l A n c0 c (begV fr k / 1440) wx (hm.fact 0 rfl).1 hn hpos)) ?_
   refine wl_nil ?_
   refine nw 13 511 (fun _ hm => ⟨hm.bl 1, hm.fa 0, trivial⟩) fun z => ?_
   refine wa1 9 rfl ?_
   refine wl_buildSlice (e := 3) (cs := [.int .i64 S]) rfl (by kernel_rfl) rfl fun g6 => ?_
   refine wl_nil ?_
   refine nw 13 1023 (fun _ hm => ⟨hm.bl 2, hm.fa 0, trivial⟩) fun z => ?_
   refine wa1 10 rfl ?_
   refine wl_append (news := [.int .i64 S]) 0 0 ap22 rfl rfl rfl rfl rfl rfl rfl (by omega) (by unfold maxLen; omega) rfl rfl fun v2 hv2 => ?_
   refine wl_look (R := ∃ A cc, v2 = .slice A (k + 1) cc) (fun wx hm => own_slice (hm.ownI 0 rfl)) ?_
   rintro ⟨A9, c9, rfl⟩
   refine wl_nil ?_
   refine nw 13 2047 (fun _ hm => ⟨hm.bl 2, hm.fa 0, trivial⟩) fun z => ?_
   refine wt 11 13 4095 rfl z (ov_field fo223_2 rfl rfl) ?_
   refine wa1 12 rfl ?_
   refine wl_store 1 sc22 rfl rfl rfl rfl rfl rfl ?_
   refine wl_nil ?_
   refine nw 13 8191 (fun _ hm => ⟨hm.bl 2, hm.fa 0, trivial⟩) fun z => ?_
   refine wa_done (by kernel_rfl) ?_
   refine nx_blk_nrm (nx_then (gw_region (ad_ rfl rfl (mv_ rfl (wl_nil ?_)))))
   exact nx_round (k + 1, .slice A9 (k + 1) c9, (seasons l c fr k).flatMap itEnc ++ ([.int .i64 S] : List Value)) ⟨by dsimp only; omega, by rw [hS, seasons_succ]; simp [itEnc]⟩ (by dsimp only; omega) ⟨rfl, rfl, rfl, rfl, rfl, (some_int (by omega)), trivial⟩ (fun _ hm => hm.pick [1, 2] [0] [0] rfl rfl)
  refine wl_callv (v := .int .i64 S) rfl cb240 rfl rfl (fun wx hm => (by rw [hS]; exact rateOn_any l A n c0 c (begV fr k / 1440) wx (hm.fact 0 rfl).1 hn hpos)) ?_
  refine wl_nil ?_
  refine nw 13 509 (fun _ hm => ⟨hm.bl 1, hm.fa 0, trivial⟩) fun z => ?_
  refine wa_all [1, 9] (by kernel_rfl) rfl ⟨⟨_, rfl, ?_⟩, ⟨_, rfl, ?_⟩, trivial⟩
  ·refine lk_ sc22 0 rfl rfl rfl (wl_nil ?_)
   refine nw 13 511 (fun _ hm => ⟨hm.bl 1, hm.fa 0, trivial⟩) fun z => ?_
   refine wa1 9 rfl ?_
   refine wl_buildSlice (e := 3) (cs := [.int .i64 S]) rfl (by kernel_rfl) rfl fun g7 => ?_
   refine wl_nil ?_
   refine nw 13 1023 (fun _ hm => ⟨hm.bl 2, hm.fa 0, trivial⟩) fun z => ?_
   refine wa1 10 rfl ?_
   refine wl_append (news := [.int .i64 S]) 0 0 ap22 rfl rfl rfl rfl rfl rfl rfl (by omega) (by unfold maxLen; omega) rfl rfl fun v2 hv2 => ?_
   refine wl_look (R := ∃ A cc, v2 = .slice A (k + 1) cc) (fun wx hm => own_slice (hm.ownI 0 rfl)) ?_
   rintro ⟨A9, c9, rfl⟩
   refine wl_nil ?_
   refine nw 13 2047 (fun _ hm => ⟨hm.bl 2, hm.fa 0, trivial⟩) fun z => ?_
   refine wt 11 13 4095 rfl z (ov_field fo223_2 rfl rfl) ?_
   refine wa1 12 rfl ?_
   refine wl_store 1 sc22 rfl rfl rfl rfl rfl rfl ?_
   refine wl_nil ?_
   refine nw 13 8191 (fun _ hm => ⟨hm.bl 2, hm.fa 0, trivial⟩) fun z => ?_
   refine wa_done (by kernel_rfl) ?_
   refine nx_blk_nrm (nx_then (gw_region (ad_ rfl rfl (mv_ rfl (wl_nil ?_)))))
   exact nx_round (k + 1, .slice A9 (k + 1) c9, (seasons l c fr k).flatMap itEnc ++ ([.int .i64 S] : List Value)) ⟨by dsimp only; omega, by rw [hS, seasons_succ]; simp [itEnc]⟩ (by dsimp only; omega) ⟨rfl, rfl, rfl, rfl, rfl, (some_int (by omega)), trivial⟩ (fun _ hm => hm.pick [1, 2] [0] [0] rfl rfl)
  refine wl_buildSlice (e := 3) (cs := [.int .i64 S]) rfl (by kernel_rfl) rfl fun g8 => ?_
  refine wl_nil ?_
  refine nw 13 1021 (fun _ hm => ⟨hm.bl 2, hm.fa 0, trivial⟩) fun z => ?_
  refine wa1 1 rfl ?_
  refine lk_ sc22 1 rfl rfl rfl (wl_nil ?_)
  refine nw 13 1023 (fun _ hm => ⟨hm.bl 2, hm.fa 0, trivial⟩) fun z => ?_
  refine wa1 10 rfl ?_
  refine wl_append (news := [.int .i64 S]) 0 0 ap22 rfl rfl rfl rfl rfl rfl rfl (by omega) (by unfold maxLen; omega) rfl rfl fun v2 hv2 => ?_
  refine wl_look (R := ∃ A cc, v2 = .slice A (k + 1) cc) (fun wx hm => own_slice (hm.ownI 0 rfl)) ?_
  rintro ⟨A9, c9, rfl⟩
  refine wl_nil ?_
  refine nw 13 2047 (fun _ hm => ⟨hm.bl 2, hm.fa 0, trivial⟩) fun z => ?_
  refine wt 11 13 4095 rfl z (ov_field fo223_2 rfl rfl) ?_
  refine wa1 12 rfl ?_
  refine wl_store 1 sc22 rfl rfl rfl rfl rfl rfl ?_
  refine wl_nil ?_
  refine nw 13 8191 (fun _ hm => ⟨hm.bl 2, hm.fa 0, trivial⟩) fun z => ?_
  refine wa_done (by kernel_rfl) ?_
  refine nx_blk_nrm (nx_then (gw_region (ad_ rfl rfl (mv_ rfl (wl_nil ?_)))))
  exact nx_round (k + 1, .slice A9 (k + 1) c9, (seasons l c fr k).flatMap itEnc ++ ([.int .i64 S] : List Value)) ⟨by dsimp only; omega, by rw [hS, seasons_succ]; simp [itEnc]⟩ (by dsimp only; omega) ⟨rfl, rfl, rfl, rfl, rfl, (some_int (by omega)), trivial⟩ (fun _ hm => hm.pick [1, 2] [0] [0] rfl rfl)
 have hk : ¬ (((k : Nat) : Int) < ((D : Nat) : Int)) := by simpa using hh
 clear hh
 refine gw_exit ?_
 refine nx_then_exit (nx_then_exit ?_)
 refine nx_blk_here ?_
 refine nx_then (sr_ ?_)
 have hkD : k = D := by omega
 subst hkD
 refine wl_look (R := ∃ A cc, v = .slice A k cc) (fun wx hm => own_slice (hm.ownI 0 rfl)) ?_
 rintro ⟨A2, c2, rfl⟩
 refine wl_ov (ov_loads rz223 rfl (fun _ hm => hm.blkI 0 rfl) rfl rfl) rfl ?_
 refine wl_stores (cs' := [.slice A n c0, .int .i64 fr, .int .i64 tt, .slice A2 k c2]) 1 rz223 rfl rfl rfl rfl rfl rfl rfl rfl ?_
 refine nn_ ?_
 refine gw_ret ?_
 refine nx_retc 1 rfl rz223 rfl rfl rfl fun wx hm => ?_
 exact ⟨A2, c2, rfl, hm.g, SlT.ofOwn it_len (hm.ownI 0 rfl) (seasons_len ..), own_cap (hm.ownI 0 rfl)⟩
end Go.Proofs.YtnpcbfllnkiopaaGreatDoor
