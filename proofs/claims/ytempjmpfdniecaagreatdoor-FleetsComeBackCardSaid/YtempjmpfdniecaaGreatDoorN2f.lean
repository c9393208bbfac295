/- Several texts as one: Eg Ef Ba Cv Gs Eh Gp Ej Lga Lbk Lgb Lgc -/
import Derived.Test.YtempjmpfdniecaaGreatDoorN2e
import Derived.Test.YtempjmpfdniecaaGreatDoorN2d
import Derived.Test.YtempjmpfdniecaaGreatDoorN2c
import Derived.Test.YtempjmpfdniecaaGreatDoorN2a
import Derived.RangeFuncNested
import Derived.RangeFuncBound
import Derived.RangeFuncCalls
import Derived.RangeFuncLeaves
import Derived.Shelf.Abstract
import Derived.Shelf.RegionOpen
import Derived.WalkKit
import Derived.OwnWalkIn
import Derived.TacticsInMore
import Derived.LoopNIn
import Derived.LoopIn
import Derived.OneCell
import Derived.Test.YtempjmpfdniecaaGreatDoorN2b
set_option maxRecDepth 100000
set_option maxHeartbeats 4000000
namespace Go.Proofs.YtempjmpfdniecaaGreatDoor
open Go.RowKit
theorem ix_neg {α : Type} {p : α -> Bool} {l : List α} : decide (ixP p l 0 < 0) = !l.any p := by
 rw [<- ix_any]
 by_cases h : 0 <= ixP p l 0
 ·rw [decide_eq_true h, decide_eq_false (by omega)]; rfl
 ·rw [decide_eq_false h, decide_eq_true (by omega)]; rfl
def evC (c1 c2 c3 c4 c5 c6 c7 : Bool) : Int := if c1 = true then 1 else if c2 = true then 8 else if c3 = true then 4 else if c4 = true then 3 else if c5 = true then 8 else if c6 = true then 14 else if c7 = true then 7 else 0
theorem evE_eq {ss : List St} {vs : List Vh} {p : Option Ev} {e0 : Int} {e1 e2 : ByteArray} {e3 : Int} {e4 : ByteArray} : evE ss vs p ⟨e0, e1, e2, e3, e4⟩ = evC (!inB e0 0 5761439) (decide (ixP (vhP e1) vs 0 < 0) || !ss.any (stP e2)) (!inB e3 1 8) (!decide (e3 = 6) && !(e4.toList == (⟨#[]⟩ : ByteArray).toList)) (decide (e3 = 6) && !ss.any (stP e4)) (e4.toList == e2.toList) (evO p ⟨e0, e1, e2, e3, e4⟩) := by
 unfold evE evC
 cases inB e0 0 5761439 <;> cases inB e3 1 8 <;> rfl
theorem stAt_pred (key : ByteArray) (h0 h1 h2 h3 h4 h5 h6 h7 h8 h9 h10 h11 h12 h13 : Int) (gk : Nat) (k : ByteArray) (w : World) (hk : Blk w gk 9 [.string k]) :
  Calls Tryz.prog 272 #[.agg #[.string key, .int .i64 h0, .int .i64 h1, .int .i64 h2, .int .i64 h3, .int .i64 h4, .int .i64 h5, .int .i64 h6, .int .i64 h7, .int .i64 h8, .int .i64 h9, .int .i64 h10, .int .i64 h11, .int .i64 h12, .int .i64 h13], .pointer (some ⟨gk, 0, none⟩)] w (fun e w' => e = .returned (.bool (stP k ⟨key, [h0, h1, h2, h3, h4, h5, h6, h7, h8, h9, h10, h11, h12, h13]⟩)) /\ w.grownBy w' none) := by
 refine gw_enter ⟨8, w, none, []⟩ Tryz.func272 rfl Tryz.ntmps272 rfl (mem0 (X := [BlkOld w.heap.size none gk 9 [.string k]]) (allF_cons hk.old allF_nil) (allL_cons BlkOld.lasts allL_nil)) ?_
 refine sr_ ?_
 refine wl_box rfl rfl rfl fun g1 => ?_
 refine sg_ rfl (nn_ (sr_ (fd_ fo152_0 rfl rfl (lk_ sc9 0 rfl rfl rfl ?_))))
 refine wl_ov (ov_load (v := .string k) sc9 rfl (fun _ hm => (hm.fact 0 rfl).2) rfl) rfl ?_
 refine wl_ov (ov_seql rfl rfl) rfl (sg_ rfl (nn_ ?_))
 refine gw_ret ?_
 refine nx_ret1 rfl rfl fun wx hm => ?_
 exact ⟨rfl, hm.g⟩
theorem stAt_ix (l : List St) (A : Option Addr) (n c0 : Nat) (gk : Nat) (k : ByteArray) (w : World) (hl : SlT stEnc 15 152 w A n l) (hok : ∀ x ∈ l, StOk x) (hn : n <= 1000000) (hk : Blk w gk 9 [.string k]) :
  Calls Tryz.prog 271 #[.slice A n c0, .func (.func 272) #[] #[.pointer (some ⟨gk, 0, none⟩)]] w (GotE w (ixP (stP k) l 0)) := by
 refine gw_enter ⟨19, w, none, []⟩ Tryz.func271 rfl Tryz.ntmps271 rfl (mem0 (X := [SlOld stEnc 15 152 w.heap.size none A n l, BlkOld w.heap.size none gk 9 [.string k]]) (allF_cons hl.old (allF_cons hk.old allF_nil)) (allL_cons SlOld.lasts (allL_cons BlkOld.lasts allL_nil))) ?_
 refine sr_ ?_
 have hlen := hl.len
 refine sg_ rfl (nn_ (gw_seq (sr_ (mv_ rfl (wl_ov (ov_len es57 rfl) rfl (mv_ rfl (nn_ (gw_block ?_))))))))
 refine gw_loop (γ := Nat) (fun (i : Nat) => i <= n /\ ixP (stP k) l 0 = ixP (stP k) (l.drop i) i) (fun (i : Nat) => [(0, .slice A n c0), (1, .func (.func 272) #[] #[.pointer (some ⟨gk, 0, none⟩)]), (7, .int .i64 ((n : Nat) : Int)), (8, .int .i64 ((i : Nat) : Int))]) (fun (i : Nat) => fun _ => True) (fun (i : Nat) => []) (fun (i : Nat) => []) (fun (i : Nat) => [SlOld stEnc 15 152 w.heap.size none A n l, BlkOld w.heap.size none gk 9 [.string k]]) (fun (i : Nat) => n - i) 0 ⟨Nat.zero_le _, rfl⟩ ⟨rfl, rfl, rfl, rfl, trivial⟩ (fun _ hm => hm.pick [] [] [0, 1] rfl rfl) ?_
 intro i hinv
 replace hinv : i <= n /\ ixP (stP k) l 0 = ixP (stP k) (l.drop i) i := hinv
 refine sr_ (wl_ov (ov_lss rfl rfl) rfl (nn_ (gw_seq ?_)))
 refine gw_cond rfl (fun hh => ?_) (fun hh => ?_)
 ·have hi : ((i : Nat) : Int) < ((n : Nat) : Int) := by simpa using hh
  clear hh
  refine gw_skip (nx_then (gw_seq (gw_block (sr_ ?_))))
  obtain ⟨b, off, hA, _, _⟩ := hl.get (by omega)
  subst hA
  obtain ⟨x, hx⟩ : ∃ x, l[i]? = some x := ⟨_, List.getElem?_eq_getElem (by omega)⟩
  have hat := ixP_at (p := stP k) hx
  have hso := hok _ (List.mem_of_getElem? hx)
  obtain ⟨key, hs⟩ := x
  obtain ⟨h0, h1, h2, h3, h4, h5, h6, h7, h8, h9, h10, h11, h12, h13, rfl⟩ := list14 hs hso.1
  refine mv_ rfl (sg_ rfl (nn_ (sr_ (mv_ rfl (mv_ rfl (mv_ rfl ?_))))))
  refine wl_ov (ov_index (j := i) es57 rfl rfl (by omega)) rfl ?_
  refine wl_ov (ov_elem (vs := [.string key, .int .i64 h0, .int .i64 h1, .int .i64 h2, .int .i64 h3, .int .i64 h4, .int .i64 h5, .int .i64 h6, .int .i64 h7, .int .i64 h8, .int .i64 h9, .int .i64 h10, .int .i64 h11, .int .i64 h12, .int .i64 h13]) rz152 rfl (fun _ hm => (hm.fact 0 rfl).1) hx rfl rfl) rfl ?_
  refine wl_callv rfl cb272 rfl rfl (fun wx hm => (stAt_pred key h0 h1 h2 h3 h4 h5 h6 h7 h8 h9 h10 h11 h12 h13 gk k wx (hm.fact 1 rfl).2)) ?_
  refine nn_ ?_
  refine gw_cond rfl (fun hh => ?_) (fun hh => ?_)
  ·have hq : (stP k ⟨key, [h0, h1, h2, h3, h4, h5, h6, h7, h8, h9, h10, h11, h12, h13]⟩) = true := by simpa using hh
   clear hh
   refine sr_ (mv_ rfl (sg_ rfl (nn_ ?_)))
   refine gw_ret ?_
   refine nx_blk_ret (nx_then_ret (nx_then_ret (nx_blk_ret (nx_then_ret ?_))))
   refine nx_ret1 rfl rfl fun wx hm => ?_
   exact ⟨ret_int (by rw [hinv.2, hat, if_pos hq]), hm.g⟩
  have hq : (stP k ⟨key, [h0, h1, h2, h3, h4, h5, h6, h7, h8, h9, h10, h11, h12, h13]⟩) = false := by simpa using hh
  clear hh
  refine gw_skip (nx_blk_nrm (nx_then (gw_region (ad_ rfl rfl (mv_ rfl (wl_nil ?_))))))
  exact nx_round (i + 1) ⟨by omega, by rw [hinv.2, hat, if_neg (by rw [hq]; decide)]⟩ (by omega) ⟨rfl, rfl, rfl, (some_int (by omega)), trivial⟩ (fun _ hm => hm.pick [] [] [0, 1] rfl rfl)
 have hi : ¬ (((i : Nat) : Int) < ((n : Nat) : Int)) := by simpa using hh
 clear hh
 refine gw_exit ?_
 refine nx_then_exit (nx_then_exit ?_)
 refine nx_blk_here ?_
 refine nx_then (sr_ (sg_ rfl ?_))
 refine wl_set 4 (v' := .int .i64 (-1)) rfl rfl ?_
 refine nn_ ?_
 refine gw_ret ?_
 refine nx_ret1 rfl rfl fun wx hm => ?_
 exact ⟨ret_int (by rw [hinv.2, List.drop_eq_nil_of_le (by omega)]; rfl), hm.g⟩
theorem stHas_pred (key : ByteArray) (h0 h1 h2 h3 h4 h5 h6 h7 h8 h9 h10 h11 h12 h13 : Int) (gk : Nat) (k : ByteArray) (w : World) (hk : Blk w gk 9 [.string k]) :
  Calls Tryz.prog 281 #[.agg #[.string key, .int .i64 h0, .int .i64 h1, .int .i64 h2, .int .i64 h3, .int .i64 h4, .int .i64 h5, .int .i64 h6, .int .i64 h7, .int .i64 h8, .int .i64 h9, .int .i64 h10, .int .i64 h11, .int .i64 h12, .int .i64 h13], .pointer (some ⟨gk, 0, none⟩)] w (fun e w' => e = .returned (.bool (stP k ⟨key, [h0, h1, h2, h3, h4, h5, h6, h7, h8, h9, h10, h11, h12, h13]⟩)) /\ w.grownBy w' none) := by
 refine gw_enter ⟨8, w, none, []⟩ Tryz.func281 rfl Tryz.ntmps281 rfl (mem0 (X := [BlkOld w.heap.size none gk 9 [.string k]]) (allF_cons hk.old allF_nil) (allL_cons BlkOld.lasts allL_nil)) ?_
 refine sr_ ?_
 refine wl_box rfl rfl rfl fun g1 => ?_
 refine sg_ rfl (nn_ (sr_ (fd_ fo152_0 rfl rfl (lk_ sc9 0 rfl rfl rfl ?_))))
 refine wl_ov (ov_load (v := .string k) sc9 rfl (fun _ hm => (hm.fact 0 rfl).2) rfl) rfl ?_
 refine wl_ov (ov_seql rfl rfl) rfl (sg_ rfl (nn_ ?_))
 refine gw_ret ?_
 refine nx_ret1 rfl rfl fun wx hm => ?_
 exact ⟨rfl, hm.g⟩
theorem stHas_ix (l : List St) (A : Option Addr) (n c0 : Nat) (gk : Nat) (k : ByteArray) (w : World) (hl : SlT stEnc 15 152 w A n l) (hok : ∀ x ∈ l, StOk x) (hn : n <= 1000000) (hk : Blk w gk 9 [.string k]) :
  Calls Tryz.prog 271 #[.slice A n c0, .func (.func 281) #[] #[.pointer (some ⟨gk, 0, none⟩)]] w (GotE w (ixP (stP k) l 0)) := by
 refine gw_enter ⟨19, w, none, []⟩ Tryz.func271 rfl Tryz.ntmps271 rfl (mem0 (X := [SlOld stEnc 15 152 w.heap.size none A n l, BlkOld w.heap.size none gk 9 [.string k]]) (allF_cons hl.old (allF_cons hk.old allF_nil)) (allL_cons SlOld.lasts (allL_cons BlkOld.lasts allL_nil))) ?_
 refine sr_ ?_
 have hlen := hl.len
 refine sg_ rfl (nn_ (gw_seq (sr_ (mv_ rfl (wl_ov (ov_len es57 rfl) rfl (mv_ rfl (nn_ (gw_block ?_))))))))
 refine gw_loop (γ := Nat) (fun (i : Nat) => i <= n /\ ixP (stP k) l 0 = ixP (stP k) (l.drop i) i) (fun (i : Nat) => [(0, .slice A n c0), (1, .func (.func 281) #[] #[.pointer (some ⟨gk, 0, none⟩)]), (7, .int .i64 ((n : Nat) : Int)), (8, .int .i64 ((i : Nat) : Int))]) (fun (i : Nat) => fun _ => True) (fun (i : Nat) => []) (fun (i : Nat) => []) (fun (i : Nat) => [SlOld stEnc 15 152 w.heap.size none A n l, BlkOld w.heap.size none gk 9 [.string k]]) (fun (i : Nat) => n - i) 0 ⟨Nat.zero_le _, rfl⟩ ⟨rfl, rfl, rfl, rfl, trivial⟩ (fun _ hm => hm.pick [] [] [0, 1] rfl rfl) ?_
 intro i hinv
 replace hinv : i <= n /\ ixP (stP k) l 0 = ixP (stP k) (l.drop i) i := hinv
 refine sr_ (wl_ov (ov_lss rfl rfl) rfl (nn_ (gw_seq ?_)))
 refine gw_cond rfl (fun hh => ?_) (fun hh => ?_)
 ·have hi : ((i : Nat) : Int) < ((n : Nat) : Int) := by simpa using hh
  clear hh
  refine gw_skip (nx_then (gw_seq (gw_block (sr_ ?_))))
  obtain ⟨b, off, hA, _, _⟩ := hl.get (by omega)
  subst hA
  obtain ⟨x, hx⟩ : ∃ x, l[i]? = some x := ⟨_, List.getElem?_eq_getElem (by omega)⟩
  have hat := ixP_at (p := stP k) hx
  have hso := hok _ (List.mem_of_getElem? hx)
  obtain ⟨key, hs⟩ := x
  obtain ⟨h0, h1, h2, h3, h4, h5, h6, h7, h8, h9, h10, h11, h12, h13, rfl⟩ := list14 hs hso.1
  refine mv_ rfl (sg_ rfl (nn_ (sr_ (mv_ rfl (mv_ rfl (mv_ rfl ?_))))))
  refine wl_ov (ov_index (j := i) es57 rfl rfl (by omega)) rfl ?_
  refine wl_ov (ov_elem (vs := [.string key, .int .i64 h0, .int .i64 h1, .int .i64 h2, .int .i64 h3, .int .i64 h4, .int .i64 h5, .int .i64 h6, .int .i64 h7, .int .i64 h8, .int .i64 h9, .int .i64 h10, .int .i64 h11, .int .i64 h12, .int .i64 h13]) rz152 rfl (fun _ hm => (hm.fact 0 rfl).1) hx rfl rfl) rfl ?_
  refine wl_callv rfl cb281 rfl rfl (fun wx hm => (stHas_pred key h0 h1 h2 h3 h4 h5 h6 h7 h8 h9 h10 h11 h12 h13 gk k wx (hm.fact 1 rfl).2)) ?_
  refine nn_ ?_
  refine gw_cond rfl (fun hh => ?_) (fun hh => ?_)
  ·have hq : (stP k ⟨key, [h0, h1, h2, h3, h4, h5, h6, h7, h8, h9, h10, h11, h12, h13]⟩) = true := by simpa using hh
   clear hh
   refine sr_ (mv_ rfl (sg_ rfl (nn_ ?_)))
   refine gw_ret ?_
   refine nx_blk_ret (nx_then_ret (nx_then_ret (nx_blk_ret (nx_then_ret ?_))))
   refine nx_ret1 rfl rfl fun wx hm => ?_
   exact ⟨ret_int (by rw [hinv.2, hat, if_pos hq]), hm.g⟩
  have hq : (stP k ⟨key, [h0, h1, h2, h3, h4, h5, h6, h7, h8, h9, h10, h11, h12, h13]⟩) = false := by simpa using hh
  clear hh
  refine gw_skip (nx_blk_nrm (nx_then (gw_region (ad_ rfl rfl (mv_ rfl (wl_nil ?_))))))
  exact nx_round (i + 1) ⟨by omega, by rw [hinv.2, hat, if_neg (by rw [hq]; decide)]⟩ (by omega) ⟨rfl, rfl, rfl, (some_int (by omega)), trivial⟩ (fun _ hm => hm.pick [] [] [0, 1] rfl rfl)
 have hi : ¬ (((i : Nat) : Int) < ((n : Nat) : Int)) := by simpa using hh
 clear hh
 refine gw_exit ?_
 refine nx_then_exit (nx_then_exit ?_)
 refine nx_blk_here ?_
 refine nx_then (sr_ (sg_ rfl ?_))
 refine wl_set 4 (v' := .int .i64 (-1)) rfl rfl ?_
 refine nn_ ?_
 refine gw_ret ?_
 refine nx_ret1 rfl rfl fun wx hm => ?_
 exact ⟨ret_int (by rw [hinv.2, List.drop_eq_nil_of_le (by omega)]; rfl), hm.g⟩
theorem stHas_cf (l : List St) (A : Option Addr) (n c0 : Nat) (gk : Nat) (k : ByteArray) (w : World) (hl : SlT stEnc 15 152 w A n l) (hok : ∀ x ∈ l, StOk x) (hn : n <= 1000000) (hk : Blk w gk 9 [.string k]) :
  Calls Tryz.prog 280 #[.slice A n c0, .func (.func 281) #[] #[.pointer (some ⟨gk, 0, none⟩)]] w (fun e w' => e = .returned (.bool (l.any (stP k))) /\ w.grownBy w' none) := by
 refine gw_enter ⟨9, w, none, []⟩ Tryz.func280 rfl Tryz.ntmps280 rfl (mem0 (X := [SlOld stEnc 15 152 w.heap.size none A n l, BlkOld w.heap.size none gk 9 [.string k]]) (allF_cons hl.old (allF_cons hk.old allF_nil)) (allL_cons SlOld.lasts (allL_cons BlkOld.lasts allL_nil))) ?_
 refine sr_ (sg_ rfl (nn_ (sr_ (mv_ rfl (mv_ rfl ?_)))))
 refine wl_callv rfl cb271 rfl rfl (fun wx hm => (stHas_ix l A n c0 gk k wx (hm.fact 0 rfl).1 hok hn (hm.fact 1 rfl).2)) ?_
 refine wl_ov (ov_geq rfl rfl) rfl ?_
 refine sg_ rfl (nn_ ?_)
 refine gw_ret ?_
 refine nx_ret1 rfl rfl fun wx hm => ?_
 exact ⟨by rw [<- ix_any], hm.g⟩
theorem rStationAt_any (sl : List St) (sA cA vA pA : Option Addr) (sn sc cn cc vn vc pn pc : Nat) (k : ByteArray) (w : World) (hs : SlT stEnc 15 152 w sA sn sl) (hsok : ∀ x ∈ sl, StOk x) (hsn : sn <= 1000000) :
  Calls Tryz.prog 206 #[.agg #[.slice sA sn sc, .slice cA cn cc, .slice vA vn vc, .slice pA pn pc], .string k] w (fun e w' => e = .returned (.int .i64 (ixP (stP k) sl 0)) /\ w.grownBy w' none) := by
 refine gw_enter ⟨9, w, none, []⟩ Tryz.func206 rfl Tryz.ntmps206 rfl (mem0 (X := [SlOld stEnc 15 152 w.heap.size none sA sn sl]) (allF_cons hs.old allF_nil) (allL_cons SlOld.lasts allL_nil)) ?_
 refine sr_ ?_
 refine wl_box rfl rfl rfl fun g1 => ?_
 refine wl_box rfl rfl rfl fun g2 => ?_
 refine sg_ rfl (nn_ (sr_ (fd_ fo62_0 rfl rfl (lk_ sc57 1 rfl rfl rfl (wl_ov (ov_makeFunc rfl rfl) rfl ?_)))))
 refine wl_callv rfl cb271 rfl rfl (fun wx hm => (stAt_ix sl sA sn sc _ k wx (hm.fact 0 rfl).1 hsok hsn (hm.blkI 0 rfl))) ?_
 refine sg_ rfl (nn_ ?_)
 refine gw_ret ?_
 refine nx_ret1 rfl rfl fun wx hm => ?_
 exact ⟨rfl, hm.g⟩
theorem hasStation_any (sl : List St) (sA cA vA pA : Option Addr) (sn sc cn cc vn vc pn pc : Nat) (k : ByteArray) (w : World) (hs : SlT stEnc 15 152 w sA sn sl) (hsok : ∀ x ∈ sl, StOk x) (hsn : sn <= 1000000) :
  Calls Tryz.prog 216 #[.agg #[.slice sA sn sc, .slice cA cn cc, .slice vA vn vc, .slice pA pn pc], .string k] w (fun e w' => e = .returned (.bool (sl.any (stP k))) /\ w.grownBy w' none) := by
 refine gw_enter ⟨9, w, none, []⟩ Tryz.func216 rfl Tryz.ntmps216 rfl (mem0 (X := [SlOld stEnc 15 152 w.heap.size none sA sn sl]) (allF_cons hs.old allF_nil) (allL_cons SlOld.lasts allL_nil)) ?_
 refine sr_ ?_
 refine wl_box rfl rfl rfl fun g1 => ?_
 refine wl_box rfl rfl rfl fun g2 => ?_
 refine sg_ rfl (nn_ (sr_ (fd_ fo62_0 rfl rfl (lk_ sc57 1 rfl rfl rfl (wl_ov (ov_makeFunc rfl rfl) rfl ?_)))))
 refine wl_callv rfl cb280 rfl rfl (fun wx hm => (stHas_cf sl sA sn sc _ k wx (hm.fact 0 rfl).1 hsok hsn (hm.blkI 0 rfl))) ?_
 refine sg_ rfl (nn_ ?_)
 refine gw_ret ?_
 refine nx_ret1 rfl rfl fun wx hm => ?_
 exact ⟨rfl, hm.g⟩
theorem byTime_any (p0 : Int) (p1 p2 : ByteArray) (p3 : Int) (p4 : ByteArray) (e0 : Int) (e1 e2 : ByteArray) (e3 : Int) (e4 : ByteArray) (w : World) : Calls Tryz.prog 217 #[.agg #[.int .i64 p0, .string p1, .string p2, .int .i64 p3, .string p4], .agg #[.int .i64 e0, .string e1, .string e2, .int .i64 e3, .string e4]] w (GotE w (evOrd (⟨p0, p1, p2, p3, p4⟩ : Ev) (⟨e0, e1, e2, e3, e4⟩ : Ev))) := by
 refine gw_enter ⟨17, w, none, []⟩ Tryz.func217 rfl Tryz.ntmps217 rfl (mem0 (X := []) allF_nil allL_nil) ?_
 refine sr_ ?_
 refine wl_box rfl rfl rfl fun g1 => ?_
 refine wl_box rfl rfl rfl fun g2 => ?_
 refine sg_ rfl (nn_ (gw_seq ?_))
 refine gd (fun wz => Blk wz g2 45 [.int .i64 e0, .string e1, .string e2, .int .i64 e3, .string e4] /\ Blk wz g1 45 [.int .i64 p0, .string p1, .string p2, .int .i64 p3, .string p4] /\ True) mixed (fun _ hm => ⟨hm.bl 0, hm.bl 1, trivial⟩) fun z => ?_
 refine wt 0 13 1 rfl z (ov_field fo45_0 rfl rfl) ?_
 refine wt 1 13 3 rfl z (ov_load sc3 rfl (fun _ hm => hm.2.1) rfl) ?_
 refine wt 2 13 7 rfl z (ov_field fo45_0 rfl rfl) ?_
 refine wt 3 13 15 rfl z (ov_load sc3 rfl (fun _ hm => hm.1) rfl) ?_
 refine wt 5 13 47 rfl z (ov_field fo45_1 rfl rfl) ?_
 refine wt 6 13 111 rfl z (ov_load sc9 rfl (fun _ hm => hm.2.1) rfl) ?_
 refine wt 7 13 239 rfl z (ov_field fo45_1 rfl rfl) ?_
 refine wt 8 13 495 rfl z (ov_load sc9 rfl (fun _ hm => hm.1) rfl) ?_
 refine wa1 4 rfl ?_
 refine wl_callv rfl cb83 rfl rfl (fun wx hm => (cmp_int _ _ wx)) ?_
 refine wl_nil ?_
 refine nw 13 511 (fun _ hm => ⟨hm.bl 0, hm.bl 1, trivial⟩) fun z => ?_
 refine wa1 9 rfl ?_
 refine wl_callv rfl cb84 rfl rfl (fun wx hm => (cmp_string _ _ wx)) ?_
 refine wl_nil ?_
 refine nw 13 1023 (fun _ hm => ⟨hm.bl 0, hm.bl 1, trivial⟩) fun z => ?_
 refine wa1 10 rfl ?_
 refine wl_buildSlice (e := 3) (cs := [.int .i64 (cmpI p0 e0), .int .i64 (cmpS p1 e1)]) rfl (by kernel_rfl) rfl fun g3 => ?_
 refine wl_nil ?_
 refine nw 13 2047 (fun _ hm => ⟨hm.bl 1, hm.bl 2, trivial⟩) fun z => ?_
 refine wa1 11 rfl ?_
 refine wl_callv rfl cb82 rfl rfl (fun wx hm => (or_two _ _ _ _ _ wx (hm.blkI 0 rfl))) ?_
 refine wl_nil ?_
 refine nw 13 4095 (fun _ hm => ⟨hm.bl 1, hm.bl 2, trivial⟩) fun z => ?_
 refine wt 12 13 8191 rfl z (ov_assign rfl) ?_
 refine wa_done (by kernel_rfl) ?_
 refine nx_then ?_
 refine gw_ret ?_
 refine nx_ret1 rfl rfl fun wx hm => ?_
 exact ⟨ret_int (by unfold evOrd; rfl), hm.g⟩
theorem ordE_ne {p0 e0 : Int} {p1 p2 e1 e2 p4 e4 : ByteArray} {p3 e3 : Int} (h : ¬ p0 = e0) : sgV3 (p0 - e0) = evOrd ⟨p0, p1, p2, p3, p4⟩ ⟨e0, e1, e2, e3, e4⟩ := by
 have h2 : cmpI p0 e0 ≠ 0 := fun e => h (cmpI_zero.1 e)
 have h3 : evOrd ⟨p0, p1, p2, p3, p4⟩ ⟨e0, e1, e2, e3, e4⟩ = cmpI p0 e0 := by simp [evOrd, firstE, h2]
 rw [h3]
 unfold sgV3 cmpI
 split <;> split <;> (try split) <;> (try split) <;> omega
theorem ordE_eq {p0 e0 : Int} {p1 p2 e1 e2 p4 e4 : ByteArray} {p3 e3 : Int} (h : p0 = e0) : cmpS p1 e1 = evOrd ⟨p0, p1, p2, p3, p4⟩ ⟨e0, e1, e2, e3, e4⟩ := by
 have h2 : cmpI p0 e0 = 0 := cmpI_zero.2 h
 by_cases h3 : cmpS p1 e1 = 0
 ·simp [evOrd, firstE, h2, h3]
 ·simp only [evOrd, firstE, h2, if_true, if_neg h3]
theorem eventOrder_any (p0 : Int) (p1 p2 : ByteArray) (p3 : Int) (p4 : ByteArray) (e0 : Int) (e1 e2 : ByteArray) (e3 : Int) (e4 : ByteArray) (w : World) (hp : -4000000000000000000 <= p0 /\ p0 <= 4000000000000000000) (he : -4000000000000000000 <= e0 /\ e0 <= 4000000000000000000) : Calls Tryz.prog 18 #[.agg #[.int .i64 p0, .string p1, .string p2, .int .i64 p3, .string p4], .agg #[.int .i64 e0, .string e1, .string e2, .int .i64 e3, .string e4]] w (GotE w (evOrd (⟨p0, p1, p2, p3, p4⟩ : Ev) (⟨e0, e1, e2, e3, e4⟩ : Ev))) := by
 refine gw_enter ⟨21, w, none, []⟩ Tryz.func18 rfl Tryz.ntmps18 rfl (mem0 (X := []) allF_nil allL_nil) ?_
 refine sr_ ?_
 refine wl_box rfl rfl rfl fun g1 => ?_
 refine wl_box rfl rfl rfl fun g2 => ?_
 refine sg_ rfl (nn_ (gw_seq (sr_ (fd_ fo45_0 rfl rfl (lk_ sc3 1 rfl rfl rfl (fd_ fo45_0 rfl rfl (lk_ sc3 0 rfl rfl rfl (wl_ov (ov_neq rfl rfl) rfl (nn_ ?_)))))))))
 refine gw_cond rfl (fun hh => ?_) (fun hh => ?_)
 ·have hne : ¬ (p0 = e0) := by simpa using hh
  clear hh
  refine sr_ (fd_ fo45_0 rfl rfl (lk_ sc3 1 rfl rfl rfl (fd_ fo45_0 rfl rfl (lk_ sc3 0 rfl rfl rfl ?_))))
  refine wl_ov (ov_sub rfl rfl (by omega) (by omega)) rfl ?_
  refine wl_callv rfl cb86 rfl rfl (fun wx hm => (sign3_any _ wx)) ?_
  refine sg_ rfl (nn_ ?_)
  refine gw_ret ?_
  refine nx_then_ret ?_
  refine nx_ret1 rfl rfl fun wx hm => ?_
  exact ⟨ret_int (ordE_ne hne), hm.g⟩
 have hne : p0 = e0 := by simpa using hh
 clear hh
 refine gw_skip (nx_then (sr_ (fd_ fo45_1 rfl rfl (lk_ sc9 1 rfl rfl rfl (fd_ fo45_1 rfl rfl (lk_ sc9 0 rfl rfl rfl ?_))))))
 refine wl_callv rfl cb87 rfl rfl (fun wx hm => (strCompare_any _ _ wx)) ?_
 refine sg_ rfl (nn_ ?_)
 refine gw_ret ?_
 refine nx_ret1 rfl rfl fun wx hm => ?_
 exact ⟨ret_int (ordE_eq hne), hm.g⟩
theorem logFault_any (sl : List St) (vl : List Vh) (sA cA vA pA : Option Addr) (sn sc cn cc vn vc pn pc : Nat) (el : List Ev) (eA : Option Addr) (en ec : Nat) (w : World) (hs : SlT stEnc 15 152 w sA sn sl) (hv : SlT vhEnc 2 160 w vA vn vl) (hsok : ∀ x ∈ sl, StOk x) (hsn : sn <= 1000000) (hvn : vn <= 1000000) (hl : SlT evEnc 5 45 w eA en el) (heok : ∀ x ∈ el, EvOk x) (hen : en <= 1000000) :
  Calls Tryz.prog 104 #[.agg #[.slice sA sn sc, .slice cA cn cc, .slice vA vn vc, .slice pA pn pc], .slice eA en ec] w (GotE w (logE sl vl el)) := by
 refine gw_enter ⟨80, w, none, []⟩ Tryz.func104 rfl Tryz.ntmps104 rfl (mem0 (X := [SlOld stEnc 15 152 w.heap.size none sA sn sl, SlOld vhEnc 2 160 w.heap.size none vA vn vl, SlOld evEnc 5 45 w.heap.size none eA en el]) (allF_cons hs.old (allF_cons hv.old (allF_cons hl.old allF_nil))) (allL_cons SlOld.lasts (allL_cons SlOld.lasts (allL_cons SlOld.lasts allL_nil)))) ?_
 refine sr_ ?_
 have hlen := hl.len
 refine wl_box rfl rfl rfl fun g1 => ?_
 refine sg_ rfl (nn_ (gw_seq (sr_ (mv_ rfl (wl_ov (ov_len es39 rfl) rfl ?_)))))
 refine wl_ov (ov_gtr rfl rfl) rfl ?_
 refine nn_ ?_
 refine gw_cond rfl (fun hh => ?_) (fun hh => ?_)
 ·have h1 : 3000 < ((en : Nat) : Int) := by simpa using hh
  clear hh
  refine sr_ (sg_ rfl (nn_ ?_))
  refine gw_ret ?_
  refine nx_then_ret ?_
  refine nx_ret1 rfl rfl fun wx hm => ?_
  exact ⟨ret_int (by unfold logE; rw [if_pos (by omega)]), hm.g⟩
 have h1 : ¬ (3000 < ((en : Nat) : Int)) := by simpa using hh
 clear hh
 refine gw_skip (nx_then (gw_seq (sr_ (mv_ rfl (wl_ov (ov_len es39 rfl) rfl (mv_ rfl (nn_ (gw_block ?_))))))))
 refine gw_loop (γ := Nat) (fun (i : Nat) => i <= en /\ logE sl vl el = scanE (evE sl vl) (prevOf el i) (el.drop i)) (fun (i : Nat) => [(1, .slice eA en ec), (2, .pointer (some ⟨g1, 0, none⟩)), (10, .slice eA en ec), (11, .int .i64 ((en : Nat) : Int)), (12, .int .i64 ((i : Nat) : Int))]) (fun (i : Nat) => fun _ => True) (fun (i : Nat) => [(g1, 62, [.slice sA sn sc, .slice cA cn cc, .slice vA vn vc, .slice pA pn pc])]) (fun (i : Nat) => []) (fun (i : Nat) => [SlOld stEnc 15 152 w.heap.size none sA sn sl, SlOld vhEnc 2 160 w.heap.size none vA vn vl, SlOld evEnc 5 45 w.heap.size none eA en el]) (fun (i : Nat) => en - i) 0 ⟨Nat.zero_le _, by unfold logE; rw [if_neg (by omega)]; rfl⟩ ⟨rfl, rfl, rfl, rfl, rfl, trivial⟩ (fun _ hm => hm.pick [0] [] [0, 1, 2] rfl rfl) ?_
 intro i hinv
 replace hinv : i <= en /\ logE sl vl el = scanE (evE sl vl) (prevOf el i) (el.drop i) := hinv
 refine sr_ ?_
 obtain ⟨hi0, hsc⟩ := hinv
 refine wl_ov (ov_lss rfl rfl) rfl (nn_ (gw_seq ?_))
 refine gw_cond rfl (fun hh => ?_) (fun hh => ?_)
 ·have hi : ((i : Nat) : Int) < ((en : Nat) : Int) := by simpa using hh
  clear hh
  refine gw_skip (nx_then (gw_seq (gw_block (sr_ ?_))))
  obtain ⟨b, off, hA, _, _⟩ := hl.get (by omega)
  subst hA
  obtain ⟨x, hx⟩ : ∃ x, el[i]? = some x := ⟨_, List.getElem?_eq_getElem (by omega)⟩
  obtain ⟨e0, e1, e2, e3, e4⟩ := x
  have hat := scanE_at (evE sl vl) el i _ hx
  obtain ⟨he0, he3, hz1, hz2, hz4⟩ := heok _ (List.mem_of_getElem? hx)
  have he0 : -4000000000000000000 <= e0 /\ e0 <= 4000000000000000000 := he0
  have hz1 : e1.size <= 1000000 := hz1
  refine mv_ rfl ?_
  refine wl_ov (ov_index (j := i) es39 rfl rfl (by omega)) rfl ?_
  refine wl_ov (ov_elem (vs := [.int .i64 e0, .string e1, .string e2, .int .i64 e3, .string e4]) rz45 rfl (fun _ hm => (hm.fact 2 rfl).1) hx rfl rfl) rfl ?_
  refine wl_alloc zc45 rfl fun g2 => ?_
  refine sg_ rfl ?_
  refine wl_stores (cs' := [.int .i64 e0, .string e1, .string e2, .int .i64 e3, .string e4]) 0 rz45 rfl rfl rfl rfl rfl rfl rfl rfl ?_
  refine nn_ (gw_block (sr_ (fd_ fo45_0 rfl rfl (lk_ sc3 0 rfl rfl rfl ?_))))
  refine wl_callw rfl cb198 rfl rfl (fun wx hm => (rmoment_any _ wx)) ?_
  refine wl_ov (ov_un_not rfl) rfl (sg_ rfl (nn_ ?_))
  rcases Bool.eq_false_or_eq_true (!(inB e0 0 5761439)) with h2 | h2
  ·refine gw_set 17 rfl (congrArg Value.bool h2) ?_
   have h2' : (inB e0 0 5761439) = false := by simpa only [Bool.not_eq_true', Bool.not_eq_false'] using h2
   refine ct_ rfl (sr_ (sg_ rfl (nn_ ?_)))
   refine gw_ret ?_
   refine nx_blk_ret (nx_blk_ret (nx_then_ret (nx_then_ret (nx_blk_ret (nx_then_ret ?_)))))
   have hE : evE sl vl (prevOf el i) (⟨e0, e1, e2, e3, e4⟩ : Ev) = 1 := by rw [evE_eq, h2']; rfl
   have hF : logE sl vl el = 1 := by rw [hsc, hat, if_neg (by rw [hE]; decide), hE]
   refine nx_ret1 rfl rfl fun wx hm => ?_
   exact ⟨ret_int (by rw [hF]), hm.g⟩
  refine gw_set 17 rfl (congrArg Value.bool h2) ?_
  have h2' : (inB e0 0 5761439) = true := by simpa only [Bool.not_eq_true', Bool.not_eq_false'] using h2
  refine cf_ rfl (sr_ ?_)
  refine wl_ov (ov_loads rz62 rfl (fun _ hm => hm.blkI 1 rfl) rfl rfl) rfl ?_
  refine fd_ fo45_1 rfl rfl (lk_ sc9 0 rfl rfl rfl ?_)
  refine wl_callv rfl cb199 rfl rfl (fun wx hm => (rVehicleAt_any vl sA cA vA pA sn sc cn cc vn vc pn pc e1 wx (hm.fact 1 rfl).1 (by omega))) ?_
  refine wl_ov (ov_lss rfl rfl) rfl (mv_ rfl ?_)
  rcases Bool.eq_false_or_eq_true (decide (ixP (vhP e1) vl 0 < 0)) with h3 | h3
  ·refine wl_set 28 rfl (congrArg Value.bool h3) ?_
   refine goff rfl rfl rfl (goff rfl rfl rfl (goff rfl rfl rfl (goff rfl rfl rfl (goff rfl rfl rfl (pt_ rfl rfl (sg_ rfl (nn_ (ct_ rfl (sr_ (sg_ rfl (wl_nil ?_)))))))))))
   refine nx_then ?_
   refine gw_ret ?_
   refine nx_blk_ret (nx_blk_ret (nx_then_ret (nx_then_ret (nx_blk_ret (nx_then_ret ?_)))))
   have hE : evE sl vl (prevOf el i) (⟨e0, e1, e2, e3, e4⟩ : Ev) = 8 := by rw [evE_eq, h2', h3]; rfl
   have hF : logE sl vl el = 8 := by rw [hsc, hat, if_neg (by rw [hE]; decide), hE]
   refine nx_ret1 rfl rfl fun wx hm => ?_
   exact ⟨ret_int (by rw [hF]), hm.g⟩
  refine wl_set 28 rfl (congrArg Value.bool h3) ?_
  refine wl_guard_on rfl rfl rfl ?_
  refine wl_ov (ov_loads rz62 rfl (fun _ hm => hm.blkI 1 rfl) rfl rfl) rfl ?_
  refine wl_guard_on rfl rfl rfl (fd_ fo45_2 rfl rfl (wl_guard_on rfl rfl rfl (lk_ sc9 0 rfl rfl rfl (wl_guard_on rfl rfl rfl ?_))))
  refine wl_callv rfl cb206 rfl rfl (fun wx hm => (rStationAt_any sl sA cA vA pA sn sc cn cc vn vc pn pc e2 wx (hm.fact 0 rfl).1 hsok (by omega))) ?_
  refine wl_guard_on rfl rfl rfl (wl_ov (ov_lss rfl rfl) rfl ?_)
  refine wl_set 33 (v' := .bool (!sl.any (stP e2))) rfl (congrArg Value.bool ix_neg) ?_
  refine pf_ rfl rfl (sg_ rfl (nn_ ?_))
  rcases Bool.eq_false_or_eq_true (!sl.any (stP e2)) with h4 | h4
  ·refine gw_set 22 rfl (congrArg Value.bool h4) ?_
   have h4' : (sl.any (stP e2)) = false := by simpa only [Bool.not_eq_true', Bool.not_eq_false'] using h4
   refine ct_ rfl (sr_ (sg_ rfl (nn_ ?_)))
   refine gw_ret ?_
   refine nx_blk_ret (nx_blk_ret (nx_then_ret (nx_then_ret (nx_blk_ret (nx_then_ret ?_)))))
   have hE : evE sl vl (prevOf el i) (⟨e0, e1, e2, e3, e4⟩ : Ev) = 8 := by rw [evE_eq, h2', h3, h4']; rfl
   have hF : logE sl vl el = 8 := by rw [hsc, hat, if_neg (by rw [hE]; decide), hE]
   refine nx_ret1 rfl rfl fun wx hm => ?_
   exact ⟨ret_int (by rw [hF]), hm.g⟩
  refine gw_set 22 rfl (congrArg Value.bool h4) ?_
  have h4' : (sl.any (stP e2)) = true := by simpa only [Bool.not_eq_true', Bool.not_eq_false'] using h4
  refine cf_ rfl (sr_ (fd_ fo45_3 rfl rfl (lk_ sc3 0 rfl rfl rfl ?_)))
  refine wl_callw rfl cb154 rfl rfl (fun wx hm => (rin_any _ _ _ wx)) ?_
  refine wl_ov (ov_un_not rfl) rfl (sg_ rfl (nn_ ?_))
  rcases Bool.eq_false_or_eq_true (!(inB e3 1 8)) with h5 | h5
  ·refine gw_set 35 rfl (congrArg Value.bool h5) ?_
   have h5' : (inB e3 1 8) = false := by simpa only [Bool.not_eq_true', Bool.not_eq_false'] using h5
   refine ct_ rfl (sr_ (sg_ rfl (nn_ ?_)))
   refine gw_ret ?_
   refine nx_blk_ret (nx_blk_ret (nx_then_ret (nx_then_ret (nx_blk_ret (nx_then_ret ?_)))))
   have hE : evE sl vl (prevOf el i) (⟨e0, e1, e2, e3, e4⟩ : Ev) = 4 := by rw [evE_eq, h2', h3, h4', h5']; rfl
   have hF : logE sl vl el = 4 := by rw [hsc, hat, if_neg (by rw [hE]; decide), hE]
   refine nx_ret1 rfl rfl fun wx hm => ?_
   exact ⟨ret_int (by rw [hF]), hm.g⟩
  refine gw_set 35 rfl (congrArg Value.bool h5) ?_
  have h5' : (inB e3 1 8) = true := by simpa only [Bool.not_eq_true', Bool.not_eq_false'] using h5
  refine cf_ rfl (sr_ (fd_ fo45_3 rfl rfl (lk_ sc3 0 rfl rfl rfl (wl_ov (ov_neq rfl rfl) rfl (mv_ rfl ?_)))))
  rcases Bool.eq_false_or_eq_true (!decide (e3 = 6)) with h6 | h6
  ·refine wl_set 44 rfl (congrArg Value.bool h6) ?_
   have h6' : (decide (e3 = 6)) = false := by simpa only [Bool.not_eq_true', Bool.not_eq_false'] using h6
   refine wl_guard_on rfl rfl rfl (fd_ fo45_4 rfl rfl (wl_guard_on rfl rfl rfl (lk_ sc9 0 rfl rfl rfl (wl_guard_on rfl rfl rfl (wl_ov (ov_sneq rfl rfl) rfl (pt_ rfl rfl (sg_ rfl (nn_ ?_))))))))
   rcases Bool.eq_false_or_eq_true (!(e4.toList == (⟨#[]⟩ : ByteArray).toList)) with h7 | h7
   ·refine gw_set 40 rfl (congrArg Value.bool h7) ?_
    have h7' : (e4.toList == (⟨#[]⟩ : ByteArray).toList) = false := by simpa only [Bool.not_eq_true', Bool.not_eq_false'] using h7
    refine ct_ rfl (sr_ (sg_ rfl (nn_ ?_)))
    refine gw_ret ?_
    refine nx_blk_ret (nx_blk_ret (nx_then_ret (nx_then_ret (nx_blk_ret (nx_then_ret ?_)))))
    have hE : evE sl vl (prevOf el i) (⟨e0, e1, e2, e3, e4⟩ : Ev) = 3 := by rw [evE_eq, h2', h3, h4', h5', h6', h7']; rfl
    have hF : logE sl vl el = 3 := by rw [hsc, hat, if_neg (by rw [hE]; decide), hE]
    refine nx_ret1 rfl rfl fun wx hm => ?_
    exact ⟨ret_int (by rw [hF]), hm.g⟩
   refine gw_set 40 rfl (congrArg Value.bool h7) ?_
   have h7' : (e4.toList == (⟨#[]⟩ : ByteArray).toList) = true := by simpa only [Bool.not_eq_true', Bool.not_eq_false'] using h7
   refine cf_ rfl (sr_ (fd_ fo45_3 rfl rfl (lk_ sc3 0 rfl rfl rfl (wl_ov (ov_eql rfl rfl) rfl (mv_ rfl ?_)))))
   refine wl_set 53 rfl (congrArg Value.bool (show (decide (e3 = 6)) = false from h6')) ?_
   refine goff rfl rfl rfl (goff rfl rfl rfl (goff rfl rfl rfl (goff rfl rfl rfl (goff rfl rfl rfl (pf_ rfl rfl (sg_ rfl (nn_ (cf_ rfl (sr_ (fd_ fo45_4 rfl rfl (lk_ sc9 0 rfl rfl rfl ?_)))))))))))
   refine fd_ fo45_2 rfl rfl (lk_ sc9 0 rfl rfl rfl (wl_ov (ov_seql rfl rfl) rfl (sg_ rfl (nn_ ?_))))
   rcases Bool.eq_false_or_eq_true (e4.toList == e2.toList) with h8 | h8
   ·refine gw_set 60 rfl (congrArg Value.bool h8) ?_
    refine ct_ rfl (sr_ (sg_ rfl (nn_ ?_)))
    refine gw_ret ?_
    refine nx_blk_ret (nx_blk_ret (nx_then_ret (nx_then_ret (nx_blk_ret (nx_then_ret ?_)))))
    have hE : evE sl vl (prevOf el i) (⟨e0, e1, e2, e3, e4⟩ : Ev) = 14 := by rw [evE_eq, h2', h3, h4', h5', h6', h7', h8]; rfl
    have hF : logE sl vl el = 14 := by rw [hsc, hat, if_neg (by rw [hE]; decide), hE]
    refine nx_ret1 rfl rfl fun wx hm => ?_
    exact ⟨ret_int (by rw [hF]), hm.g⟩
   refine gw_set 60 rfl (congrArg Value.bool h8) ?_
   refine cf_ rfl (gw_seq ?_)
   refine gd (fun wz => Blk wz g2 45 [.int .i64 e0, .string e1, .string e2, .int .i64 e3, .string e4] /\ Blk wz g1 62 [.slice sA sn sc, .slice cA cn cc, .slice vA vn vc, .slice pA pn pc] /\ (SlOld stEnc 15 152 w.heap.size none sA sn sl) wz /\ (SlOld vhEnc 2 160 w.heap.size none vA vn vl) wz /\ (SlOld evEnc 5 45 w.heap.size none (some ⟨b, off, none⟩) en el) wz /\ True) mixed (fun _ hm => ⟨hm.bl 0, hm.bl 1, hm.fa 0, hm.fa 1, hm.fa 2, trivial⟩) fun z => ?_
   refine wt 0 13 1 rfl z (ov_move rfl) ?_
   refine wt 1 13 3 rfl z (ov_gtr rfl rfl) ?_
   refine wt 2 13 7 rfl z (ov_move rfl) ?_
   by_cases h0 : i = 0
   ·refine wa_set 69 rfl (congrArg Value.bool (decide_eq_false (by omega))) ?_
    refine wa_set 68 rfl (congrArg Value.bool (decide_eq_false (by omega))) ?_
    have hO : evO (prevOf el i) (⟨e0, e1, e2, e3, e4⟩ : Ev) = false := by rw [prevOf_zero h0]; rfl
    refine wtf 3 13 15 rfl rfl rfl z ?_
    refine wtf 4 13 31 rfl rfl rfl z ?_
    refine wtf 5 13 63 rfl rfl rfl z ?_
    refine wtf 6 13 127 rfl rfl rfl z ?_
    refine wtf 7 13 255 rfl rfl rfl z ?_
    refine wtf 8 13 511 rfl rfl rfl z ?_
    refine wtf 9 13 1023 rfl rfl rfl z ?_
    refine wtf 10 13 2047 rfl rfl rfl z ?_
    refine wt 11 13 4095 rfl z (ov_pick_f rfl rfl) ?_
    refine wt 12 13 8191 rfl z (ov_assign rfl) ?_
    refine wa_done (by kernel_rfl) ?_
    refine nx_then (cf_ rfl (gw_skip (nx_blk_nrm (nx_blk_nrm (nx_then (gw_region (ad_ rfl rfl (mv_ rfl (wl_nil ?_)))))))))
    have hE : evE sl vl (prevOf el i) (⟨e0, e1, e2, e3, e4⟩ : Ev) = 0 := by rw [evE_eq, h2', h3, h4', h5', h6', h7', h8, hO]; rfl
    exact nx_round (i + 1) ⟨by omega, by rw [hsc, hat, if_pos hE]⟩ (by omega) ⟨rfl, rfl, rfl, rfl, (some_int (by omega)), trivial⟩ (fun _ hm => hm.pick [1] [] [0, 1, 2] rfl rfl)
   refine wa_set 69 rfl (congrArg Value.bool (decide_eq_true (by omega))) ?_
   refine wa_set 68 rfl (congrArg Value.bool (decide_eq_true (by omega))) ?_
   obtain ⟨yy, hy⟩ : ∃ x, el[i - 1]? = some x := ⟨_, List.getElem?_eq_getElem (by omega)⟩
   obtain ⟨p0, p1, p2, p3, p4⟩ := yy
   obtain ⟨hp0, _, _, _, _⟩ := heok _ (List.mem_of_getElem? hy)
   have hp0 : -4000000000000000000 <= p0 /\ p0 <= 4000000000000000000 := hp0
   have hpo := prevOf_pos h0 hy
   refine wto 3 13 15 rfl rfl rfl z (ov_move rfl) ?_
   refine wto 4 13 31 rfl rfl rfl z (ov_move rfl) ?_
   refine wto 5 13 63 rfl rfl rfl z (ov_sub rfl rfl (by omega) (by omega)) ?_
   refine wa_set 72 (v' := .int .i64 (((i - 1) : Nat) : Int)) rfl (congrArg (Value.int .i64) (by omega)) ?_
   refine wto 6 13 127 rfl rfl rfl z (ov_index (j := (i - 1)) es39 rfl rfl (by omega)) ?_
   refine wto 7 13 255 rfl rfl rfl z (ov_elem (vs := [.int .i64 p0, .string p1, .string p2, .int .i64 p3, .string p4]) rz45 rfl (fun _ hm => (hm.2.2.2.2.1).1) hy rfl rfl) ?_
   refine wto 8 13 511 rfl rfl rfl z (ov_loads rz45 rfl (fun _ hm => hm.1) rfl rfl) ?_
   refine wa1 9 rfl ?_
   refine wl_guard_on rfl rfl rfl ?_
   refine wl_callv rfl cb18 rfl rfl (fun wx hm => (eventOrder_any p0 p1 p2 p3 p4 e0 e1 e2 e3 e4 wx hp0 he0)) ?_
   refine wl_nil ?_
   refine nw 13 1023 (fun _ hm => ⟨hm.bl 0, hm.bl 1, hm.fa 0, hm.fa 1, hm.fa 2, trivial⟩) fun z => ?_
   refine wto 10 13 2047 rfl rfl rfl z (ov_geq rfl rfl) ?_
   refine wt 11 13 4095 rfl z (ov_pick_t rfl rfl) ?_
   refine wt 12 13 8191 rfl z (ov_assign rfl) ?_
   refine wa_done (by kernel_rfl) ?_
   refine nx_then ?_
   rcases Bool.eq_false_or_eq_true (decide (0 <= evOrd (⟨p0, p1, p2, p3, p4⟩ : Ev) (⟨e0, e1, e2, e3, e4⟩ : Ev))) with h9 | h9
   ·refine gw_set 66 rfl (congrArg Value.bool h9) ?_
    have hO : evO (prevOf el i) (⟨e0, e1, e2, e3, e4⟩ : Ev) = true := by rw [hpo]; exact h9
    refine ct_ rfl (sr_ (sg_ rfl (nn_ ?_)))
    refine gw_ret ?_
    refine nx_blk_ret (nx_blk_ret (nx_then_ret (nx_then_ret (nx_blk_ret (nx_then_ret ?_)))))
    have hE : evE sl vl (prevOf el i) (⟨e0, e1, e2, e3, e4⟩ : Ev) = 7 := by rw [evE_eq, h2', h3, h4', h5', h6', h7', h8, hO]; rfl
    have hF : logE sl vl el = 7 := by rw [hsc, hat, if_neg (by rw [hE]; decide), hE]
    refine nx_ret1 rfl rfl fun wx hm => ?_
    exact ⟨ret_int (by rw [hF]), hm.g⟩
   refine gw_set 66 rfl (congrArg Value.bool h9) ?_
   have hO : evO (prevOf el i) (⟨e0, e1, e2, e3, e4⟩ : Ev) = false := by rw [hpo]; exact h9
   refine cf_ rfl (gw_skip (nx_blk_nrm (nx_blk_nrm (nx_then (gw_region (ad_ rfl rfl (mv_ rfl (wl_nil ?_))))))))
   have hE : evE sl vl (prevOf el i) (⟨e0, e1, e2, e3, e4⟩ : Ev) = 0 := by rw [evE_eq, h2', h3, h4', h5', h6', h7', h8, hO]; rfl
   exact nx_round (i + 1) ⟨by omega, by rw [hsc, hat, if_pos hE]⟩ (by omega) ⟨rfl, rfl, rfl, rfl, (some_int (by omega)), trivial⟩ (fun _ hm => hm.pick [1] [] [0, 1, 2] rfl rfl)
  refine wl_set 44 rfl (congrArg Value.bool h6) ?_
  have h6' : (decide (e3 = 6)) = true := by simpa only [Bool.not_eq_true', Bool.not_eq_false'] using h6
  refine goff rfl rfl rfl (goff rfl rfl rfl (goff rfl rfl rfl (pf_ rfl rfl (sg_ rfl (nn_ (cf_ rfl (sr_ (fd_ fo45_3 rfl rfl (lk_ sc3 0 rfl rfl rfl (wl_ov (ov_eql rfl rfl) rfl (mv_ rfl ?_)))))))))))
  refine wl_set 53 rfl (congrArg Value.bool (show (decide (e3 = 6)) = true from h6')) ?_
  refine wl_guard_on rfl rfl rfl ?_
  refine wl_ov (ov_loads rz62 rfl (fun _ hm => hm.blkI 1 rfl) rfl rfl) rfl ?_
  refine wl_guard_on rfl rfl rfl (fd_ fo45_4 rfl rfl (wl_guard_on rfl rfl rfl (lk_ sc9 0 rfl rfl rfl (wl_guard_on rfl rfl rfl ?_))))
  refine wl_callv rfl cb206 rfl rfl (fun wx hm => (rStationAt_any sl sA cA vA pA sn sc cn cc vn vc pn pc e4 wx (hm.fact 0 rfl).1 hsok (by omega))) ?_
  refine wl_guard_on rfl rfl rfl (wl_ov (ov_lss rfl rfl) rfl ?_)
  refine wl_set 58 (v' := .bool (!sl.any (stP e4))) rfl (congrArg Value.bool ix_neg) ?_
  refine pt_ rfl rfl (sg_ rfl (nn_ ?_))
  rcases Bool.eq_false_or_eq_true (!sl.any (stP e4)) with h7 | h7
  ·refine gw_set 49 rfl (congrArg Value.bool h7) ?_
   have h7' : (sl.any (stP e4)) = false := by simpa only [Bool.not_eq_true', Bool.not_eq_false'] using h7
   refine ct_ rfl (sr_ (sg_ rfl (nn_ ?_)))
   refine gw_ret ?_
   refine nx_blk_ret (nx_blk_ret (nx_then_ret (nx_then_ret (nx_blk_ret (nx_then_ret ?_)))))
   have hE : evE sl vl (prevOf el i) (⟨e0, e1, e2, e3, e4⟩ : Ev) = 8 := by rw [evE_eq, h2', h3, h4', h5', h6', h7']; rfl
   have hF : logE sl vl el = 8 := by rw [hsc, hat, if_neg (by rw [hE]; decide), hE]
   refine nx_ret1 rfl rfl fun wx hm => ?_
   exact ⟨ret_int (by rw [hF]), hm.g⟩
  refine gw_set 49 rfl (congrArg Value.bool h7) ?_
  have h7' : (sl.any (stP e4)) = true := by simpa only [Bool.not_eq_true', Bool.not_eq_false'] using h7
  refine cf_ rfl (sr_ (fd_ fo45_4 rfl rfl (lk_ sc9 0 rfl rfl rfl (fd_ fo45_2 rfl rfl (lk_ sc9 0 rfl rfl rfl (wl_ov (ov_seql rfl rfl) rfl (sg_ rfl (nn_ ?_))))))))
  rcases Bool.eq_false_or_eq_true (e4.toList == e2.toList) with h8 | h8
  ·refine gw_set 60 rfl (congrArg Value.bool h8) ?_
   refine ct_ rfl (sr_ (sg_ rfl (nn_ ?_)))
   refine gw_ret ?_
   refine nx_blk_ret (nx_blk_ret (nx_then_ret (nx_then_ret (nx_blk_ret (nx_then_ret ?_)))))
   have hE : evE sl vl (prevOf el i) (⟨e0, e1, e2, e3, e4⟩ : Ev) = 14 := by rw [evE_eq, h2', h3, h4', h5', h6', h7', h8]; rfl
   have hF : logE sl vl el = 14 := by rw [hsc, hat, if_neg (by rw [hE]; decide), hE]
   refine nx_ret1 rfl rfl fun wx hm => ?_
   exact ⟨ret_int (by rw [hF]), hm.g⟩
  refine gw_set 60 rfl (congrArg Value.bool h8) ?_
  refine cf_ rfl (gw_seq ?_)
  refine gd (fun wz => Blk wz g2 45 [.int .i64 e0, .string e1, .string e2, .int .i64 e3, .string e4] /\ Blk wz g1 62 [.slice sA sn sc, .slice cA cn cc, .slice vA vn vc, .slice pA pn pc] /\ (SlOld stEnc 15 152 w.heap.size none sA sn sl) wz /\ (SlOld vhEnc 2 160 w.heap.size none vA vn vl) wz /\ (SlOld evEnc 5 45 w.heap.size none (some ⟨b, off, none⟩) en el) wz /\ True) mixed (fun _ hm => ⟨hm.bl 0, hm.bl 1, hm.fa 0, hm.fa 1, hm.fa 2, trivial⟩) fun z => ?_
  refine wt 0 13 1 rfl z (ov_move rfl) ?_
  refine wt 1 13 3 rfl z (ov_gtr rfl rfl) ?_
  refine wt 2 13 7 rfl z (ov_move rfl) ?_
  by_cases h0 : i = 0
  ·refine wa_set 69 rfl (congrArg Value.bool (decide_eq_false (by omega))) ?_
   refine wa_set 68 rfl (congrArg Value.bool (decide_eq_false (by omega))) ?_
   have hO : evO (prevOf el i) (⟨e0, e1, e2, e3, e4⟩ : Ev) = false := by rw [prevOf_zero h0]; rfl
   refine wtf 3 13 15 rfl rfl rfl z ?_
   refine wtf 4 13 31 rfl rfl rfl z ?_
   refine wtf 5 13 63 rfl rfl rfl z ?_
   refine wtf 6 13 127 rfl rfl rfl z ?_
   refine wtf 7 13 255 rfl rfl rfl z ?_
   refine wtf 8 13 511 rfl rfl rfl z ?_
   refine wtf 9 13 1023 rfl rfl rfl z ?_
   refine wtf 10 13 2047 rfl rfl rfl z ?_
   refine wt 11 13 4095 rfl z (ov_pick_f rfl rfl) ?_
   refine wt 12 13 8191 rfl z (ov_assign rfl) ?_
   refine wa_done (by kernel_rfl) ?_
   refine nx_then (cf_ rfl (gw_skip (nx_blk_nrm (nx_blk_nrm (nx_then (gw_region (ad_ rfl rfl (mv_ rfl (wl_nil ?_)))))))))
   have hE : evE sl vl (prevOf el i) (⟨e0, e1, e2, e3, e4⟩ : Ev) = 0 := by rw [evE_eq, h2', h3, h4', h5', h6', h7', h8, hO]; rfl
   exact nx_round (i + 1) ⟨by omega, by rw [hsc, hat, if_pos hE]⟩ (by omega) ⟨rfl, rfl, rfl, rfl, (some_int (by omega)), trivial⟩ (fun _ hm => hm.pick [1] [] [0, 1, 2] rfl rfl)
  refine wa_set 69 rfl (congrArg Value.bool (decide_eq_true (by omega))) ?_
  refine wa_set 68 rfl (congrArg Value.bool (decide_eq_true (by omega))) ?_
  obtain ⟨yy, hy⟩ : ∃ x, el[i - 1]? = some x := ⟨_, List.getElem?_eq_getElem (by omega)⟩
  obtain ⟨p0, p1, p2, p3, p4⟩ := yy
  obtain ⟨hp0, _, _, _, _⟩ := heok _ (List.mem_of_getElem? hy)
  have hp0 : -4000000000000000000 <= p0 /\ p0 <= 4000000000000000000 := hp0
  have hpo := prevOf_pos h0 hy
  refine wto 3 13 15 rfl rfl rfl z (ov_move rfl) ?_
  refine wto 4 13 31 rfl rfl rfl z (ov_move rfl) ?_
  refine wto 5 13 63 rfl rfl rfl z (ov_sub rfl rfl (by omega) (by omega)) ?_
  refine wa_set 72 (v' := .int .i64 (((i - 1) : Nat) : Int)) rfl (congrArg (Value.int .i64) (by omega)) ?_
  refine wto 6 13 127 rfl rfl rfl z (ov_index (j := (i - 1)) es39 rfl rfl (by omega)) ?_
  refine wto 7 13 255 rfl rfl rfl z (ov_elem (vs := [.int .i64 p0, .string p1, .string p2, .int .i64 p3, .string p4]) rz45 rfl (fun _ hm => (hm.2.2.2.2.1).1) hy rfl rfl) ?_
  refine wto 8 13 511 rfl rfl rfl z (ov_loads rz45 rfl (fun _ hm => hm.1) rfl rfl) ?_
  refine wa1 9 rfl ?_
  refine wl_guard_on rfl rfl rfl ?_
  refine wl_callv rfl cb18 rfl rfl (fun wx hm => (eventOrder_any p0 p1 p2 p3 p4 e0 e1 e2 e3 e4 wx hp0 he0)) ?_
  refine wl_nil ?_
  refine nw 13 1023 (fun _ hm => ⟨hm.bl 0, hm.bl 1, hm.fa 0, hm.fa 1, hm.fa 2, trivial⟩) fun z => ?_
  refine wto 10 13 2047 rfl rfl rfl z (ov_geq rfl rfl) ?_
  refine wt 11 13 4095 rfl z (ov_pick_t rfl rfl) ?_
  refine wt 12 13 8191 rfl z (ov_assign rfl) ?_
  refine wa_done (by kernel_rfl) ?_
  refine nx_then ?_
  rcases Bool.eq_false_or_eq_true (decide (0 <= evOrd (⟨p0, p1, p2, p3, p4⟩ : Ev) (⟨e0, e1, e2, e3, e4⟩ : Ev))) with h9 | h9
  ·refine gw_set 66 rfl (congrArg Value.bool h9) ?_
   have hO : evO (prevOf el i) (⟨e0, e1, e2, e3, e4⟩ : Ev) = true := by rw [hpo]; exact h9
   refine ct_ rfl (sr_ (sg_ rfl (nn_ ?_)))
   refine gw_ret ?_
   refine nx_blk_ret (nx_blk_ret (nx_then_ret (nx_then_ret (nx_blk_ret (nx_then_ret ?_)))))
   have hE : evE sl vl (prevOf el i) (⟨e0, e1, e2, e3, e4⟩ : Ev) = 7 := by rw [evE_eq, h2', h3, h4', h5', h6', h7', h8, hO]; rfl
   have hF : logE sl vl el = 7 := by rw [hsc, hat, if_neg (by rw [hE]; decide), hE]
   refine nx_ret1 rfl rfl fun wx hm => ?_
   exact ⟨ret_int (by rw [hF]), hm.g⟩
  refine gw_set 66 rfl (congrArg Value.bool h9) ?_
  have hO : evO (prevOf el i) (⟨e0, e1, e2, e3, e4⟩ : Ev) = false := by rw [hpo]; exact h9
  refine cf_ rfl (gw_skip (nx_blk_nrm (nx_blk_nrm (nx_then (gw_region (ad_ rfl rfl (mv_ rfl (wl_nil ?_))))))))
  have hE : evE sl vl (prevOf el i) (⟨e0, e1, e2, e3, e4⟩ : Ev) = 0 := by rw [evE_eq, h2', h3, h4', h5', h6', h7', h8, hO]; rfl
  exact nx_round (i + 1) ⟨by omega, by rw [hsc, hat, if_pos hE]⟩ (by omega) ⟨rfl, rfl, rfl, rfl, (some_int (by omega)), trivial⟩ (fun _ hm => hm.pick [1] [] [0, 1, 2] rfl rfl)
 have hi : ¬ (((i : Nat) : Int) < ((en : Nat) : Int)) := by simpa using hh
 clear hh
 refine gw_exit ?_
 refine nx_then_exit (nx_then_exit ?_)
 refine nx_blk_here ?_
 refine nx_then (sr_ (sg_ rfl (nn_ ?_)))
 refine gw_ret ?_
 refine nx_ret1 rfl rfl fun wx hm => ?_
 exact ⟨ret_int (by rw [hsc, scanE_end _ _ _ _ (by omega)]), hm.g⟩
theorem check_any (sl : List St) (vl : List Vh) (sA cA vA pA : Option Addr) (sn sc cn cc vn vc pn pc : Nat) (el : List Ev) (eA : Option Addr) (en ec : Nat) (w : World) (hs : SlT stEnc 15 152 w sA sn sl) (hv : SlT vhEnc 2 160 w vA vn vl) (hsok : ∀ x ∈ sl, StOk x) (hsn : sn <= 1000000) (hvn : vn <= 1000000) (hl : SlT evEnc 5 45 w eA en el) (heok : ∀ x ∈ el, EvOk x) (hen : en <= 1000000) (hrise : Rise vl) :
  Calls Tryz.prog 120 #[.agg #[.slice sA sn sc, .slice cA cn cc, .slice vA vn vc, .slice pA pn pc], .slice eA en ec] w (GotE w (logE sl vl el)) := by
 refine gw_enter ⟨81, w, none, []⟩ Tryz.func120 rfl Tryz.ntmps120 rfl (mem0 (X := [SlOld stEnc 15 152 w.heap.size none sA sn sl, SlOld vhEnc 2 160 w.heap.size none vA vn vl, SlOld evEnc 5 45 w.heap.size none eA en el]) (allF_cons hs.old (allF_cons hv.old (allF_cons hl.old allF_nil))) (allL_cons SlOld.lasts (allL_cons SlOld.lasts (allL_cons SlOld.lasts allL_nil)))) ?_
 refine sr_ ?_
 have hlen := hl.len
 refine wl_box rfl rfl rfl fun g1 => ?_
 refine sg_ rfl (nn_ (gw_seq (sr_ (mv_ rfl (wl_ov (ov_len es39 rfl) rfl ?_)))))
 refine wl_ov (ov_gtr rfl rfl) rfl ?_
 refine nn_ ?_
 refine gw_cond rfl (fun hh => ?_) (fun hh => ?_)
 ·have h1 : 3000 < ((en : Nat) : Int) := by simpa using hh
  clear hh
  refine sr_ (sg_ rfl (nn_ ?_))
  refine gw_ret ?_
  refine nx_then_ret ?_
  refine nx_ret1 rfl rfl fun wx hm => ?_
  exact ⟨ret_int (by unfold logE; rw [if_pos (by omega)]), hm.g⟩
 have h1 : ¬ (3000 < ((en : Nat) : Int)) := by simpa using hh
 clear hh
 refine gw_skip (nx_then (gw_seq (sr_ (mv_ rfl (wl_ov (ov_len es39 rfl) rfl (mv_ rfl (nn_ (gw_block ?_))))))))
 refine gw_loop (γ := Nat) (fun (i : Nat) => i <= en /\ logE sl vl el = scanE (evE sl vl) (prevOf el i) (el.drop i)) (fun (i : Nat) => [(1, .slice eA en ec), (2, .pointer (some ⟨g1, 0, none⟩)), (11, .slice eA en ec), (12, .int .i64 ((en : Nat) : Int)), (13, .int .i64 ((i : Nat) : Int))]) (fun (i : Nat) => fun _ => True) (fun (i : Nat) => [(g1, 62, [.slice sA sn sc, .slice cA cn cc, .slice vA vn vc, .slice pA pn pc])]) (fun (i : Nat) => []) (fun (i : Nat) => [SlOld stEnc 15 152 w.heap.size none sA sn sl, SlOld vhEnc 2 160 w.heap.size none vA vn vl, SlOld evEnc 5 45 w.heap.size none eA en el]) (fun (i : Nat) => en - i) 0 ⟨Nat.zero_le _, by unfold logE; rw [if_neg (by omega)]; rfl⟩ ⟨rfl, rfl, rfl, rfl, rfl, trivial⟩ (fun _ hm => hm.pick [0] [] [0, 1, 2] rfl rfl) ?_
 intro i hinv
 replace hinv : i <= en /\ logE sl vl el = scanE (evE sl vl) (prevOf el i) (el.drop i) := hinv
 refine sr_ ?_
 obtain ⟨hi0, hsc⟩ := hinv
 refine wl_ov (ov_lss rfl rfl) rfl (nn_ (gw_seq ?_))
 refine gw_cond rfl (fun hh => ?_) (fun hh => ?_)
 ·have hi : ((i : Nat) : Int) < ((en : Nat) : Int) := by simpa using hh
  clear hh
  refine gw_skip (nx_then (gw_seq (gw_block (sr_ ?_))))
  obtain ⟨b, off, hA, _, _⟩ := hl.get (by omega)
  subst hA
  obtain ⟨x, hx⟩ : ∃ x, el[i]? = some x := ⟨_, List.getElem?_eq_getElem (by omega)⟩
  obtain ⟨e0, e1, e2, e3, e4⟩ := x
  have hat := scanE_at (evE sl vl) el i _ hx
  obtain ⟨he0, he3, hz1, hz2, hz4⟩ := heok _ (List.mem_of_getElem? hx)
  have he0 : -4000000000000000000 <= e0 /\ e0 <= 4000000000000000000 := he0
  have hz1 : e1.size <= 1000000 := hz1
  refine mv_ rfl ?_
  refine wl_ov (ov_index (j := i) es39 rfl rfl (by omega)) rfl ?_
  refine wl_ov (ov_elem (vs := [.int .i64 e0, .string e1, .string e2, .int .i64 e3, .string e4]) rz45 rfl (fun _ hm => (hm.fact 2 rfl).1) hx rfl rfl) rfl ?_
  refine wl_alloc zc45 rfl fun g2 => ?_
  refine sg_ rfl ?_
  refine wl_stores (cs' := [.int .i64 e0, .string e1, .string e2, .int .i64 e3, .string e4]) 0 rz45 rfl rfl rfl rfl rfl rfl rfl rfl ?_
  refine nn_ (sr_ (fd_ fo45_3 rfl rfl (lk_ sc3 0 rfl rfl rfl (wl_ov (ov_eql rfl rfl) rfl (sg_ rfl (nn_ (gw_block (sr_ (fd_ fo45_0 rfl rfl ?_)))))))))
  refine lk_ sc3 0 rfl rfl rfl ?_
  refine wl_callv rfl cb214 rfl rfl (fun wx hm => ((isMoment_any _ wx).mono fun _ _ ⟨he, hw⟩ => ⟨he, hw ▸ World.grownBy.refl _ _⟩)) ?_
  refine wl_ov (ov_un_not rfl) rfl (sg_ rfl (nn_ ?_))
  rcases Bool.eq_false_or_eq_true (!(inB e0 0 5761439)) with h2 | h2
  ·refine gw_set 21 rfl (congrArg Value.bool h2) ?_
   have h2' : (inB e0 0 5761439) = false := by simpa only [Bool.not_eq_true', Bool.not_eq_false'] using h2
   refine ct_ rfl (sr_ (sg_ rfl (nn_ ?_)))
   refine gw_ret ?_
   refine nx_blk_ret (nx_blk_ret (nx_then_ret (nx_then_ret (nx_blk_ret (nx_then_ret ?_)))))
   have hE : evE sl vl (prevOf el i) (⟨e0, e1, e2, e3, e4⟩ : Ev) = 1 := by rw [evE_eq, h2']; rfl
   have hF : logE sl vl el = 1 := by rw [hsc, hat, if_neg (by rw [hE]; decide), hE]
   refine nx_ret1 rfl rfl fun wx hm => ?_
   exact ⟨ret_int (by rw [hF]), hm.g⟩
  refine gw_set 21 rfl (congrArg Value.bool h2) ?_
  have h2' : (inB e0 0 5761439) = true := by simpa only [Bool.not_eq_true', Bool.not_eq_false'] using h2
  refine cf_ rfl (sr_ ?_)
  refine wl_ov (ov_loads rz62 rfl (fun _ hm => hm.blkI 1 rfl) rfl rfl) rfl ?_
  refine fd_ fo45_1 rfl rfl (lk_ sc9 0 rfl rfl rfl ?_)
  refine wl_callv rfl cb215 rfl rfl (fun wx hm => (vehicleAt_any vl sA cA vA pA sn sc cn cc vn vc pn pc e1 wx (hm.fact 1 rfl).1 (by omega) hrise)) ?_
  refine wl_ov (ov_lss rfl rfl) rfl (mv_ rfl ?_)
  rcases Bool.eq_false_or_eq_true (decide (ixP (vhP e1) vl 0 < 0)) with h3 | h3
  ·refine wl_set 32 rfl (congrArg Value.bool h3) ?_
   refine goff rfl rfl rfl (goff rfl rfl rfl (goff rfl rfl rfl (goff rfl rfl rfl (goff rfl rfl rfl (pt_ rfl rfl (sg_ rfl (nn_ (ct_ rfl (sr_ (sg_ rfl (wl_nil ?_)))))))))))
   refine nx_then ?_
   refine gw_ret ?_
   refine nx_blk_ret (nx_blk_ret (nx_then_ret (nx_then_ret (nx_blk_ret (nx_then_ret ?_)))))
   have hE : evE sl vl (prevOf el i) (⟨e0, e1, e2, e3, e4⟩ : Ev) = 8 := by rw [evE_eq, h2', h3]; rfl
   have hF : logE sl vl el = 8 := by rw [hsc, hat, if_neg (by rw [hE]; decide), hE]
   refine nx_ret1 rfl rfl fun wx hm => ?_
   exact ⟨ret_int (by rw [hF]), hm.g⟩
  refine wl_set 32 rfl (congrArg Value.bool h3) ?_
  refine wl_guard_on rfl rfl rfl ?_
  refine wl_ov (ov_loads rz62 rfl (fun _ hm => hm.blkI 1 rfl) rfl rfl) rfl ?_
  refine wl_guard_on rfl rfl rfl (fd_ fo45_2 rfl rfl (wl_guard_on rfl rfl rfl (lk_ sc9 0 rfl rfl rfl (wl_guard_on rfl rfl rfl ?_))))
  refine wl_callv rfl cb216 rfl rfl (fun wx hm => (hasStation_any sl sA cA vA pA sn sc cn cc vn vc pn pc e2 wx (hm.fact 0 rfl).1 hsok (by omega))) ?_
  refine wl_guard_on rfl rfl rfl (wl_ov (ov_un_not rfl) rfl (pf_ rfl rfl (sg_ rfl (nn_ ?_))))
  rcases Bool.eq_false_or_eq_true (!(sl.any (stP e2))) with h4 | h4
  ·refine gw_set 26 rfl (congrArg Value.bool h4) ?_
   have h4' : (sl.any (stP e2)) = false := by simpa only [Bool.not_eq_true', Bool.not_eq_false'] using h4
   refine ct_ rfl (sr_ (sg_ rfl (nn_ ?_)))
   refine gw_ret ?_
   refine nx_blk_ret (nx_blk_ret (nx_then_ret (nx_then_ret (nx_blk_ret (nx_then_ret ?_)))))
   have hE : evE sl vl (prevOf el i) (⟨e0, e1, e2, e3, e4⟩ : Ev) = 8 := by rw [evE_eq, h2', h3, h4']; rfl
   have hF : logE sl vl el = 8 := by rw [hsc, hat, if_neg (by rw [hE]; decide), hE]
   refine nx_ret1 rfl rfl fun wx hm => ?_
   exact ⟨ret_int (by rw [hF]), hm.g⟩
  refine gw_set 26 rfl (congrArg Value.bool h4) ?_
  have h4' : (sl.any (stP e2)) = true := by simpa only [Bool.not_eq_true', Bool.not_eq_false'] using h4
  refine cf_ rfl (sr_ (fd_ fo45_3 rfl rfl (lk_ sc3 0 rfl rfl rfl ?_)))
  refine wl_callw rfl cb166 rfl rfl (fun wx hm => (in_any _ _ _ wx)) ?_
  refine wl_ov (ov_un_not rfl) rfl (sg_ rfl (nn_ ?_))
  rcases Bool.eq_false_or_eq_true (!(inB e3 1 8)) with h5 | h5
  ·refine gw_set 39 rfl (congrArg Value.bool h5) ?_
   have h5' : (inB e3 1 8) = false := by simpa only [Bool.not_eq_true', Bool.not_eq_false'] using h5
   refine ct_ rfl (sr_ (sg_ rfl (nn_ ?_)))
   refine gw_ret ?_
   refine nx_blk_ret (nx_blk_ret (nx_then_ret (nx_then_ret (nx_blk_ret (nx_then_ret ?_)))))
   have hE : evE sl vl (prevOf el i) (⟨e0, e1, e2, e3, e4⟩ : Ev) = 4 := by rw [evE_eq, h2', h3, h4', h5']; rfl
   have hF : logE sl vl el = 4 := by rw [hsc, hat, if_neg (by rw [hE]; decide), hE]
   refine nx_ret1 rfl rfl fun wx hm => ?_
   exact ⟨ret_int (by rw [hF]), hm.g⟩
  refine gw_set 39 rfl (congrArg Value.bool h5) ?_
  have h5' : (inB e3 1 8) = true := by simpa only [Bool.not_eq_true', Bool.not_eq_false'] using h5
  refine cf_ rfl (sr_ (fd_ fo45_4 rfl rfl (lk_ sc9 0 rfl rfl rfl (wl_ov (ov_sneq rfl rfl) rfl (mv_ rfl ?_)))))
  rcases Bool.eq_false_or_eq_true (!(e4.toList == (⟨#[]⟩ : ByteArray).toList)) with h6 | h6
  ·refine wl_set 48 rfl (congrArg Value.bool h6) ?_
   have h6' : (e4.toList == (⟨#[]⟩ : ByteArray).toList) = false := by simpa only [Bool.not_eq_true', Bool.not_eq_false'] using h6
   refine wl_guard_on rfl rfl rfl (mv_ rfl (wl_guard_on rfl rfl rfl (wl_ov (ov_un_not rfl) rfl (pt_ rfl rfl (sg_ rfl (nn_ ?_))))))
   rcases Bool.eq_false_or_eq_true (!(decide (e3 = 6))) with h7 | h7
   ·refine gw_set 44 rfl (congrArg Value.bool h7) ?_
    have h7' : (decide (e3 = 6)) = false := by simpa only [Bool.not_eq_true', Bool.not_eq_false'] using h7
    refine ct_ rfl (sr_ (sg_ rfl (nn_ ?_)))
    refine gw_ret ?_
    refine nx_blk_ret (nx_blk_ret (nx_then_ret (nx_then_ret (nx_blk_ret (nx_then_ret ?_)))))
    have hE : evE sl vl (prevOf el i) (⟨e0, e1, e2, e3, e4⟩ : Ev) = 3 := by rw [evE_eq, h2', h3, h4', h5', h6', h7']; rfl
    have hF : logE sl vl el = 3 := by rw [hsc, hat, if_neg (by rw [hE]; decide), hE]
    refine nx_ret1 rfl rfl fun wx hm => ?_
    exact ⟨ret_int (by rw [hF]), hm.g⟩
   refine gw_set 44 rfl (congrArg Value.bool h7) ?_
   have h7' : (decide (e3 = 6)) = true := by simpa only [Bool.not_eq_true', Bool.not_eq_false'] using h7
   refine cf_ rfl (sr_ (mv_ rfl (mv_ rfl ?_)))
   refine wl_set 54 rfl (congrArg Value.bool (show (decide (e3 = 6)) = true from h7')) ?_
   refine wl_guard_on rfl rfl rfl ?_
   refine wl_ov (ov_loads rz62 rfl (fun _ hm => hm.blkI 1 rfl) rfl rfl) rfl ?_
   refine wl_guard_on rfl rfl rfl (fd_ fo45_4 rfl rfl (wl_guard_on rfl rfl rfl (lk_ sc9 0 rfl rfl rfl (wl_guard_on rfl rfl rfl ?_))))
   refine wl_callv rfl cb216 rfl rfl (fun wx hm => (hasStation_any sl sA cA vA pA sn sc cn cc vn vc pn pc e4 wx (hm.fact 0 rfl).1 hsok (by omega))) ?_
   refine wl_guard_on rfl rfl rfl (wl_ov (ov_un_not rfl) rfl (pt_ rfl rfl (sg_ rfl (nn_ ?_))))
   rcases Bool.eq_false_or_eq_true (!(sl.any (stP e4))) with h8 | h8
   ·refine gw_set 52 rfl (congrArg Value.bool h8) ?_
    have h8' : (sl.any (stP e4)) = false := by simpa only [Bool.not_eq_true', Bool.not_eq_false'] using h8
    refine ct_ rfl (sr_ (sg_ rfl (nn_ ?_)))
    refine gw_ret ?_
    refine nx_blk_ret (nx_blk_ret (nx_then_ret (nx_then_ret (nx_blk_ret (nx_then_ret ?_)))))
    have hE : evE sl vl (prevOf el i) (⟨e0, e1, e2, e3, e4⟩ : Ev) = 8 := by rw [evE_eq, h2', h3, h4', h5', h6', h7', h8']; rfl
    have hF : logE sl vl el = 8 := by rw [hsc, hat, if_neg (by rw [hE]; decide), hE]
    refine nx_ret1 rfl rfl fun wx hm => ?_
    exact ⟨ret_int (by rw [hF]), hm.g⟩
   refine gw_set 52 rfl (congrArg Value.bool h8) ?_
   have h8' : (sl.any (stP e4)) = true := by simpa only [Bool.not_eq_true', Bool.not_eq_false'] using h8
   refine cf_ rfl (sr_ (fd_ fo45_4 rfl rfl (lk_ sc9 0 rfl rfl rfl (fd_ fo45_2 rfl rfl (lk_ sc9 0 rfl rfl rfl (wl_ov (ov_seql rfl rfl) rfl (sg_ rfl (nn_ ?_))))))))
   rcases Bool.eq_false_or_eq_true (e4.toList == e2.toList) with h9 | h9
   ·refine gw_set 61 rfl (congrArg Value.bool h9) ?_
    refine ct_ rfl (sr_ (sg_ rfl (nn_ ?_)))
    refine gw_ret ?_
    refine nx_blk_ret (nx_blk_ret (nx_then_ret (nx_then_ret (nx_blk_ret (nx_then_ret ?_)))))
    have hE : evE sl vl (prevOf el i) (⟨e0, e1, e2, e3, e4⟩ : Ev) = 14 := by rw [evE_eq, h2', h3, h4', h5', h6', h7', h8', h9]; rfl
    have hF : logE sl vl el = 14 := by rw [hsc, hat, if_neg (by rw [hE]; decide), hE]
    refine nx_ret1 rfl rfl fun wx hm => ?_
    exact ⟨ret_int (by rw [hF]), hm.g⟩
   refine gw_set 61 rfl (congrArg Value.bool h9) ?_
   refine cf_ rfl (gw_seq ?_)
   refine gd (fun wz => Blk wz g2 45 [.int .i64 e0, .string e1, .string e2, .int .i64 e3, .string e4] /\ Blk wz g1 62 [.slice sA sn sc, .slice cA cn cc, .slice vA vn vc, .slice pA pn pc] /\ (SlOld stEnc 15 152 w.heap.size none sA sn sl) wz /\ (SlOld vhEnc 2 160 w.heap.size none vA vn vl) wz /\ (SlOld evEnc 5 45 w.heap.size none (some ⟨b, off, none⟩) en el) wz /\ True) mixed (fun _ hm => ⟨hm.bl 0, hm.bl 1, hm.fa 0, hm.fa 1, hm.fa 2, trivial⟩) fun z => ?_
   refine wt 0 13 1 rfl z (ov_move rfl) ?_
   refine wt 1 13 3 rfl z (ov_gtr rfl rfl) ?_
   refine wt 2 13 7 rfl z (ov_move rfl) ?_
   by_cases h0 : i = 0
   ·refine wa_set 70 rfl (congrArg Value.bool (decide_eq_false (by omega))) ?_
    refine wa_set 69 rfl (congrArg Value.bool (decide_eq_false (by omega))) ?_
    have hO : evO (prevOf el i) (⟨e0, e1, e2, e3, e4⟩ : Ev) = false := by rw [prevOf_zero h0]; rfl
    refine wtf 3 13 15 rfl rfl rfl z ?_
    refine wtf 4 13 31 rfl rfl rfl z ?_
    refine wtf 5 13 63 rfl rfl rfl z ?_
    refine wtf 6 13 127 rfl rfl rfl z ?_
    refine wtf 7 13 255 rfl rfl rfl z ?_
    refine wtf 8 13 511 rfl rfl rfl z ?_
    refine wtf 9 13 1023 rfl rfl rfl z ?_
    refine wtf 10 13 2047 rfl rfl rfl z ?_
    refine wt 11 13 4095 rfl z (ov_pick_f rfl rfl) ?_
    refine wt 12 13 8191 rfl z (ov_assign rfl) ?_
    refine wa_done (by kernel_rfl) ?_
    refine nx_then (cf_ rfl (gw_skip (nx_blk_nrm (nx_blk_nrm (nx_then (gw_region (ad_ rfl rfl (mv_ rfl (wl_nil ?_)))))))))
    have hE : evE sl vl (prevOf el i) (⟨e0, e1, e2, e3, e4⟩ : Ev) = 0 := by rw [evE_eq, h2', h3, h4', h5', h6', h7', h8', h9, hO]; rfl
    exact nx_round (i + 1) ⟨by omega, by rw [hsc, hat, if_pos hE]⟩ (by omega) ⟨rfl, rfl, rfl, rfl, (some_int (by omega)), trivial⟩ (fun _ hm => hm.pick [1] [] [0, 1, 2] rfl rfl)
   refine wa_set 70 rfl (congrArg Value.bool (decide_eq_true (by omega))) ?_
   refine wa_set 69 rfl (congrArg Value.bool (decide_eq_true (by omega))) ?_
   obtain ⟨yy, hy⟩ : ∃ x, el[i - 1]? = some x := ⟨_, List.getElem?_eq_getElem (by omega)⟩
   obtain ⟨p0, p1, p2, p3, p4⟩ := yy
   obtain ⟨hp0, _, _, _, _⟩ := heok _ (List.mem_of_getElem? hy)
   have hp0 : -4000000000000000000 <= p0 /\ p0 <= 4000000000000000000 := hp0
   have hpo := prevOf_pos h0 hy
   refine wto 3 13 15 rfl rfl rfl z (ov_move rfl) ?_
   refine wto 4 13 31 rfl rfl rfl z (ov_move rfl) ?_
   refine wto 5 13 63 rfl rfl rfl z (ov_sub rfl rfl (by omega) (by omega)) ?_
   refine wa_set 73 (v' := .int .i64 (((i - 1) : Nat) : Int)) rfl (congrArg (Value.int .i64) (by omega)) ?_
   refine wto 6 13 127 rfl rfl rfl z (ov_index (j := (i - 1)) es39 rfl rfl (by omega)) ?_
   refine wto 7 13 255 rfl rfl rfl z (ov_elem (vs := [.int .i64 p0, .string p1, .string p2, .int .i64 p3, .string p4]) rz45 rfl (fun _ hm => (hm.2.2.2.2.1).1) hy rfl rfl) ?_
   refine wto 8 13 511 rfl rfl rfl z (ov_loads rz45 rfl (fun _ hm => hm.1) rfl rfl) ?_
   refine wa1 9 rfl ?_
   refine wl_guard_on rfl rfl rfl ?_
   refine wl_callv (v := .int .i64 (evOrd (⟨p0, p1, p2, p3, p4⟩ : Ev) (⟨e0, e1, e2, e3, e4⟩ : Ev))) rfl cb217 rfl rfl (fun wx hm => (byTime_any p0 p1 p2 p3 p4 e0 e1 e2 e3 e4 wx)) ?_
   refine wl_nil ?_
   refine nw 13 1023 (fun _ hm => ⟨hm.bl 0, hm.bl 1, hm.fa 0, hm.fa 1, hm.fa 2, trivial⟩) fun z => ?_
   refine wto 10 13 2047 rfl rfl rfl z (ov_geq rfl rfl) ?_
   refine wt 11 13 4095 rfl z (ov_pick_t rfl rfl) ?_
   refine wt 12 13 8191 rfl z (ov_assign rfl) ?_
   refine wa_done (by kernel_rfl) ?_
   refine nx_then ?_
   rcases Bool.eq_false_or_eq_true (decide (0 <= evOrd (⟨p0, p1, p2, p3, p4⟩ : Ev) (⟨e0, e1, e2, e3, e4⟩ : Ev))) with h10 | h10
   ·refine gw_set 67 rfl (congrArg Value.bool h10) ?_
    have hO : evO (prevOf el i) (⟨e0, e1, e2, e3, e4⟩ : Ev) = true := by rw [hpo]; exact h10
    refine ct_ rfl (sr_ (sg_ rfl (nn_ ?_)))
    refine gw_ret ?_
    refine nx_blk_ret (nx_blk_ret (nx_then_ret (nx_then_ret (nx_blk_ret (nx_then_ret ?_)))))
    have hE : evE sl vl (prevOf el i) (⟨e0, e1, e2, e3, e4⟩ : Ev) = 7 := by rw [evE_eq, h2', h3, h4', h5', h6', h7', h8', h9, hO]; rfl
    have hF : logE sl vl el = 7 := by rw [hsc, hat, if_neg (by rw [hE]; decide), hE]
    refine nx_ret1 rfl rfl fun wx hm => ?_
    exact ⟨ret_int (by rw [hF]), hm.g⟩
   refine gw_set 67 rfl (congrArg Value.bool h10) ?_
   have hO : evO (prevOf el i) (⟨e0, e1, e2, e3, e4⟩ : Ev) = false := by rw [hpo]; exact h10
   refine cf_ rfl (gw_skip (nx_blk_nrm (nx_blk_nrm (nx_then (gw_region (ad_ rfl rfl (mv_ rfl (wl_nil ?_))))))))
   have hE : evE sl vl (prevOf el i) (⟨e0, e1, e2, e3, e4⟩ : Ev) = 0 := by rw [evE_eq, h2', h3, h4', h5', h6', h7', h8', h9, hO]; rfl
   exact nx_round (i + 1) ⟨by omega, by rw [hsc, hat, if_pos hE]⟩ (by omega) ⟨rfl, rfl, rfl, rfl, (some_int (by omega)), trivial⟩ (fun _ hm => hm.pick [1] [] [0, 1, 2] rfl rfl)
  refine wl_set 48 rfl (congrArg Value.bool h6) ?_
  have h6' : (e4.toList == (⟨#[]⟩ : ByteArray).toList) = true := by simpa only [Bool.not_eq_true', Bool.not_eq_false'] using h6
  refine goff rfl rfl rfl (goff rfl rfl rfl (pf_ rfl rfl (sg_ rfl (nn_ (cf_ rfl (sr_ (mv_ rfl (mv_ rfl ?_))))))))
  rcases Bool.eq_false_or_eq_true (decide (e3 = 6)) with h7 | h7
  ·refine wl_set 54 rfl (congrArg Value.bool h7) ?_
   refine wl_guard_on rfl rfl rfl ?_
   refine wl_ov (ov_loads rz62 rfl (fun _ hm => hm.blkI 1 rfl) rfl rfl) rfl ?_
   refine wl_guard_on rfl rfl rfl (fd_ fo45_4 rfl rfl (wl_guard_on rfl rfl rfl (lk_ sc9 0 rfl rfl rfl (wl_guard_on rfl rfl rfl ?_))))
   refine wl_callv rfl cb216 rfl rfl (fun wx hm => (hasStation_any sl sA cA vA pA sn sc cn cc vn vc pn pc e4 wx (hm.fact 0 rfl).1 hsok (by omega))) ?_
   refine wl_guard_on rfl rfl rfl (wl_ov (ov_un_not rfl) rfl (pt_ rfl rfl (sg_ rfl (nn_ ?_))))
   rcases Bool.eq_false_or_eq_true (!(sl.any (stP e4))) with h8 | h8
   ·refine gw_set 52 rfl (congrArg Value.bool h8) ?_
    have h8' : (sl.any (stP e4)) = false := by simpa only [Bool.not_eq_true', Bool.not_eq_false'] using h8
    refine ct_ rfl (sr_ (sg_ rfl (nn_ ?_)))
    refine gw_ret ?_
    refine nx_blk_ret (nx_blk_ret (nx_then_ret (nx_then_ret (nx_blk_ret (nx_then_ret ?_)))))
    have hE : evE sl vl (prevOf el i) (⟨e0, e1, e2, e3, e4⟩ : Ev) = 8 := by rw [evE_eq, h2', h3, h4', h5', h6', h7, h8']; rfl
    have hF : logE sl vl el = 8 := by rw [hsc, hat, if_neg (by rw [hE]; decide), hE]
    refine nx_ret1 rfl rfl fun wx hm => ?_
    exact ⟨ret_int (by rw [hF]), hm.g⟩
   refine gw_set 52 rfl (congrArg Value.bool h8) ?_
   have h8' : (sl.any (stP e4)) = true := by simpa only [Bool.not_eq_true', Bool.not_eq_false'] using h8
   refine cf_ rfl (sr_ (fd_ fo45_4 rfl rfl (lk_ sc9 0 rfl rfl rfl (fd_ fo45_2 rfl rfl (lk_ sc9 0 rfl rfl rfl (wl_ov (ov_seql rfl rfl) rfl (sg_ rfl (nn_ ?_))))))))
   rcases Bool.eq_false_or_eq_true (e4.toList == e2.toList) with h9 | h9
   ·refine gw_set 61 rfl (congrArg Value.bool h9) ?_
    refine ct_ rfl (sr_ (sg_ rfl (nn_ ?_)))
    refine gw_ret ?_
    refine nx_blk_ret (nx_blk_ret (nx_then_ret (nx_then_ret (nx_blk_ret (nx_then_ret ?_)))))
    have hE : evE sl vl (prevOf el i) (⟨e0, e1, e2, e3, e4⟩ : Ev) = 14 := by rw [evE_eq, h2', h3, h4', h5', h6', h7, h8', h9]; rfl
    have hF : logE sl vl el = 14 := by rw [hsc, hat, if_neg (by rw [hE]; decide), hE]
    refine nx_ret1 rfl rfl fun wx hm => ?_
    exact ⟨ret_int (by rw [hF]), hm.g⟩
   refine gw_set 61 rfl (congrArg Value.bool h9) ?_
   refine cf_ rfl (gw_seq ?_)
   refine gd (fun wz => Blk wz g2 45 [.int .i64 e0, .string e1, .string e2, .int .i64 e3, .string e4] /\ Blk wz g1 62 [.slice sA sn sc, .slice cA cn cc, .slice vA vn vc, .slice pA pn pc] /\ (SlOld stEnc 15 152 w.heap.size none sA sn sl) wz /\ (SlOld vhEnc 2 160 w.heap.size none vA vn vl) wz /\ (SlOld evEnc 5 45 w.heap.size none (some ⟨b, off, none⟩) en el) wz /\ True) mixed (fun _ hm => ⟨hm.bl 0, hm.bl 1, hm.fa 0, hm.fa 1, hm.fa 2, trivial⟩) fun z => ?_
   refine wt 0 13 1 rfl z (ov_move rfl) ?_
   refine wt 1 13 3 rfl z (ov_gtr rfl rfl) ?_
   refine wt 2 13 7 rfl z (ov_move rfl) ?_
   by_cases h0 : i = 0
   ·refine wa_set 70 rfl (congrArg Value.bool (decide_eq_false (by omega))) ?_
    refine wa_set 69 rfl (congrArg Value.bool (decide_eq_false (by omega))) ?_
    have hO : evO (prevOf el i) (⟨e0, e1, e2, e3, e4⟩ : Ev) = false := by rw [prevOf_zero h0]; rfl
    refine wtf 3 13 15 rfl rfl rfl z ?_
    refine wtf 4 13 31 rfl rfl rfl z ?_
    refine wtf 5 13 63 rfl rfl rfl z ?_
    refine wtf 6 13 127 rfl rfl rfl z ?_
    refine wtf 7 13 255 rfl rfl rfl z ?_
    refine wtf 8 13 511 rfl rfl rfl z ?_
    refine wtf 9 13 1023 rfl rfl rfl z ?_
    refine wtf 10 13 2047 rfl rfl rfl z ?_
    refine wt 11 13 4095 rfl z (ov_pick_f rfl rfl) ?_
    refine wt 12 13 8191 rfl z (ov_assign rfl) ?_
    refine wa_done (by kernel_rfl) ?_
    refine nx_then (cf_ rfl (gw_skip (nx_blk_nrm (nx_blk_nrm (nx_then (gw_region (ad_ rfl rfl (mv_ rfl (wl_nil ?_)))))))))
    have hE : evE sl vl (prevOf el i) (⟨e0, e1, e2, e3, e4⟩ : Ev) = 0 := by rw [evE_eq, h2', h3, h4', h5', h6', h7, h8', h9, hO]; rfl
    exact nx_round (i + 1) ⟨by omega, by rw [hsc, hat, if_pos hE]⟩ (by omega) ⟨rfl, rfl, rfl, rfl, (some_int (by omega)), trivial⟩ (fun _ hm => hm.pick [1] [] [0, 1, 2] rfl rfl)
   refine wa_set 70 rfl (congrArg Value.bool (decide_eq_true (by omega))) ?_
   refine wa_set 69 rfl (congrArg Value.bool (decide_eq_true (by omega))) ?_
   obtain ⟨yy, hy⟩ : ∃ x, el[i - 1]? = some x := ⟨_, List.getElem?_eq_getElem (by omega)⟩
   obtain ⟨p0, p1, p2, p3, p4⟩ := yy
   obtain ⟨hp0, _, _, _, _⟩ := heok _ (List.mem_of_getElem? hy)
   have hp0 : -4000000000000000000 <= p0 /\ p0 <= 4000000000000000000 := hp0
   have hpo := prevOf_pos h0 hy
   refine wto 3 13 15 rfl rfl rfl z (ov_move rfl) ?_
   refine wto 4 13 31 rfl rfl rfl z (ov_move rfl) ?_
   refine wto 5 13 63 rfl rfl rfl z (ov_sub rfl rfl (by omega) (by omega)) ?_
   refine wa_set 73 (v' := .int .i64 (((i - 1) : Nat) : Int)) rfl (congrArg (Value.int .i64) (by omega)) ?_
   refine wto 6 13 127 rfl rfl rfl z (ov_index (j := (i - 1)) es39 rfl rfl (by omega)) ?_
   refine wto 7 13 255 rfl rfl rfl z (ov_elem (vs := [.int .i64 p0, .string p1, .string p2, .int .i64 p3, .string p4]) rz45 rfl (fun _ hm => (hm.2.2.2.2.1).1) hy rfl rfl) ?_
   refine wto 8 13 511 rfl rfl rfl z (ov_loads rz45 rfl (fun _ hm => hm.1) rfl rfl) ?_
   refine wa1 9 rfl ?_
   refine wl_guard_on rfl rfl rfl ?_
   refine wl_callv (v := .int .i64 (evOrd (⟨p0, p1, p2, p3, p4⟩ : Ev) (⟨e0, e1, e2, e3, e4⟩ : Ev))) rfl cb217 rfl rfl (fun wx hm => (byTime_any p0 p1 p2 p3 p4 e0 e1 e2 e3 e4 wx)) ?_
   refine wl_nil ?_
   refine nw 13 1023 (fun _ hm => ⟨hm.bl 0, hm.bl 1, hm.fa 0, hm.fa 1, hm.fa 2, trivial⟩) fun z => ?_
   refine wto 10 13 2047 rfl rfl rfl z (ov_geq rfl rfl) ?_
   refine wt 11 13 4095 rfl z (ov_pick_t rfl rfl) ?_
   refine wt 12 13 8191 rfl z (ov_assign rfl) ?_
   refine wa_done (by kernel_rfl) ?_
   refine nx_then ?_
   rcases Bool.eq_false_or_eq_true (decide (0 <= evOrd (⟨p0, p1, p2, p3, p4⟩ : Ev) (⟨e0, e1, e2, e3, e4⟩ : Ev))) with h10 | h10
   ·refine gw_set 67 rfl (congrArg Value.bool h10) ?_
    have hO : evO (prevOf el i) (⟨e0, e1, e2, e3, e4⟩ : Ev) = true := by rw [hpo]; exact h10
    refine ct_ rfl (sr_ (sg_ rfl (nn_ ?_)))
    refine gw_ret ?_
    refine nx_blk_ret (nx_blk_ret (nx_then_ret (nx_then_ret (nx_blk_ret (nx_then_ret ?_)))))
    have hE : evE sl vl (prevOf el i) (⟨e0, e1, e2, e3, e4⟩ : Ev) = 7 := by rw [evE_eq, h2', h3, h4', h5', h6', h7, h8', h9, hO]; rfl
    have hF : logE sl vl el = 7 := by rw [hsc, hat, if_neg (by rw [hE]; decide), hE]
    refine nx_ret1 rfl rfl fun wx hm => ?_
    exact ⟨ret_int (by rw [hF]), hm.g⟩
   refine gw_set 67 rfl (congrArg Value.bool h10) ?_
   have hO : evO (prevOf el i) (⟨e0, e1, e2, e3, e4⟩ : Ev) = false := by rw [hpo]; exact h10
   refine cf_ rfl (gw_skip (nx_blk_nrm (nx_blk_nrm (nx_then (gw_region (ad_ rfl rfl (mv_ rfl (wl_nil ?_))))))))
   have hE : evE sl vl (prevOf el i) (⟨e0, e1, e2, e3, e4⟩ : Ev) = 0 := by rw [evE_eq, h2', h3, h4', h5', h6', h7, h8', h9, hO]; rfl
   exact nx_round (i + 1) ⟨by omega, by rw [hsc, hat, if_pos hE]⟩ (by omega) ⟨rfl, rfl, rfl, rfl, (some_int (by omega)), trivial⟩ (fun _ hm => hm.pick [1] [] [0, 1, 2] rfl rfl)
  refine wl_set 54 rfl (congrArg Value.bool h7) ?_
  refine goff rfl rfl rfl (goff rfl rfl rfl (goff rfl rfl rfl (goff rfl rfl rfl (goff rfl rfl rfl (pf_ rfl rfl (sg_ rfl (nn_ (cf_ rfl (sr_ (fd_ fo45_4 rfl rfl (lk_ sc9 0 rfl rfl rfl ?_)))))))))))
  refine fd_ fo45_2 rfl rfl (lk_ sc9 0 rfl rfl rfl (wl_ov (ov_seql rfl rfl) rfl (sg_ rfl (nn_ ?_))))
  rcases Bool.eq_false_or_eq_true (e4.toList == e2.toList) with h8 | h8
  ·refine gw_set 61 rfl (congrArg Value.bool h8) ?_
   refine ct_ rfl (sr_ (sg_ rfl (nn_ ?_)))
   refine gw_ret ?_
   refine nx_blk_ret (nx_blk_ret (nx_then_ret (nx_then_ret (nx_blk_ret (nx_then_ret ?_)))))
   have hE : evE sl vl (prevOf el i) (⟨e0, e1, e2, e3, e4⟩ : Ev) = 14 := by rw [evE_eq, h2', h3, h4', h5', h6', h7, h8]; rfl
   have hF : logE sl vl el = 14 := by rw [hsc, hat, if_neg (by rw [hE]; decide), hE]
   refine nx_ret1 rfl rfl fun wx hm => ?_
   exact ⟨ret_int (by rw [hF]), hm.g⟩
  refine gw_set 61 rfl (congrArg Value.bool h8) ?_
  refine cf_ rfl (gw_seq ?_)
  refine gd (fun wz => Blk wz g2 45 [.int .i64 e0, .string e1, .string e2, .int .i64 e3, .string e4] /\ Blk wz g1 62 [.slice sA sn sc, .slice cA cn cc, .slice vA vn vc, .slice pA pn pc] /\ (SlOld stEnc 15 152 w.heap.size none sA sn sl) wz /\ (SlOld vhEnc 2 160 w.heap.size none vA vn vl) wz /\ (SlOld evEnc 5 45 w.heap.size none (some ⟨b, off, none⟩) en el) wz /\ True) mixed (fun _ hm => ⟨hm.bl 0, hm.bl 1, hm.fa 0, hm.fa 1, hm.fa 2, trivial⟩) fun z => ?_
  refine wt 0 13 1 rfl z (ov_move rfl) ?_
  refine wt 1 13 3 rfl z (ov_gtr rfl rfl) ?_
  refine wt 2 13 7 rfl z (ov_move rfl) ?_
  by_cases h0 : i = 0
  ·refine wa_set 70 rfl (congrArg Value.bool (decide_eq_false (by omega))) ?_
   refine wa_set 69 rfl (congrArg Value.bool (decide_eq_false (by omega))) ?_
   have hO : evO (prevOf el i) (⟨e0, e1, e2, e3, e4⟩ : Ev) = false := by rw [prevOf_zero h0]; rfl
   refine wtf 3 13 15 rfl rfl rfl z ?_
   refine wtf 4 13 31 rfl rfl rfl z ?_
   refine wtf 5 13 63 rfl rfl rfl z ?_
   refine wtf 6 13 127 rfl rfl rfl z ?_
   refine wtf 7 13 255 rfl rfl rfl z ?_
   refine wtf 8 13 511 rfl rfl rfl z ?_
   refine wtf 9 13 1023 rfl rfl rfl z ?_
   refine wtf 10 13 2047 rfl rfl rfl z ?_
   refine wt 11 13 4095 rfl z (ov_pick_f rfl rfl) ?_
   refine wt 12 13 8191 rfl z (ov_assign rfl) ?_
   refine wa_done (by kernel_rfl) ?_
   refine nx_then (cf_ rfl (gw_skip (nx_blk_nrm (nx_blk_nrm (nx_then (gw_region (ad_ rfl rfl (mv_ rfl (wl_nil ?_)))))))))
   have hE : evE sl vl (prevOf el i) (⟨e0, e1, e2, e3, e4⟩ : Ev) = 0 := by rw [evE_eq, h2', h3, h4', h5', h6', h7, h8, hO]; rfl
   exact nx_round (i + 1) ⟨by omega, by rw [hsc, hat, if_pos hE]⟩ (by omega) ⟨rfl, rfl, rfl, rfl, (some_int (by omega)), trivial⟩ (fun _ hm => hm.pick [1] [] [0, 1, 2] rfl rfl)
  refine wa_set 70 rfl (congrArg Value.bool (decide_eq_true (by omega))) ?_
  refine wa_set 69 rfl (congrArg Value.bool (decide_eq_true (by omega))) ?_
  obtain ⟨yy, hy⟩ : ∃ x, el[i - 1]? = some x := ⟨_, List.getElem?_eq_getElem (by omega)⟩
  obtain ⟨p0, p1, p2, p3, p4⟩ := yy
  obtain ⟨hp0, _, _, _, _⟩ := heok _ (List.mem_of_getElem? hy)
  have hp0 : -4000000000000000000 <= p0 /\ p0 <= 4000000000000000000 := hp0
  have hpo := prevOf_pos h0 hy
  refine wto 3 13 15 rfl rfl rfl z (ov_move rfl) ?_
  refine wto 4 13 31 rfl rfl rfl z (ov_move rfl) ?_
  refine wto 5 13 63 rfl rfl rfl z (ov_sub rfl rfl (by omega) (by omega)) ?_
  refine wa_set 73 (v' := .int .i64 (((i - 1) : Nat) : Int)) rfl (congrArg (Value.int .i64) (by omega)) ?_
  refine wto 6 13 127 rfl rfl rfl z (ov_index (j := (i - 1)) es39 rfl rfl (by omega)) ?_
  refine wto 7 13 255 rfl rfl rfl z (ov_elem (vs := [.int .i64 p0, .string p1, .string p2, .int .i64 p3, .string p4]) rz45 rfl (fun _ hm => (hm.2.2.2.2.1).1) hy rfl rfl) ?_
  refine wto 8 13 511 rfl rfl rfl z (ov_loads rz45 rfl (fun _ hm => hm.1) rfl rfl) ?_
  refine wa1 9 rfl ?_
  refine wl_guard_on rfl rfl rfl ?_
  refine wl_callv (v := .int .i64 (evOrd (⟨p0, p1, p2, p3, p4⟩ : Ev) (⟨e0, e1, e2, e3, e4⟩ : Ev))) rfl cb217 rfl rfl (fun wx hm => (byTime_any p0 p1 p2 p3 p4 e0 e1 e2 e3 e4 wx)) ?_
  refine wl_nil ?_
  refine nw 13 1023 (fun _ hm => ⟨hm.bl 0, hm.bl 1, hm.fa 0, hm.fa 1, hm.fa 2, trivial⟩) fun z => ?_
  refine wto 10 13 2047 rfl rfl rfl z (ov_geq rfl rfl) ?_
  refine wt 11 13 4095 rfl z (ov_pick_t rfl rfl) ?_
  refine wt 12 13 8191 rfl z (ov_assign rfl) ?_
  refine wa_done (by kernel_rfl) ?_
  refine nx_then ?_
  rcases Bool.eq_false_or_eq_true (decide (0 <= evOrd (⟨p0, p1, p2, p3, p4⟩ : Ev) (⟨e0, e1, e2, e3, e4⟩ : Ev))) with h9 | h9
  ·refine gw_set 67 rfl (congrArg Value.bool h9) ?_
   have hO : evO (prevOf el i) (⟨e0, e1, e2, e3, e4⟩ : Ev) = true := by rw [hpo]; exact h9
   refine ct_ rfl (sr_ (sg_ rfl (nn_ ?_)))
   refine gw_ret ?_
   refine nx_blk_ret (nx_blk_ret (nx_then_ret (nx_then_ret (nx_blk_ret (nx_then_ret ?_)))))
   have hE : evE sl vl (prevOf el i) (⟨e0, e1, e2, e3, e4⟩ : Ev) = 7 := by rw [evE_eq, h2', h3, h4', h5', h6', h7, h8, hO]; rfl
   have hF : logE sl vl el = 7 := by rw [hsc, hat, if_neg (by rw [hE]; decide), hE]
   refine nx_ret1 rfl rfl fun wx hm => ?_
   exact ⟨ret_int (by rw [hF]), hm.g⟩
  refine gw_set 67 rfl (congrArg Value.bool h9) ?_
  have hO : evO (prevOf el i) (⟨e0, e1, e2, e3, e4⟩ : Ev) = false := by rw [hpo]; exact h9
  refine cf_ rfl (gw_skip (nx_blk_nrm (nx_blk_nrm (nx_then (gw_region (ad_ rfl rfl (mv_ rfl (wl_nil ?_))))))))
  have hE : evE sl vl (prevOf el i) (⟨e0, e1, e2, e3, e4⟩ : Ev) = 0 := by rw [evE_eq, h2', h3, h4', h5', h6', h7, h8, hO]; rfl
  exact nx_round (i + 1) ⟨by omega, by rw [hsc, hat, if_pos hE]⟩ (by omega) ⟨rfl, rfl, rfl, rfl, (some_int (by omega)), trivial⟩ (fun _ hm => hm.pick [1] [] [0, 1, 2] rfl rfl)
 have hi : ¬ (((i : Nat) : Int) < ((en : Nat) : Int)) := by simpa using hh
 clear hh
 refine gw_exit ?_
 refine nx_then_exit (nx_then_exit ?_)
 refine nx_blk_here ?_
 refine nx_then (sr_ (sg_ rfl (nn_ ?_)))
 refine gw_ret ?_
 refine nx_ret1 rfl rfl fun wx hm => ?_
 exact ⟨ret_int (by rw [hsc, scanE_end _ _ _ _ (by omega)]), hm.g⟩
end Go.Proofs.YtempjmpfdniecaaGreatDoor
namespace Go.Proofs.YtempjmpfdniecaaGreatDoor
open Go.RowKit
theorem rfollow_any (s0 : Int) (s1 : ByteArray) (s2 e0 : Int) (e1 e2 : ByteArray) (e3 : Int) (e4 : ByteArray) (w : World) : Calls Tryz.prog 269 #[.agg #[.int .i64 s0, .string s1, .int .i64 s2], .agg #[.int .i64 e0, .string e1, .string e2, .int .i64 e3, .string e4]] w (fun e w' => ∃ t : Sa, e = .returned (.tuple #[.agg (saEnc t).toArray, .bool (goodB (⟨s0, s1, s2⟩ : Sa) (⟨e0, e1, e2, e3, e4⟩ : Ev))]) /\ (goodB (⟨s0, s1, s2⟩ : Sa) (⟨e0, e1, e2, e3, e4⟩ : Ev) = true -> t = nextS (⟨e0, e1, e2, e3, e4⟩ : Ev)) /\ w.grownBy w' none) := by
 refine gw_enter ⟨89, w, none, []⟩ Tryz.func269 rfl Tryz.ntmps269 rfl (mem0 (X := []) allF_nil allL_nil) ?_
 refine sr_ ?_
 refine wl_box rfl rfl rfl fun g1 => ?_
 refine wl_box rfl rfl rfl fun g2 => ?_
 refine wl_alloc zc168 rfl fun g3 => ?_
 refine sg_ rfl (nn_ (sr_ (fd_ fo168_0 rfl rfl (lk_ sc3 2 rfl rfl rfl (wl_ov (ov_eql rfl rfl) rfl (mv_ rfl ?_))))))
 rcases Bool.eq_false_or_eq_true (decide (s0 = 1)) with h0 | h0
 ·refine wl_set 11 rfl (congrArg Value.bool h0) ?_
  refine wl_guard_on rfl rfl rfl (fd_ fo168_1 rfl rfl (wl_guard_on rfl rfl rfl (lk_ sc9 2 rfl rfl rfl (wl_guard_on rfl rfl rfl (fd_ fo45_2 rfl rfl (wl_guard_on rfl rfl rfl (lk_ sc9 1 rfl rfl rfl (wl_guard_on rfl rfl rfl (wl_ov (ov_seql rfl rfl) rfl (pt_ rfl rfl (sg_ rfl (nn_ ?_))))))))))))
  refine sr_ (fd_ fo45_2 rfl rfl (lk_ sc9 1 rfl rfl rfl (fd_ fo45_0 rfl rfl (lk_ sc3 1 rfl rfl rfl ?_))))
  refine wl_ov (ov_build (cs := [.int .i64 1, .string e2, .int .i64 e0]) rfl (by kernel_rfl)) rfl ?_
  refine wl_alloc zc168 rfl fun g4 => ?_
  refine wl_stores (cs' := [.int .i64 1, .string e2, .int .i64 e0]) 0 rz168 rfl rfl rfl rfl rfl rfl rfl rfl ?_
  refine nn_ (gw_seq (sr_ (fd_ fo45_3 rfl rfl (lk_ sc3 2 rfl rfl rfl (nn_ (gw_block (sr_ (wl_ov (ov_eql rfl rfl) rfl (sg_ rfl ?_)))))))))
  refine nn_ ?_
  refine gw_cond rfl (fun hh => ?_) (fun hh => ?_)
  ·have h1 : e3 = 1 := by simpa using hh
   clear hh
   refine gw_seq ?_
   refine gd (fun wz => Blk wz g4 168 [.int .i64 1, .string e2, .int .i64 e0] /\ Blk wz g2 45 [.int .i64 e0, .string e1, .string e2, .int .i64 e3, .string e4] /\ Blk wz g1 168 [.int .i64 s0, .string s1, .int .i64 s2] /\ True) mixed (fun _ hm => ⟨hm.bl 0, hm.bl 2, hm.bl 3, trivial⟩) fun z => ?_
   refine wt 0 6 1 rfl z (ov_loads rz168 rfl (fun _ hm => hm.1) rfl rfl) ?_
   refine wt 1 6 3 rfl z (ov_field fo168_0 rfl rfl) ?_
   refine wt 2 6 7 rfl z (ov_load sc3 rfl (fun _ hm => hm.2.2.1) rfl) ?_
   refine wt 3 6 15 rfl z (ov_eql rfl rfl) ?_
   refine wa1 4 rfl ?_
   refine wl_stores (cs' := [.int .i64 1, .string e2, .int .i64 e0]) 1 rz168 rfl rfl rfl rfl rfl rfl rfl rfl ?_
   refine wl_nil ?_
   refine nw 6 31 (fun _ hm => ⟨hm.bl 0, hm.bl 2, hm.bl 3, trivial⟩) fun z => ?_
   refine wt 5 6 63 rfl z (ov_assign rfl) ?_
   refine wa_done (by kernel_rfl) ?_
   refine nx_then ?_
   refine gw_ret ?_
   refine nx_blk_ret (nx_then_ret ?_)
   refine nx_retct 1 rfl rz168 rfl rfl rfl rfl fun wx hm => ?_
   have hg := hm.g
   clear hm
   exact ⟨⟨1, e2, e0⟩, by simp [goodB, saEnc, *], (fun h => by first | (simp [nextS, *]; done) | (exfalso; simp [goodB, *] at h; done) | fail), hg⟩
  have h1 : ¬ (e3 = 1) := by simpa using hh
  clear hh
  refine sr_ (wl_ov (ov_eql rfl rfl) rfl (sg_ rfl (nn_ ?_)))
  refine gw_cond rfl (fun hh => ?_) (fun hh => ?_)
  ·have h2 : e3 = 2 := by simpa using hh
   clear hh
   refine sr_ (fd_ fo45_0 rfl rfl (lk_ sc3 2 rfl rfl rfl ?_))
   refine wl_ov (ov_build (cs := [.int .i64 2, .string ⟨#[]⟩, .int .i64 e0]) rfl (by kernel_rfl)) rfl ?_
   refine mv_ rfl ?_
   refine wl_stores (cs' := [.int .i64 2, .string ⟨#[]⟩, .int .i64 e0]) 1 rz168 rfl rfl rfl rfl rfl rfl rfl rfl ?_
   refine sg_ rfl (nn_ ?_)
   refine gw_ret ?_
   refine nx_blk_ret (nx_then_ret ?_)
   refine nx_retct 1 rfl rz168 rfl rfl rfl rfl fun wx hm => ?_
   have hg := hm.g
   clear hm
   exact ⟨⟨2, ⟨#[]⟩, e0⟩, by simp [goodB, saEnc, *], (fun h => by first | (simp [nextS, *]; done) | (exfalso; simp [goodB, *] at h; done) | fail), hg⟩
  have h2 : ¬ (e3 = 2) := by simpa using hh
  clear hh
  refine sr_ (wl_ov (ov_eql rfl rfl) rfl (sg_ rfl (nn_ ?_)))
  refine gw_cond rfl (fun hh => ?_) (fun hh => ?_)
  ·have h3 : e3 = 3 := by simpa using hh
   clear hh
   refine gw_seq ?_
   refine gd (fun wz => Blk wz g4 168 [.int .i64 1, .string e2, .int .i64 e0] /\ Blk wz g2 45 [.int .i64 e0, .string e1, .string e2, .int .i64 e3, .string e4] /\ Blk wz g1 168 [.int .i64 s0, .string s1, .int .i64 s2] /\ True) mixed (fun _ hm => ⟨hm.bl 0, hm.bl 2, hm.bl 3, trivial⟩) fun z => ?_
   refine wt 0 6 1 rfl z (ov_loads rz168 rfl (fun _ hm => hm.1) rfl rfl) ?_
   refine wt 1 6 3 rfl z (ov_field fo168_0 rfl rfl) ?_
   refine wt 2 6 7 rfl z (ov_load sc3 rfl (fun _ hm => hm.2.2.1) rfl) ?_
   refine wt 3 6 15 rfl z (ov_eql rfl rfl) ?_
   refine wa1 4 rfl ?_
   refine wl_stores (cs' := [.int .i64 1, .string e2, .int .i64 e0]) 1 rz168 rfl rfl rfl rfl rfl rfl rfl rfl ?_
   refine wl_nil ?_
   refine nw 6 31 (fun _ hm => ⟨hm.bl 0, hm.bl 2, hm.bl 3, trivial⟩) fun z => ?_
   refine wt 5 6 63 rfl z (ov_assign rfl) ?_
   refine wa_done (by kernel_rfl) ?_
   refine nx_then ?_
   refine gw_ret ?_
   refine nx_blk_ret (nx_then_ret ?_)
   refine nx_retct 1 rfl rz168 rfl rfl rfl rfl fun wx hm => ?_
   have hg := hm.g
   clear hm
   exact ⟨⟨1, e2, e0⟩, by simp [goodB, saEnc, *], (fun h => by first | (simp [nextS, *]; done) | (exfalso; simp [goodB, *] at h; done) | fail), hg⟩
  have h3 : ¬ (e3 = 3) := by simpa using hh
  clear hh
  refine sr_ (wl_ov (ov_eql rfl rfl) rfl (sg_ rfl (nn_ ?_)))
  refine gw_cond rfl (fun hh => ?_) (fun hh => ?_)
  ·have h4 : e3 = 4 := by simpa using hh
   clear hh
   refine sr_ (fd_ fo168_0 rfl rfl ?_)
   refine wl_store 0 sc3 rfl rfl rfl rfl rfl rfl ?_
   refine nn_ (sr_ ?_)
   refine wl_ov (ov_loads rz168 rfl (fun _ hm => hm.blkI 0 rfl) rfl rfl) rfl ?_
   refine mv_ rfl ?_
   refine wl_stores (cs' := [.int .i64 3, .string e2, .int .i64 e0]) 1 rz168 rfl rfl rfl rfl rfl rfl rfl rfl ?_
   refine sg_ rfl (nn_ ?_)
   refine gw_ret ?_
   refine nx_blk_ret (nx_then_ret ?_)
   refine nx_retct 1 rfl rz168 rfl rfl rfl rfl fun wx hm => ?_
   have hg := hm.g
   clear hm
   exact ⟨⟨3, e2, e0⟩, by simp [goodB, saEnc, *], (fun h => by first | (simp [nextS, *]; done) | (exfalso; simp [goodB, *] at h; done) | fail), hg⟩
  have h4 : ¬ (e3 = 4) := by simpa using hh
  clear hh
  refine sr_ (wl_ov (ov_eql rfl rfl) rfl (sg_ rfl (nn_ ?_)))
  refine gw_cond rfl (fun hh => ?_) (fun hh => ?_)
  ·have h5 : e3 = 5 := by simpa using hh
   clear hh
   refine gw_seq ?_
   refine gd (fun wz => Blk wz g4 168 [.int .i64 1, .string e2, .int .i64 e0] /\ Blk wz g2 45 [.int .i64 e0, .string e1, .string e2, .int .i64 e3, .string e4] /\ Blk wz g1 168 [.int .i64 s0, .string s1, .int .i64 s2] /\ True) mixed (fun _ hm => ⟨hm.bl 0, hm.bl 2, hm.bl 3, trivial⟩) fun z => ?_
   refine wt 0 13 1 rfl z (ov_loads rz168 rfl (fun _ hm => hm.1) rfl rfl) ?_
   refine wt 1 13 3 rfl z (ov_field fo168_0 rfl rfl) ?_
   refine wt 2 13 7 rfl z (ov_load sc3 rfl (fun _ hm => hm.2.2.1) rfl) ?_
   refine wt 3 13 15 rfl z (ov_eql rfl rfl) ?_
   refine wt 4 13 31 rfl z (ov_move rfl) ?_
   rcases Bool.eq_false_or_eq_true (decide (s0 = 3)) with h6 | h6
   ·refine wa_set 54 rfl (congrArg Value.bool h6) ?_
    refine wto 5 13 63 rfl rfl rfl z (ov_field fo168_1 rfl rfl) ?_
    refine wto 6 13 127 rfl rfl rfl z (ov_load sc9 rfl (fun _ hm => hm.2.2.1) rfl) ?_
    refine wto 7 13 255 rfl rfl rfl z (ov_field fo45_2 rfl rfl) ?_
    refine wto 8 13 511 rfl rfl rfl z (ov_load sc9 rfl (fun _ hm => hm.2.1) rfl) ?_
    refine wto 9 13 1023 rfl rfl rfl z (ov_seql rfl rfl) ?_
    refine wt 10 13 2047 rfl z (ov_pick_t rfl rfl) ?_
    refine wa1 11 rfl ?_
    refine wl_stores (cs' := [.int .i64 1, .string e2, .int .i64 e0]) 1 rz168 rfl rfl rfl rfl rfl rfl rfl rfl ?_
    refine wl_nil ?_
    refine nw 13 4095 (fun _ hm => ⟨hm.bl 0, hm.bl 2, hm.bl 3, trivial⟩) fun z => ?_
    refine wt 12 13 8191 rfl z (ov_assign rfl) ?_
    refine wa_done (by kernel_rfl) ?_
    refine nx_then ?_
    refine gw_ret ?_
    refine nx_blk_ret (nx_then_ret ?_)
    refine nx_retct 1 rfl rz168 rfl rfl rfl rfl fun wx hm => ?_
    have hg := hm.g
    clear hm
    exact ⟨⟨1, e2, e0⟩, by simp [goodB, saEnc, *], (fun h => by first | (simp [nextS, *]; done) | (exfalso; simp [goodB, *] at h; done) | fail), hg⟩
   refine wa_set 54 rfl (congrArg Value.bool h6) ?_
   refine wtf 5 13 63 rfl rfl rfl z ?_
   refine wtf 6 13 127 rfl rfl rfl z ?_
   refine wtf 7 13 255 rfl rfl rfl z ?_
   refine wtf 8 13 511 rfl rfl rfl z ?_
   refine wtf 9 13 1023 rfl rfl rfl z ?_
   refine wt 10 13 2047 rfl z (ov_pick_f rfl rfl) ?_
   refine wa1 11 rfl ?_
   refine wl_stores (cs' := [.int .i64 1, .string e2, .int .i64 e0]) 1 rz168 rfl rfl rfl rfl rfl rfl rfl rfl ?_
   refine wl_nil ?_
   refine nw 13 4095 (fun _ hm => ⟨hm.bl 0, hm.bl 2, hm.bl 3, trivial⟩) fun z => ?_
   refine wt 12 13 8191 rfl z (ov_assign rfl) ?_
   refine wa_done (by kernel_rfl) ?_
   refine nx_then ?_
   refine gw_ret ?_
   refine nx_blk_ret (nx_then_ret ?_)
   refine nx_retct 1 rfl rz168 rfl rfl rfl rfl fun wx hm => ?_
   have hg := hm.g
   clear hm
   exact ⟨⟨1, e2, e0⟩, by simp [goodB, saEnc, *], (fun h => by first | (simp [nextS, *]; done) | (exfalso; simp [goodB, *] at h; done) | fail), hg⟩
  have h5 : ¬ (e3 = 5) := by simpa using hh
  clear hh
  refine sr_ (wl_ov (ov_eql rfl rfl) rfl (sg_ rfl (nn_ ?_)))
  refine gw_cond rfl (fun hh => ?_) (fun hh => ?_)
  ·have h6 : e3 = 6 := by simpa using hh
   clear hh
   refine sr_ (fd_ fo45_4 rfl rfl (lk_ sc9 2 rfl rfl rfl (fd_ fo45_0 rfl rfl (lk_ sc3 2 rfl rfl rfl ?_))))
   refine wl_ov (ov_build (cs := [.int .i64 4, .string e4, .int .i64 e0]) rfl (by kernel_rfl)) rfl ?_
   refine mv_ rfl ?_
   refine wl_stores (cs' := [.int .i64 4, .string e4, .int .i64 e0]) 1 rz168 rfl rfl rfl rfl rfl rfl rfl rfl ?_
   refine sg_ rfl (nn_ ?_)
   refine gw_ret ?_
   refine nx_blk_ret (nx_then_ret ?_)
   refine nx_retct 1 rfl rz168 rfl rfl rfl rfl fun wx hm => ?_
   have hg := hm.g
   clear hm
   exact ⟨⟨4, e4, e0⟩, by simp [goodB, saEnc, *], (fun h => by first | (simp [nextS, *]; done) | (exfalso; simp [goodB, *] at h; done) | fail), hg⟩
  have h6 : ¬ (e3 = 6) := by simpa using hh
  clear hh
  refine sr_ (wl_ov (ov_eql rfl rfl) rfl (sg_ rfl (nn_ ?_)))
  refine gw_cond rfl (fun hh => ?_) (fun hh => ?_)
  ·have h7 : e3 = 7 := by simpa using hh
   clear hh
   refine gw_seq ?_
   refine gd (fun wz => Blk wz g4 168 [.int .i64 1, .string e2, .int .i64 e0] /\ Blk wz g2 45 [.int .i64 e0, .string e1, .string e2, .int .i64 e3, .string e4] /\ Blk wz g1 168 [.int .i64 s0, .string s1, .int .i64 s2] /\ True) mixed (fun _ hm => ⟨hm.bl 0, hm.bl 2, hm.bl 3, trivial⟩) fun z => ?_
   refine wt 0 13 1 rfl z (ov_loads rz168 rfl (fun _ hm => hm.1) rfl rfl) ?_
   refine wt 1 13 3 rfl z (ov_field fo168_0 rfl rfl) ?_
   refine wt 2 13 7 rfl z (ov_load sc3 rfl (fun _ hm => hm.2.2.1) rfl) ?_
   refine wt 3 13 15 rfl z (ov_eql rfl rfl) ?_
   refine wt 4 13 31 rfl z (ov_move rfl) ?_
   rcases Bool.eq_false_or_eq_true (decide (s0 = 4)) with h8 | h8
   ·refine wa_set 75 rfl (congrArg Value.bool h8) ?_
    refine wto 5 13 63 rfl rfl rfl z (ov_field fo168_1 rfl rfl) ?_
    refine wto 6 13 127 rfl rfl rfl z (ov_load sc9 rfl (fun _ hm => hm.2.2.1) rfl) ?_
    refine wto 7 13 255 rfl rfl rfl z (ov_field fo45_2 rfl rfl) ?_
    refine wto 8 13 511 rfl rfl rfl z (ov_load sc9 rfl (fun _ hm => hm.2.1) rfl) ?_
    refine wto 9 13 1023 rfl rfl rfl z (ov_seql rfl rfl) ?_
    refine wt 10 13 2047 rfl z (ov_pick_t rfl rfl) ?_
    refine wa1 11 rfl ?_
    refine wl_stores (cs' := [.int .i64 1, .string e2, .int .i64 e0]) 1 rz168 rfl rfl rfl rfl rfl rfl rfl rfl ?_
    refine wl_nil ?_
    refine nw 13 4095 (fun _ hm => ⟨hm.bl 0, hm.bl 2, hm.bl 3, trivial⟩) fun z => ?_
    refine wt 12 13 8191 rfl z (ov_assign rfl) ?_
    refine wa_done (by kernel_rfl) ?_
    refine nx_then ?_
    refine gw_ret ?_
    refine nx_blk_ret (nx_then_ret ?_)
    refine nx_retct 1 rfl rz168 rfl rfl rfl rfl fun wx hm => ?_
    have hg := hm.g
    clear hm
    exact ⟨⟨1, e2, e0⟩, by simp [goodB, saEnc, *], (fun h => by first | (simp [nextS, *]; done) | (exfalso; simp [goodB, *] at h; done) | fail), hg⟩
   refine wa_set 75 rfl (congrArg Value.bool h8) ?_
   refine wtf 5 13 63 rfl rfl rfl z ?_
   refine wtf 6 13 127 rfl rfl rfl z ?_
   refine wtf 7 13 255 rfl rfl rfl z ?_
   refine wtf 8 13 511 rfl rfl rfl z ?_
   refine wtf 9 13 1023 rfl rfl rfl z ?_
   refine wt 10 13 2047 rfl z (ov_pick_f rfl rfl) ?_
   refine wa1 11 rfl ?_
   refine wl_stores (cs' := [.int .i64 1, .string e2, .int .i64 e0]) 1 rz168 rfl rfl rfl rfl rfl rfl rfl rfl ?_
   refine wl_nil ?_
   refine nw 13 4095 (fun _ hm => ⟨hm.bl 0, hm.bl 2, hm.bl 3, trivial⟩) fun z => ?_
   refine wt 12 13 8191 rfl z (ov_assign rfl) ?_
   refine wa_done (by kernel_rfl) ?_
   refine nx_then ?_
   refine gw_ret ?_
   refine nx_blk_ret (nx_then_ret ?_)
   refine nx_retct 1 rfl rz168 rfl rfl rfl rfl fun wx hm => ?_
   have hg := hm.g
   clear hm
   exact ⟨⟨1, e2, e0⟩, by simp [goodB, saEnc, *], (fun h => by first | (simp [nextS, *]; done) | (exfalso; simp [goodB, *] at h; done) | fail), hg⟩
  have h7 : ¬ (e3 = 7) := by simpa using hh
  clear hh
  refine sr_ (wl_ov (ov_eql rfl rfl) rfl (sg_ rfl (nn_ ?_)))
  refine gw_cond rfl (fun hh => ?_) (fun hh => ?_)
  ·have h8 : e3 = 8 := by simpa using hh
   clear hh
   refine sr_ (fd_ fo45_0 rfl rfl (lk_ sc3 2 rfl rfl rfl ?_))
   refine wl_ov (ov_build (cs := [.int .i64 5, .string ⟨#[]⟩, .int .i64 e0]) rfl (by kernel_rfl)) rfl ?_
   refine mv_ rfl ?_
   refine wl_stores (cs' := [.int .i64 5, .string ⟨#[]⟩, .int .i64 e0]) 1 rz168 rfl rfl rfl rfl rfl rfl rfl rfl ?_
   refine sg_ rfl (nn_ ?_)
   refine gw_ret ?_
   refine nx_blk_ret (nx_then_ret ?_)
   refine nx_retct 1 rfl rz168 rfl rfl rfl rfl fun wx hm => ?_
   have hg := hm.g
   clear hm
   exact ⟨⟨5, ⟨#[]⟩, e0⟩, by simp [goodB, saEnc, *], (fun h => by first | (simp [nextS, *]; done) | (exfalso; simp [goodB, *] at h; done) | fail), hg⟩
  have h8 : ¬ (e3 = 8) := by simpa using hh
  clear hh
  refine gw_skip (nx_blk_nrm (nx_then (sr_ ?_)))
  refine wl_ov (ov_loads rz168 rfl (fun _ hm => hm.blkI 3 rfl) rfl rfl) rfl ?_
  refine wl_stores (cs' := [.int .i64 s0, .string s1, .int .i64 s2]) 1 rz168 rfl rfl rfl rfl rfl rfl rfl rfl ?_
  refine sg_ rfl (nn_ ?_)
  refine gw_ret ?_
  refine nx_retct 1 rfl rz168 rfl rfl rfl rfl fun wx hm => ?_
  have hg := hm.g
  clear hm
  exact ⟨⟨s0, s1, s2⟩, by simp [goodB, saEnc, *], (fun h => by first | (simp [nextS, *]; done) | (exfalso; simp [goodB, *] at h; done) | fail), hg⟩
 refine wl_set 11 rfl (congrArg Value.bool h0) ?_
 refine goff rfl rfl rfl (goff rfl rfl rfl (goff rfl rfl rfl (goff rfl rfl rfl (goff rfl rfl rfl (pf_ rfl rfl (sg_ rfl (nn_ (sr_ (fd_ fo45_2 rfl rfl (lk_ sc9 1 rfl rfl rfl (fd_ fo45_0 rfl rfl ?_)))))))))))
 refine lk_ sc3 1 rfl rfl rfl ?_
 refine wl_ov (ov_build (cs := [.int .i64 1, .string e2, .int .i64 e0]) rfl (by kernel_rfl)) rfl ?_
 refine wl_alloc zc168 rfl fun g5 => ?_
 refine wl_stores (cs' := [.int .i64 1, .string e2, .int .i64 e0]) 0 rz168 rfl rfl rfl rfl rfl rfl rfl rfl ?_
 refine nn_ (gw_seq (sr_ (fd_ fo45_3 rfl rfl (lk_ sc3 2 rfl rfl rfl (nn_ (gw_block (sr_ (wl_ov (ov_eql rfl rfl) rfl (sg_ rfl ?_)))))))))
 refine nn_ ?_
 refine gw_cond rfl (fun hh => ?_) (fun hh => ?_)
 ·have h1 : e3 = 1 := by simpa using hh
  clear hh
  refine gw_seq ?_
  refine gd (fun wz => Blk wz g5 168 [.int .i64 1, .string e2, .int .i64 e0] /\ Blk wz g2 45 [.int .i64 e0, .string e1, .string e2, .int .i64 e3, .string e4] /\ Blk wz g1 168 [.int .i64 s0, .string s1, .int .i64 s2] /\ True) mixed (fun _ hm => ⟨hm.bl 0, hm.bl 2, hm.bl 3, trivial⟩) fun z => ?_
  refine wt 0 6 1 rfl z (ov_loads rz168 rfl (fun _ hm => hm.1) rfl rfl) ?_
  refine wt 1 6 3 rfl z (ov_field fo168_0 rfl rfl) ?_
  refine wt 2 6 7 rfl z (ov_load sc3 rfl (fun _ hm => hm.2.2.1) rfl) ?_
  refine wt 3 6 15 rfl z (ov_eql rfl rfl) ?_
  refine wa1 4 rfl ?_
  refine wl_stores (cs' := [.int .i64 1, .string e2, .int .i64 e0]) 1 rz168 rfl rfl rfl rfl rfl rfl rfl rfl ?_
  refine wl_nil ?_
  refine nw 6 31 (fun _ hm => ⟨hm.bl 0, hm.bl 2, hm.bl 3, trivial⟩) fun z => ?_
  refine wt 5 6 63 rfl z (ov_assign rfl) ?_
  refine wa_done (by kernel_rfl) ?_
  refine nx_then ?_
  refine gw_ret ?_
  refine nx_blk_ret (nx_then_ret ?_)
  refine nx_retct 1 rfl rz168 rfl rfl rfl rfl fun wx hm => ?_
  have hg := hm.g
  clear hm
  exact ⟨⟨1, e2, e0⟩, by simp [goodB, saEnc, *], (fun h => by first | (simp [nextS, *]; done) | (exfalso; simp [goodB, *] at h; done) | fail), hg⟩
 have h1 : ¬ (e3 = 1) := by simpa using hh
 clear hh
 refine sr_ (wl_ov (ov_eql rfl rfl) rfl (sg_ rfl (nn_ ?_)))
 refine gw_cond rfl (fun hh => ?_) (fun hh => ?_)
 ·have h2 : e3 = 2 := by simpa using hh
  clear hh
  refine sr_ (fd_ fo45_0 rfl rfl (lk_ sc3 2 rfl rfl rfl ?_))
  refine wl_ov (ov_build (cs := [.int .i64 2, .string ⟨#[]⟩, .int .i64 e0]) rfl (by kernel_rfl)) rfl ?_
  refine mv_ rfl ?_
  refine wl_stores (cs' := [.int .i64 2, .string ⟨#[]⟩, .int .i64 e0]) 1 rz168 rfl rfl rfl rfl rfl rfl rfl rfl ?_
  refine sg_ rfl (nn_ ?_)
  refine gw_ret ?_
  refine nx_blk_ret (nx_then_ret ?_)
  refine nx_retct 1 rfl rz168 rfl rfl rfl rfl fun wx hm => ?_
  have hg := hm.g
  clear hm
  exact ⟨⟨2, ⟨#[]⟩, e0⟩, by simp [goodB, saEnc, *], (fun h => by first | (simp [nextS, *]; done) | (exfalso; simp [goodB, *] at h; done) | fail), hg⟩
 have h2 : ¬ (e3 = 2) := by simpa using hh
 clear hh
 refine sr_ (wl_ov (ov_eql rfl rfl) rfl (sg_ rfl (nn_ ?_)))
 refine gw_cond rfl (fun hh => ?_) (fun hh => ?_)
 ·have h3 : e3 = 3 := by simpa using hh
  clear hh
  refine gw_seq ?_
  refine gd (fun wz => Blk wz g5 168 [.int .i64 1, .string e2, .int .i64 e0] /\ Blk wz g2 45 [.int .i64 e0, .string e1, .string e2, .int .i64 e3, .string e4] /\ Blk wz g1 168 [.int .i64 s0, .string s1, .int .i64 s2] /\ True) mixed (fun _ hm => ⟨hm.bl 0, hm.bl 2, hm.bl 3, trivial⟩) fun z => ?_
  refine wt 0 6 1 rfl z (ov_loads rz168 rfl (fun _ hm => hm.1) rfl rfl) ?_
  refine wt 1 6 3 rfl z (ov_field fo168_0 rfl rfl) ?_
  refine wt 2 6 7 rfl z (ov_load sc3 rfl (fun _ hm => hm.2.2.1) rfl) ?_
  refine wt 3 6 15 rfl z (ov_eql rfl rfl) ?_
  refine wa1 4 rfl ?_
  refine wl_stores (cs' := [.int .i64 1, .string e2, .int .i64 e0]) 1 rz168 rfl rfl rfl rfl rfl rfl rfl rfl ?_
  refine wl_nil ?_
  refine nw 6 31 (fun _ hm => ⟨hm.bl 0, hm.bl 2, hm.bl 3, trivial⟩) fun z => ?_
  refine wt 5 6 63 rfl z (ov_assign rfl) ?_
  refine wa_done (by kernel_rfl) ?_
  refine nx_then ?_
  refine gw_ret ?_
  refine nx_blk_ret (nx_then_ret ?_)
  refine nx_retct 1 rfl rz168 rfl rfl rfl rfl fun wx hm => ?_
  have hg := hm.g
  clear hm
  exact ⟨⟨1, e2, e0⟩, by simp [goodB, saEnc, *], (fun h => by first | (simp [nextS, *]; done) | (exfalso; simp [goodB, *] at h; done) | fail), hg⟩
 have h3 : ¬ (e3 = 3) := by simpa using hh
 clear hh
 refine sr_ (wl_ov (ov_eql rfl rfl) rfl (sg_ rfl (nn_ ?_)))
 refine gw_cond rfl (fun hh => ?_) (fun hh => ?_)
 ·have h4 : e3 = 4 := by simpa using hh
  clear hh
  refine sr_ (fd_ fo168_0 rfl rfl ?_)
  refine wl_store 0 sc3 rfl rfl rfl rfl rfl rfl ?_
  refine nn_ (sr_ ?_)
  refine wl_ov (ov_loads rz168 rfl (fun _ hm => hm.blkI 0 rfl) rfl rfl) rfl ?_
  refine mv_ rfl ?_
  refine wl_stores (cs' := [.int .i64 3, .string e2, .int .i64 e0]) 1 rz168 rfl rfl rfl rfl rfl rfl rfl rfl ?_
  refine sg_ rfl (nn_ ?_)
  refine gw_ret ?_
  refine nx_blk_ret (nx_then_ret ?_)
  refine nx_retct 1 rfl rz168 rfl rfl rfl rfl fun wx hm => ?_
  have hg := hm.g
  clear hm
  exact ⟨⟨3, e2, e0⟩, by simp [goodB, saEnc, *], (fun h => by first | (simp [nextS, *]; done) | (exfalso; simp [goodB, *] at h; done) | fail), hg⟩
 have h4 : ¬ (e3 = 4) := by simpa using hh
 clear hh
 refine sr_ (wl_ov (ov_eql rfl rfl) rfl (sg_ rfl (nn_ ?_)))
 refine gw_cond rfl (fun hh => ?_) (fun hh => ?_)
 ·have h5 : e3 = 5 := by simpa using hh
  clear hh
  refine gw_seq ?_
  refine gd (fun wz => Blk wz g5 168 [.int .i64 1, .string e2, .int .i64 e0] /\ Blk wz g2 45 [.int .i64 e0, .string e1, .string e2, .int .i64 e3, .string e4] /\ Blk wz g1 168 [.int .i64 s0, .string s1, .int .i64 s2] /\ True) mixed (fun _ hm => ⟨hm.bl 0, hm.bl 2, hm.bl 3, trivial⟩) fun z => ?_
  refine wt 0 13 1 rfl z (ov_loads rz168 rfl (fun _ hm => hm.1) rfl rfl) ?_
  refine wt 1 13 3 rfl z (ov_field fo168_0 rfl rfl) ?_
  refine wt 2 13 7 rfl z (ov_load sc3 rfl (fun _ hm => hm.2.2.1) rfl) ?_
  refine wt 3 13 15 rfl z (ov_eql rfl rfl) ?_
  refine wt 4 13 31 rfl z (ov_move rfl) ?_
  rcases Bool.eq_false_or_eq_true (decide (s0 = 3)) with h6 | h6
  ·refine wa_set 54 rfl (congrArg Value.bool h6) ?_
   refine wto 5 13 63 rfl rfl rfl z (ov_field fo168_1 rfl rfl) ?_
   refine wto 6 13 127 rfl rfl rfl z (ov_load sc9 rfl (fun _ hm => hm.2.2.1) rfl) ?_
   refine wto 7 13 255 rfl rfl rfl z (ov_field fo45_2 rfl rfl) ?_
   refine wto 8 13 511 rfl rfl rfl z (ov_load sc9 rfl (fun _ hm => hm.2.1) rfl) ?_
   refine wto 9 13 1023 rfl rfl rfl z (ov_seql rfl rfl) ?_
   refine wt 10 13 2047 rfl z (ov_pick_t rfl rfl) ?_
   refine wa1 11 rfl ?_
   refine wl_stores (cs' := [.int .i64 1, .string e2, .int .i64 e0]) 1 rz168 rfl rfl rfl rfl rfl rfl rfl rfl ?_
   refine wl_nil ?_
   refine nw 13 4095 (fun _ hm => ⟨hm.bl 0, hm.bl 2, hm.bl 3, trivial⟩) fun z => ?_
   refine wt 12 13 8191 rfl z (ov_assign rfl) ?_
   refine wa_done (by kernel_rfl) ?_
   refine nx_then ?_
   refine gw_ret ?_
   refine nx_blk_ret (nx_then_ret ?_)
   refine nx_retct 1 rfl rz168 rfl rfl rfl rfl fun wx hm => ?_
   have hg := hm.g
   clear hm
   exact ⟨⟨1, e2, e0⟩, by simp [goodB, saEnc, *], (fun h => by first | (simp [nextS, *]; done) | (exfalso; simp [goodB, *] at h; done) | fail), hg⟩
  refine wa_set 54 rfl (congrArg Value.bool h6) ?_
  refine wtf 5 13 63 rfl rfl rfl z ?_
  refine wtf 6 13 127 rfl rfl rfl z ?_
  refine wtf 7 13 255 rfl rfl rfl z ?_
  refine wtf 8 13 511 rfl rfl rfl z ?_
  refine wtf 9 13 1023 rfl rfl rfl z ?_
  refine wt 10 13 2047 rfl z (ov_pick_f rfl rfl) ?_
  refine wa1 11 rfl ?_
  refine wl_stores (cs' := [.int .i64 1, .string e2, .int .i64 e0]) 1 rz168 rfl rfl rfl rfl rfl rfl rfl rfl ?_
  refine wl_nil ?_
  refine nw 13 4095 (fun _ hm => ⟨hm.bl 0, hm.bl 2, hm.bl 3, trivial⟩) fun z => ?_
  refine wt 12 13 8191 rfl z (ov_assign rfl) ?_
  refine wa_done (by kernel_rfl) ?_
  refine nx_then ?_
  refine gw_ret ?_
  refine nx_blk_ret (nx_then_ret ?_)
  refine nx_retct 1 rfl rz168 rfl rfl rfl rfl fun wx hm => ?_
  have hg := hm.g
  clear hm
  exact ⟨⟨1, e2, e0⟩, by simp [goodB, saEnc, *], (fun h => by first | (simp [nextS, *]; done) | (exfalso; simp [goodB, *] at h; done) | fail), hg⟩
 have h5 : ¬ (e3 = 5) := by simpa using hh
 clear hh
 refine sr_ (wl_ov (ov_eql rfl rfl) rfl (sg_ rfl (nn_ ?_)))
 refine gw_cond rfl (fun hh => ?_) (fun hh => ?_)
 ·have h6 : e3 = 6 := by simpa using hh
  clear hh
  refine sr_ (fd_ fo45_4 rfl rfl (lk_ sc9 2 rfl rfl rfl (fd_ fo45_0 rfl rfl (lk_ sc3 2 rfl rfl rfl ?_))))
  refine wl_ov (ov_build (cs := [.int .i64 4, .string e4, .int .i64 e0]) rfl (by kernel_rfl)) rfl ?_
  refine mv_ rfl ?_
  refine wl_stores (cs' := [.int .i64 4, .string e4, .int .i64 e0]) 1 rz168 rfl rfl rfl rfl rfl rfl rfl rfl ?_
  refine sg_ rfl (nn_ ?_)
  refine gw_ret ?_
  refine nx_blk_ret (nx_then_ret ?_)
  refine nx_retct 1 rfl rz168 rfl rfl rfl rfl fun wx hm => ?_
  have hg := hm.g
  clear hm
  exact ⟨⟨4, e4, e0⟩, by simp [goodB, saEnc, *], (fun h => by first | (simp [nextS, *]; done) | (exfalso; simp [goodB, *] at h; done) | fail), hg⟩
 have h6 : ¬ (e3 = 6) := by simpa using hh
 clear hh
 refine sr_ (wl_ov (ov_eql rfl rfl) rfl (sg_ rfl (nn_ ?_)))
 refine gw_cond rfl (fun hh => ?_) (fun hh => ?_)
 ·have h7 : e3 = 7 := by simpa using hh
  clear hh
  refine gw_seq ?_
  refine gd (fun wz => Blk wz g5 168 [.int .i64 1, .string e2, .int .i64 e0] /\ Blk wz g2 45 [.int .i64 e0, .string e1, .string e2, .int .i64 e3, .string e4] /\ Blk wz g1 168 [.int .i64 s0, .string s1, .int .i64 s2] /\ True) mixed (fun _ hm => ⟨hm.bl 0, hm.bl 2, hm.bl 3, trivial⟩) fun z => ?_
  refine wt 0 13 1 rfl z (ov_loads rz168 rfl (fun _ hm => hm.1) rfl rfl) ?_
  refine wt 1 13 3 rfl z (ov_field fo168_0 rfl rfl) ?_
  refine wt 2 13 7 rfl z (ov_load sc3 rfl (fun _ hm => hm.2.2.1) rfl) ?_
  refine wt 3 13 15 rfl z (ov_eql rfl rfl) ?_
  refine wt 4 13 31 rfl z (ov_move rfl) ?_
  rcases Bool.eq_false_or_eq_true (decide (s0 = 4)) with h8 | h8
  ·refine wa_set 75 rfl (congrArg Value.bool h8) ?_
   refine wto 5 13 63 rfl rfl rfl z (ov_field fo168_1 rfl rfl) ?_
   refine wto 6 13 127 rfl rfl rfl z (ov_load sc9 rfl (fun _ hm => hm.2.2.1) rfl) ?_
   refine wto 7 13 255 rfl rfl rfl z (ov_field fo45_2 rfl rfl) ?_
   refine wto 8 13 511 rfl rfl rfl z (ov_load sc9 rfl (fun _ hm => hm.2.1) rfl) ?_
   refine wto 9 13 1023 rfl rfl rfl z (ov_seql rfl rfl) ?_
   refine wt 10 13 2047 rfl z (ov_pick_t rfl rfl) ?_
   refine wa1 11 rfl ?_
   refine wl_stores (cs' := [.int .i64 1, .string e2, .int .i64 e0]) 1 rz168 rfl rfl rfl rfl rfl rfl rfl rfl ?_
   refine wl_nil ?_
   refine nw 13 4095 (fun _ hm => ⟨hm.bl 0, hm.bl 2, hm.bl 3, trivial⟩) fun z => ?_
   refine wt 12 13 8191 rfl z (ov_assign rfl) ?_
   refine wa_done (by kernel_rfl) ?_
   refine nx_then ?_
   refine gw_ret ?_
   refine nx_blk_ret (nx_then_ret ?_)
   refine nx_retct 1 rfl rz168 rfl rfl rfl rfl fun wx hm => ?_
   have hg := hm.g
   clear hm
   exact ⟨⟨1, e2, e0⟩, by simp [goodB, saEnc, *], (fun h => by first | (simp [nextS, *]; done) | (exfalso; simp [goodB, *] at h; done) | fail), hg⟩
  refine wa_set 75 rfl (congrArg Value.bool h8) ?_
  refine wtf 5 13 63 rfl rfl rfl z ?_
  refine wtf 6 13 127 rfl rfl rfl z ?_
  refine wtf 7 13 255 rfl rfl rfl z ?_
  refine wtf 8 13 511 rfl rfl rfl z ?_
  refine wtf 9 13 1023 rfl rfl rfl z ?_
  refine wt 10 13 2047 rfl z (ov_pick_f rfl rfl) ?_
  refine wa1 11 rfl ?_
  refine wl_stores (cs' := [.int .i64 1, .string e2, .int .i64 e0]) 1 rz168 rfl rfl rfl rfl rfl rfl rfl rfl ?_
  refine wl_nil ?_
  refine nw 13 4095 (fun _ hm => ⟨hm.bl 0, hm.bl 2, hm.bl 3, trivial⟩) fun z => ?_
  refine wt 12 13 8191 rfl z (ov_assign rfl) ?_
  refine wa_done (by kernel_rfl) ?_
  refine nx_then ?_
  refine gw_ret ?_
  refine nx_blk_ret (nx_then_ret ?_)
  refine nx_retct 1 rfl rz168 rfl rfl rfl rfl fun wx hm => ?_
  have hg := hm.g
  clear hm
  exact ⟨⟨1, e2, e0⟩, by simp [goodB, saEnc, *], (fun h => by first | (simp [nextS, *]; done) | (exfalso; simp [goodB, *] at h; done) | fail), hg⟩
 have h7 : ¬ (e3 = 7) := by simpa using hh
 clear hh
 refine sr_ (wl_ov (ov_eql rfl rfl) rfl (sg_ rfl (nn_ ?_)))
 refine gw_cond rfl (fun hh => ?_) (fun hh => ?_)
 ·have h8 : e3 = 8 := by simpa using hh
  clear hh
  refine sr_ (fd_ fo45_0 rfl rfl (lk_ sc3 2 rfl rfl rfl ?_))
  refine wl_ov (ov_build (cs := [.int .i64 5, .string ⟨#[]⟩, .int .i64 e0]) rfl (by kernel_rfl)) rfl ?_
  refine mv_ rfl ?_
  refine wl_stores (cs' := [.int .i64 5, .string ⟨#[]⟩, .int .i64 e0]) 1 rz168 rfl rfl rfl rfl rfl rfl rfl rfl ?_
  refine sg_ rfl (nn_ ?_)
  refine gw_ret ?_
  refine nx_blk_ret (nx_then_ret ?_)
  refine nx_retct 1 rfl rz168 rfl rfl rfl rfl fun wx hm => ?_
  have hg := hm.g
  clear hm
  exact ⟨⟨5, ⟨#[]⟩, e0⟩, by simp [goodB, saEnc, *], (fun h => by first | (simp [nextS, *]; done) | (exfalso; simp [goodB, *] at h; done) | fail), hg⟩
 have h8 : ¬ (e3 = 8) := by simpa using hh
 clear hh
 refine gw_skip (nx_blk_nrm (nx_then (sr_ ?_)))
 refine wl_ov (ov_loads rz168 rfl (fun _ hm => hm.blkI 3 rfl) rfl rfl) rfl ?_
 refine wl_stores (cs' := [.int .i64 s0, .string s1, .int .i64 s2]) 1 rz168 rfl rfl rfl rfl rfl rfl rfl rfl ?_
 refine sg_ rfl (nn_ ?_)
 refine gw_ret ?_
 refine nx_retct 1 rfl rz168 rfl rfl rfl rfl fun wx hm => ?_
 have hg := hm.g
 clear hm
 exact ⟨⟨s0, s1, s2⟩, by simp [goodB, saEnc, *], (fun h => by first | (simp [nextS, *]; done) | (exfalso; simp [goodB, *] at h; done) | fail), hg⟩
def natI (k : Nat) : Int := (k : Int)
def itEnc1 (x : Int) : List Value := [.int .i64 x]
theorem it_len1 (x : Int) : (itEnc1 x).length = 1 := rfl
def brokenV (l : List Ev) (v : ByteArray) : List Int := (brks v l 0 sa0).map natI
theorem stages_any (l : List Ev) (A : Option Addr) (n c0 : Nat) (v : ByteArray) (w : World) (hl : SlT evEnc 5 45 w A n l) (hn : n <= 100000) :
  Calls Tryz.prog 204 #[.slice A n c0, .string v] w (fun e w' => ∃ (A1 : Option Addr) (n1 c1 : Nat) (A2 : Option Addr) (n2 c2 : Nat), e = .returned (.tuple #[.slice A1 n1 c1, .slice A2 n2 c2]) /\ w'.ownsRow w.heap.size 168 3 (.slice A1 n1 c1) n1 ((stages l v).flatMap saEnc) /\ (stages l v).length = n1 /\ w'.ownsRow w.heap.size 3 1 (.slice A2 n2 c2) n2 ((brokenV l v).flatMap itEnc1) /\ (brokenV l v).length = n2 /\ n1 <= n + 1 /\ n2 <= n /\ w.grownBy w' none) := by
 refine gw_enter ⟨48, w, none, []⟩ Tryz.func204 rfl Tryz.ntmps204 rfl (mem0 (X := [SlOld evEnc 5 45 w.heap.size none A n l]) (allF_cons hl.old allF_nil) (allL_cons SlOld.lasts allL_nil)) ?_
 refine sr_ ?_
 have hlen := hl.len
 refine wl_nilOwn 3 1 ?_
 refine sg_ rfl (sg_ rfl (nn_ (sr_ ?_)))
 refine wl_ov (ov_build (cs := [.int .i64 0, .string ⟨#[]⟩, .int .i64 0]) rfl (by kernel_rfl)) rfl ?_
 refine wl_buildSlice (e := 168) (cs := [.int .i64 0, .string ⟨#[]⟩, .int .i64 0]) rfl (by kernel_rfl) rfl fun g1 => ?_
 refine sg_ rfl (sg_ rfl (nn_ (gw_seq (sr_ (mv_ rfl (wl_ov (ov_len es39 rfl) rfl (mv_ rfl (nn_ (gw_block ?_)))))))))
 refine gw_toOwn (sz := 3) (n := 1) 0 [] rfl rfl rfl (by unfold maxLen; omega) ?_
 refine gw_loop (γ := Nat × Sa × Nat × Option Addr × Nat × List Sa × Nat × Option Addr × Nat × List Int) (fun g => (g.1 <= n /\ g.2.2.1 <= g.1 + 1 /\ g.2.2.2.2.2.2.1 <= g.1) /\ (g.2.2.2.2.2.1.length = g.2.2.1 /\ 1 <= g.2.2.1 /\ g.2.2.2.2.2.1[g.2.2.1 - 1]? = some g.2.1 /\ g.2.2.2.2.2.1 ++ stgs v (l.drop g.1) g.2.1 = stages l v) /\ g.2.2.2.2.2.2.2.2.2.length = g.2.2.2.2.2.2.1 /\ g.2.2.2.2.2.2.2.2.2 ++ (brks v (l.drop g.1) g.1 g.2.1).map natI = brokenV l v) (fun g => [(1, .string v), (4, .slice none 0 0), (5, .slice none 0 0), (6, .slice g.2.2.2.1 g.2.2.1 g.2.2.2.2.1), (7, .slice g.2.2.2.2.2.2.2.1 g.2.2.2.2.2.2.1 g.2.2.2.2.2.2.2.2.1), (14, .slice A n c0), (15, .int .i64 ((n : Nat) : Int)), (16, .int .i64 ((g.1 : Nat) : Int))]) (fun g => fun _ => True) (fun g => []) (fun g => [⟨.slice g.2.2.2.1 g.2.2.1 g.2.2.2.2.1, 168, 3, g.2.2.1, g.2.2.2.2.2.1.flatMap saEnc⟩, ⟨.slice g.2.2.2.2.2.2.2.1 g.2.2.2.2.2.2.1 g.2.2.2.2.2.2.2.2.1, 3, 1, g.2.2.2.2.2.2.1, g.2.2.2.2.2.2.2.2.2.flatMap itEnc1⟩]) (fun g => [SlOld evEnc 5 45 w.heap.size none A n l]) (fun g => n - g.1) (0, sa0, 1, (some ⟨g1, 0, none⟩), 1, [sa0], 0, none, 0, []) ⟨⟨Nat.zero_le _, Nat.le_refl _, Nat.le_refl _⟩, ⟨rfl, Nat.le_refl _, rfl, rfl⟩, rfl, rfl⟩ ⟨rfl, rfl, rfl, rfl, rfl, rfl, rfl, rfl, trivial⟩ (fun _ hm => hm.pick [] [0, 1] [0] rfl rfl) ?_
 rintro ⟨i, sc, k, A1, c1, ol, kb, A2, c2, bl⟩ hinv
 replace hinv : (i <= n /\ k <= i + 1 /\ kb <= i) /\ (ol.length = k /\ 1 <= k /\ ol[k - 1]? = some sc /\ ol ++ stgs v (l.drop i) sc = stages l v) /\ bl.length = kb /\ bl ++ (brks v (l.drop i) i sc).map natI = brokenV l v := hinv
 dsimp only
 refine sr_ ?_
 obtain ⟨⟨hi0, hki, hkbi⟩, ⟨hol, hk1, hlast, hst⟩, hbl, hbr⟩ := hinv
 refine wl_ov (ov_lss rfl rfl) rfl (nn_ (gw_seq ?_))
 refine gw_cond rfl (fun hh => ?_) (fun hh => ?_)
 ·have hi : ((i : Nat) : Int) < ((n : Nat) : Int) := by simpa using hh
  clear hh
  refine gw_skip (nx_then (gw_seq (gw_block (sr_ ?_))))
  obtain ⟨b, off, hA, _, _⟩ := hl.get (by omega)
  subst hA
  obtain ⟨x, hx⟩ : ∃ x, l[i]? = some x := ⟨_, List.getElem?_eq_getElem (by omega)⟩
  obtain ⟨e0, e1, e2, e3, e4⟩ := x
  have hsa := stgs_at (v := v) (s := sc) hx
  have hba := brks_at (v := v) (s := sc) hx
  dsimp only at hsa hba
  refine mv_ rfl ?_
  refine wl_ov (ov_index (j := i) es39 rfl rfl (by omega)) rfl ?_
  refine wl_ov (ov_elem (vs := [.int .i64 e0, .string e1, .string e2, .int .i64 e3, .string e4]) rz45 rfl (fun _ hm => (hm.fact 0 rfl).1) hx rfl rfl) rfl ?_
  refine wl_alloc zc45 rfl fun g2 => ?_
  refine sg_ rfl ?_
  refine wl_stores (cs' := [.int .i64 e0, .string e1, .string e2, .int .i64 e3, .string e4]) 0 rz45 rfl rfl rfl rfl rfl rfl rfl rfl ?_
  refine nn_ (gw_seq (sr_ (fd_ fo45_1 rfl rfl (lk_ sc9 0 rfl rfl rfl (mv_ rfl (wl_ov (ov_sneq rfl rfl) rfl (nn_ ?_)))))))
  refine gw_cond rfl (fun hh => ?_) (fun hh => ?_)
  ·have hv : (e1.toList == v.toList) = false := by simpa using hh
   clear hh
   refine gw_exit ?_
   refine nx_then_exit ?_
   refine nx_blk_here ?_
   refine nx_then (gw_region (ad_ rfl rfl (mv_ rfl (wl_nil ?_))))
   exact nx_round (i + 1, sc, k, A1, c1, ol, kb, A2, c2, bl) ⟨⟨by dsimp only; omega, by dsimp only; omega, by dsimp only; omega⟩, ⟨hol, hk1, hlast, by rw [hsa, if_neg (by rw [hv]; decide)] at hst; exact hst⟩, hbl, by rw [hba, if_neg (by rw [hv]; decide)] at hbr; exact hbr⟩ (by dsimp only; omega) ⟨rfl, rfl, rfl, rfl, rfl, rfl, rfl, (some_int (by omega)), trivial⟩ (fun _ hm => hm.pick [] [0, 1] [0] rfl rfl)
  have hv : (e1.toList == v.toList) = true := by simpa using hh
  clear hh
  refine gw_skip (nx_then ?_)
  rw [if_pos hv] at hsa hba
  obtain ⟨s0, s1, s2⟩ := sc
  refine gw_look (R := ∃ g, A1 = some ⟨g, 0, none⟩) (fun wx hm => own_addr (hm.ownI 0 rfl) (by omega)) ?_
  rintro ⟨bs, rfl⟩
  refine gw_cut (γ := Nat × Sa) (I := (fun g => goodB (⟨s0, s1, s2⟩ : Sa) (⟨e0, e1, e2, e3, e4⟩ : Ev) = true -> g.2 = nextS (⟨e0, e1, e2, e3, e4⟩ : Ev))) (S' := (fun g => [(1, .string v), (4, .slice none 0 0), (5, .slice none 0 0), (6, .slice (some ⟨bs, 0, none⟩) k c1), (7, .slice A2 kb c2), (8, .int .i64 ((i : Nat) : Int)), (10, .pointer (some ⟨g.1, 0, none⟩)), (11, .bool (goodB (⟨s0, s1, s2⟩ : Sa) (⟨e0, e1, e2, e3, e4⟩ : Ev))), (14, .slice (some ⟨b, off, none⟩) n c0), (15, .int .i64 ((n : Nat) : Int)), (16, .int .i64 ((i : Nat) : Int))])) (K' := (fun g => fun _ => True)) (L' := (fun g => [(g.1, 168, [.int .i64 g.2.st, .string g.2.sta, .int .i64 g.2.since]), (g2, 45, [.int .i64 e0, .string e1, .string e2, .int .i64 e3, .string e4])])) (O' := (fun g => [⟨.slice (some ⟨bs, 0, none⟩) k c1, 168, 3, k, ol.flatMap saEnc⟩, ⟨.slice A2 kb c2, 3, 1, kb, bl.flatMap itEnc1⟩])) (X' := (fun g => [SlOld evEnc 5 45 w.heap.size none (some ⟨b, off, none⟩) n l])) ?_ ?_
  ·have hk2 : k - 1 < k := by omega
   refine gd (fun wz => Blk wz g2 45 [.int .i64 e0, .string e1, .string e2, .int .i64 e3, .string e4] /\ (SlOld evEnc 5 45 w.heap.size none (some ⟨b, off, none⟩) n l) wz /\ wz.ownsRow w.heap.size 168 3 (.slice (some ⟨bs, 0, none⟩) k c1) k (ol.flatMap saEnc) /\ wz.ownsRow w.heap.size 3 1 (.slice A2 kb c2) kb (bl.flatMap itEnc1) /\ True) mixed (fun _ hm => ⟨hm.bl 0, hm.fa 0, hm.ownI 0 rfl, hm.ownI 1 rfl, trivial⟩) fun z => ?_
   refine wt 0 14 1 rfl z (ov_move rfl) ?_
   refine wt 1 14 3 rfl z (ov_move rfl) ?_
   refine wt 2 14 7 rfl z (ov_len es252 rfl) ?_
   refine wt 3 14 15 rfl z (ov_sub rfl rfl (by omega) (by omega)) ?_
   refine wa_set 29 (v' := .int .i64 (((k - 1) : Nat) : Int)) rfl (congrArg (Value.int .i64) (by omega)) ?_
   refine wt 4 14 31 rfl z (ov_index (j := (k - 1)) es252 rfl rfl (by omega)) ?_
   refine wt 5 14 63 rfl z (ov_elem (vs := [.int .i64 s0, .string s1, .int .i64 s2]) rz168 rfl (fun _ hm => (SlT.ofOwn sa_len (hm.2.2.1) hol)) hlast rfl rfl) ?_
   refine wt 6 14 127 rfl z (ov_loads rz45 rfl (fun _ hm => hm.1) rfl rfl) ?_
   refine wa_all [7, 11] (by kernel_rfl) rfl ⟨⟨_, rfl, ?_⟩, ⟨_, rfl, ?_⟩, trivial⟩
   ·refine wl_callx (γ := Sa) (val := (fun g => .tuple #[.agg #[.int .i64 g.st, .string g.sta, .int .i64 g.since], .bool (goodB (⟨s0, s1, s2⟩ : Sa) (⟨e0, e1, e2, e3, e4⟩ : Ev))])) (φ := (fun g => goodB (⟨s0, s1, s2⟩ : Sa) (⟨e0, e1, e2, e3, e4⟩ : Ev) = true -> g = nextS (⟨e0, e1, e2, e3, e4⟩ : Ev))) (Y := (fun g => fun _ => True)) rfl cb269 rfl rfl (fun wx hm => (rfollow_any s0 s1 s2 e0 e1 e2 e3 e4 wx).mono fun _ _ ⟨t, he, h1, hg⟩ => ⟨t, he, h1, hg, trivial⟩) (fun _ => Lasts2.true_) ?_
    rintro t htn
    refine wl_nil ?_
    refine nw 14 255 (fun _ hm => ⟨hm.bl 0, hm.fa 1, hm.ownI 0 rfl, hm.ownI 1 rfl, trivial⟩) fun z => ?_
    refine wt 8 14 511 rfl z (ov_move rfl) ?_
    refine wt 9 14 1023 rfl z (ov_extract rfl rfl) ?_
    refine wt 10 14 2047 rfl z (ov_extract rfl rfl) ?_
    refine wa1 11 rfl ?_
    refine wl_alloc zc168 rfl fun g4 => ?_
    refine wl_nil ?_
    refine nw 14 4095 (fun _ hm => ⟨hm.bl 1, hm.fa 1, hm.ownI 0 rfl, hm.ownI 1 rfl, trivial⟩) fun z => ?_
    refine wa1 12 rfl ?_
    refine wl_stores (cs' := [.int .i64 t.st, .string t.sta, .int .i64 t.since]) 0 rz168 rfl rfl rfl rfl rfl rfl rfl rfl ?_
    refine wl_nil ?_
    refine nw 14 8191 (fun _ hm => ⟨hm.bl 1, hm.fa 1, hm.ownI 0 rfl, hm.ownI 1 rfl, trivial⟩) fun z => ?_
    refine wt 13 14 16383 rfl z (ov_assign rfl) ?_
    refine wa_done (by kernel_rfl) ?_
    exact nx_meet (g4, t) htn ⟨rfl, rfl, rfl, rfl, rfl, rfl, rfl, rfl, rfl, rfl, rfl, trivial⟩ (fun _ hm => hm.pick [0, 1] [0, 1] [1] rfl rfl)
   refine wl_alloc zc168 rfl fun g5 => ?_
   refine wl_nil ?_
   refine nw 14 2175 (fun _ hm => ⟨hm.bl 1, hm.fa 0, hm.ownI 0 rfl, hm.ownI 1 rfl, trivial⟩) fun z => ?_
   refine wa1 7 rfl ?_
   refine wl_callx (γ := Sa) (val := (fun g => .tuple #[.agg #[.int .i64 g.st, .string g.sta, .int .i64 g.since], .bool (goodB (⟨s0, s1, s2⟩ : Sa) (⟨e0, e1, e2, e3, e4⟩ : Ev))])) (φ := (fun g => goodB (⟨s0, s1, s2⟩ : Sa) (⟨e0, e1, e2, e3, e4⟩ : Ev) = true -> g = nextS (⟨e0, e1, e2, e3, e4⟩ : Ev))) (Y := (fun g => fun _ => True)) rfl cb269 rfl rfl (fun wx hm => (rfollow_any s0 s1 s2 e0 e1 e2 e3 e4 wx).mono fun _ _ ⟨t, he, h1, hg⟩ => ⟨t, he, h1, hg, trivial⟩) (fun _ => Lasts2.true_) ?_
   rintro t htn
   refine wl_nil ?_
   refine nw 14 2303 (fun _ hm => ⟨hm.bl 1, hm.fa 1, hm.ownI 0 rfl, hm.ownI 1 rfl, trivial⟩) fun z => ?_
   refine wt 8 14 2559 rfl z (ov_move rfl) ?_
   refine wt 9 14 3071 rfl z (ov_extract rfl rfl) ?_
   refine wt 10 14 4095 rfl z (ov_extract rfl rfl) ?_
   refine wa1 12 rfl ?_
   refine wl_stores (cs' := [.int .i64 t.st, .string t.sta, .int .i64 t.since]) 0 rz168 rfl rfl rfl rfl rfl rfl rfl rfl ?_
   refine wl_nil ?_
   refine nw 14 8191 (fun _ hm => ⟨hm.bl 1, hm.fa 1, hm.ownI 0 rfl, hm.ownI 1 rfl, trivial⟩) fun z => ?_
   refine wt 13 14 16383 rfl z (ov_assign rfl) ?_
   refine wa_done (by kernel_rfl) ?_
   exact nx_meet (g5, t) htn ⟨rfl, rfl, rfl, rfl, rfl, rfl, rfl, rfl, rfl, rfl, rfl, trivial⟩ (fun _ hm => hm.pick [0, 1] [0, 1] [1] rfl rfl)
  rintro ⟨gt, t⟩ hinv
  replace hinv : goodB (⟨s0, s1, s2⟩ : Sa) (⟨e0, e1, e2, e3, e4⟩ : Ev) = true -> t = nextS (⟨e0, e1, e2, e3, e4⟩ : Ev) := hinv
  dsimp only
  refine sr_ ?_
  have htn : goodB (⟨s0, s1, s2⟩ : Sa) (⟨e0, e1, e2, e3, e4⟩ : Ev) = true -> t = nextS (⟨e0, e1, e2, e3, e4⟩ : Ev) := hinv
  refine mv_ rfl (nn_ ?_)
  refine gw_cond rfl (fun hh => ?_) (fun hh => ?_)
  ·have hgd : (goodB (⟨s0, s1, s2⟩ : Sa) (⟨e0, e1, e2, e3, e4⟩ : Ev)) = true := by simpa using hh
   clear hh
   refine gw_region ?_
   have htn := htn hgd
   rw [if_pos hgd] at hsa hba
   refine mv_ rfl ?_
   refine wl_ov (ov_loads rz168 rfl (fun _ hm => hm.blkI 0 rfl) rfl rfl) rfl ?_
   refine wl_buildSlice (e := 168) (cs := [.int .i64 t.st, .string t.sta, .int .i64 t.since]) rfl (by kernel_rfl) rfl fun g7 => ?_
   refine wl_append (news := [.int .i64 t.st, .string t.sta, .int .i64 t.since]) 0 0 ap252 rfl rfl rfl rfl rfl rfl rfl (by omega) (by unfold maxLen; omega) rfl rfl fun v2 hv2 => ?_
   refine wl_look (R := ∃ A cc, v2 = .slice A (k + 1) cc) (fun wx hm => own_slice (hm.ownI 0 rfl)) ?_
   rintro ⟨A3, c3, rfl⟩
   have hxs : ol.flatMap saEnc ++ ([.int .i64 t.st, .string t.sta, .int .i64 t.since] : List Value) = (ol ++ [t]).flatMap saEnc := by simp [saEnc]
   rw [hxs]
   refine sg_ rfl (wl_nil (nx_blk_nrm (nx_then (gw_region (ad_ rfl rfl (mv_ rfl (wl_nil ?_)))))))
   exact nx_round (i + 1, t, k + 1, A3, c3, ol ++ [t], kb, A2, c2, bl) ⟨⟨by dsimp only; omega, by dsimp only; omega, by dsimp only; omega⟩, ⟨by simp [hol], by dsimp only; omega, by simp [<- hol], by rw [hsa, <- htn] at hst; rw [<- hst]; simp⟩, hbl, by rw [hba, <- htn] at hbr; exact hbr⟩ (by dsimp only; omega) ⟨rfl, rfl, rfl, rfl, rfl, rfl, rfl, (some_int (by omega)), trivial⟩ (fun _ hm => hm.pick [] [0, 1] [0] rfl rfl)
  have hgd : (goodB (⟨s0, s1, s2⟩ : Sa) (⟨e0, e1, e2, e3, e4⟩ : Ev)) = false := by simpa using hh
  clear hh
  refine gw_region ?_
  rw [if_neg (by rw [hgd]; decide)] at hsa hba
  refine mv_ rfl (mv_ rfl ?_)
  refine wl_buildSlice (e := 3) (cs := [.int .i64 ((i : Nat) : Int)]) rfl (by kernel_rfl) rfl fun g8 => ?_
  refine wl_append (news := [.int .i64 ((i : Nat) : Int)]) 1 0 ap22 rfl rfl rfl rfl rfl rfl rfl (by omega) (by unfold maxLen; omega) rfl rfl fun v2 hv2 => ?_
  refine wl_look (R := ∃ A cc, v2 = .slice A (kb + 1) cc) (fun wx hm => own_slice (hm.ownI 1 rfl)) ?_
  rintro ⟨A3, c3, rfl⟩
  have hxs : bl.flatMap itEnc1 ++ ([.int .i64 ((i : Nat) : Int)] : List Value) = (bl ++ [natI i]).flatMap itEnc1 := by simp [itEnc1, natI]
  rw [hxs]
  refine sg_ rfl (wl_nil (nx_blk_nrm (nx_then (gw_region (ad_ rfl rfl (mv_ rfl (wl_nil ?_)))))))
  exact nx_round (i + 1, (⟨s0, s1, s2⟩ : Sa), k, some ⟨bs, 0, none⟩, c1, ol, kb + 1, A3, c3, bl ++ [natI i]) ⟨⟨by dsimp only; omega, by dsimp only; omega, by dsimp only; omega⟩, ⟨hol, hk1, hlast, by rw [hsa] at hst; exact hst⟩, by simp [hbl], by rw [hba] at hbr; rw [<- hbr]; simp⟩ (by dsimp only; omega) ⟨rfl, rfl, rfl, rfl, rfl, rfl, rfl, (some_int (by omega)), trivial⟩ (fun _ hm => hm.pick [] [0, 1] [0] rfl rfl)
 have hi : ¬ (((i : Nat) : Int) < ((n : Nat) : Int)) := by simpa using hh
 clear hh
 refine gw_exit ?_
 refine nx_then_exit (nx_then_exit ?_)
 refine nx_blk_here ?_
 refine nx_then (sr_ (mv_ rfl (mv_ rfl (sg_ rfl (sg_ rfl (nn_ ?_))))))
 refine gw_ret ?_
 have hdn : l.drop i = [] := List.drop_eq_nil_of_le (by omega)
 have hs1 : ol = stages l v := by rw [<- hst, hdn]; simp [stgs]
 have hb1 : bl = brokenV l v := by rw [<- hbr, hdn]; simp [brks]
 refine nx_ret2 rfl rfl rfl fun wx hm => ?_
 exact ⟨A1, k, c1, A2, kb, c2, rfl, hs1 ▸ hm.ownI 0 rfl, hs1 ▸ hol, hb1 ▸ hm.ownI 1 rfl, hb1 ▸ hbl, by omega, by omega, hm.g⟩
end Go.Proofs.YtempjmpfdniecaaGreatDoor
namespace Go.Proofs.YtempjmpfdniecaaGreatDoor
open Go.RowKit Go.Shelf
attribute [local go_sem] Oper.semAt_some
def backs (zs : List Sa) (k : Nat) : List (Nat × Sa) := (List.range k).map fun j => (zs.length - 1 - j, zs[zs.length - 1 - j]?.getD sa0)
theorem backs_succ (zs : List Sa) (k : Nat) : backs zs (k + 1) = backs zs k ++ [(zs.length - 1 - k, zs[zs.length - 1 - k]?.getD sa0)] := by simp [backs, List.range_succ]
theorem backs_len (zs : List Sa) (k : Nat) : (backs zs k).length = k := by simp [backs]
set_option maxRecDepth 100000 in
set_option maxHeartbeats 4000000 in
theorem back1_in (F : Fence) (n : Nat) (hfn : F.fn 270) (hro : F.round = none) (hn : 1 <= n) (l Bs n₀ b off cap : Nat) (zs : List Sa) (hz : zs.length <= 1000000) (hb : b < n₀) (hB : Bs < n₀) (J Jx : List (Nat × Sa) -> World -> Prop)
  (hY : ∀ pre x W, J pre W -> pre.length < zs.length -> YieldAt F (n - 1) Tryz.prog l #[.int .i64 (x.1 : Int), .agg #[.int .i64 x.2.st, .string x.2.sta, .int .i64 x.2.since]] W fun e W' =>
   (e = .returned (.bool true) /\ J (pre ++ [x]) W' /\ Below n₀ W W') ∨ (e = .returned (.bool false) /\ Jx (pre ++ [x]) W'))
  (W : World) (hBs : W.cell? ⟨Bs, 0, none⟩ = some (.slice (some ⟨b, off, none⟩) zs.length cap)) (hc : ∀ j x, zs[j]? = some x -> W.rangeAt b (off + j * 3) (saEnc x)) (h0 : J [] W) :
  CallsIn F n Tryz.prog 270 #[.func (.yield l) #[] #[], .pointer (some ⟨Bs, 0, none⟩)] W fun e W' => (∃ v, e = .returned v) /\
   ((∃ ys, ys = backs zs zs.length /\ J ys W') ∨ (∃ pre, (∃ k, k <= zs.length /\ pre = backs zs k) /\ Jx pre W')) := by
 refine callsIn_of_wp Tryz.func270 rfl hfn ?_ hro
 simp only [Tryz.ntmps270, List.size_toArray, List.length_cons, List.length_nil, Nat.reduceAdd, Nat.reduceSub, Array.replicate_succ, Array.replicate_zero, List.push_toArray, List.append_toArray, List.nil_append, List.cons_append]
 have hw0 : IntKind.i64.wrap ((zs.length : Int) - 1) = (zs.length : Int) - 1 := IntWalk.i64_in _ (by omega)
 gi_wp2
 gi_loopw [3] (fun i wr => ∃ m : Nat, m <= zs.length /\ i = .int .i64 ((m : Int) - 1) /\ J (backs zs (zs.length - m)) wr /\ Below n₀ W wr)
  (fun i _ => (intOf i + 1).toNat)
 case atStart => exact ⟨zs.length, Nat.le_refl _, rfl, by rw [Nat.sub_self]; exact h0, Below.refl _ _⟩
 case round =>
  obtain ⟨m, hm, rfl, hJs, hnx⟩ := hrel
  have hBr : wr.cell? ⟨Bs, 0, none⟩ = some (.slice (some ⟨b, off, none⟩) zs.length cap) := (hnx.cell (p := ⟨Bs, 0, none⟩) hB).trans hBs
  rcases m with _ | j
  ·gi_wp2
   go_end0
   exact ⟨⟨_, rfl⟩, .inl ⟨_, rfl, by simpa using hJs⟩⟩
  ·have ej : ((j + 1 : Nat) : Int) - 1 = (j : Int) := by omega
   rw [ej]
   have hlt : j < zs.length := by omega
   obtain ⟨x, hx⟩ : ∃ x, zs[j]? = some x := ⟨_, List.getElem?_eq_getElem hlt⟩
   have hr := hc j x hx
   have k0 : wr.cell? ⟨b, off + j * 3, none⟩ = some (.int .i64 x.st) := (hnx.cell (p := ⟨b, off + j * 3, none⟩) hb).trans (hr 0 _ rfl)
   have k1 : wr.cell? ⟨b, off + j * 3 + 1, none⟩ = some (.string x.sta) := (hnx.cell (p := ⟨b, off + j * 3 + 1, none⟩) hb).trans (hr 1 _ rfl)
   have k2 : wr.cell? ⟨b, off + j * 3 + 2, none⟩ = some (.int .i64 x.since) := (hnx.cell (p := ⟨b, off + j * 3 + 2, none⟩) hb).trans (hr 2 _ rfl)
   have hjx : zs.length - 1 - (zs.length - (j + 1)) = j := by omega
   have hbk := backs_succ zs (zs.length - (j + 1))
   rw [hjx, hx, show zs.length - (j + 1) + 1 = zs.length - j by omega] at hbk
   obtain ⟨fn, tmps, assign, body, hy, hR⟩ := hY _ (j, x) wr hJs (by rw [backs_len]; omega)
   dsimp only at hy
   have hw1 : IntKind.i64.wrap ((j : Int) - 1) = (j : Int) - 1 := IntWalk.i64_in _ (by omega)
   gi_wp2
   refine hR.mono ?_
   rintro e W3 (⟨rfl, hJ3, hk3⟩ | ⟨rfl, hJx3⟩)
   ·gi_wp2
    go_roundw
    case rel => exact ⟨j, by omega, by first | rfl | rw [hw1], by rw [hbk]; exact hJ3, hnx.trans hk3⟩
    case measure => simp [intOf]
   ·gi_wp2
    refine bodyPost_ret (results_none rfl _ _ _) rfl ?_
    exact ⟨⟨_, rfl⟩, .inr ⟨_, ⟨zs.length - j, by omega, hbk.symm⟩, hJx3⟩⟩
set_option maxHeartbeats 1000000 in
theorem backward_in (F : Fence) (n : Nat) (hfn : F.fn 205) (hro : F.round = none) (a : Option Addr) (len cap : Nat) (w : World) :
  CallsIn F n Tryz.prog 205 #[.slice a len cap] w fun e w' => e = .returned (.func (.func 270) #[] #[.pointer (some ⟨w.heap.size, 0, none⟩)]) /\ w' = w.alloc (.cells #[.slice a len cap] 252) := by
 refine callsIn_of_wp Tryz.func205 rfl hfn ?_ hro
 simp only [Tryz.ntmps205, List.size_toArray, List.length_cons, List.length_nil, Nat.reduceAdd, Nat.reduceSub, Array.replicate_succ, Array.replicate_zero, List.push_toArray, List.append_toArray, List.nil_append, List.cons_append]
 gi_wp2
 go_ret
 exact ⟨rfl, rfl⟩
theorem back_stops (F : Fence) (n : Nat) (hfn : F.fn 270) (hro : F.round = none) (hn : 1 <= n) (Bs n₀ b off cap : Nat) (zs : List Sa) (hz : zs.length <= 1000000) (hb : b < n₀) (hB : Bs < n₀) (w : World) (hn₀ : n₀ <= w.heap.size)
  (hBs : w.cell? ⟨Bs, 0, none⟩ = some (.slice (some ⟨b, off, none⟩) zs.length cap)) (hc : ∀ j x, zs[j]? = some x -> w.rangeAt b (off + j * 3) (saEnc x)) :
  SeqStopsK F n Tryz.prog 270 #[.pointer (some ⟨Bs, 0, none⟩)] (fun x : Nat × Sa => #[Value.int .i64 (x.1 : Int), .agg #[.int .i64 x.2.st, .string x.2.sta, .int .i64 x.2.since]]) (Below n₀) (fun ys => ys = backs zs zs.length)
   (fun pre => ∃ k, k <= zs.length /\ pre = backs zs k) zs.length w := fun l J Jx W hW _ _ hY h0 =>
 back1_in F n hfn hro hn l Bs n₀ b off cap zs hz hb hB J Jx hY W ((hW.cell (p := ⟨Bs, 0, none⟩) (Nat.lt_of_lt_of_le hB hn₀)).trans hBs)
  (fun j x hx k v hv => (hW.cell (p := ⟨b, off + j * 3 + k, none⟩) (Nat.lt_of_lt_of_le hb hn₀)).trans (hc j x hx k v hv)) h0
theorem backs_snd (zs : List Sa) : ∀ k, k <= zs.length -> (backs zs k).map (·.2) = zs.reverse.take k
 | 0, _ => by simp [backs]
 | k + 1, h => by
  have hk : k < zs.reverse.length := by rw [List.length_reverse]; exact h
  rw [backs_succ, List.map_append, backs_snd zs k (by omega), List.take_succ_eq_append_getElem hk]
  simp only [List.map_cons, List.map_nil, List.getElem_reverse]
  rw [List.getElem?_eq_getElem (by omega)]; rfl
theorem stateR_stop {l : List Ev} {v : ByteArray} {mt : Int} {k : Nat} {ini : List (Nat × Sa)} {z : Nat × Sa} (hk : k <= (stages l v).length) (he : ini ++ [z] = backs (stages l v) k) (hi : ∀ p ∈ ini, mt < p.2.since) (hz : z.2.since <= mt) : stateR l v mt = z.2 := by
 have h1 := backs_snd _ k hk
 rw [<- he, List.map_append] at h1
 unfold stateR
 rw [<- List.take_append_drop k (stages l v).reverse, <- h1, List.append_assoc, List.find?_append, List.find?_eq_none.2 (fun x hx => by
  obtain ⟨p, hp, rfl⟩ := List.mem_map.1 hx
  have := hi p hp
  simp; omega)]
 simp [hz]
theorem stateR_done {l : List Ev} {v : ByteArray} {mt : Int} (hi : ∀ p ∈ backs (stages l v) (stages l v).length, mt < p.2.since) : stateR l v mt = sa0 := by
 have h1 := backs_snd (stages l v) _ (Nat.le_refl _)
 rw [List.take_of_length_le (by simp)] at h1
 unfold stateR
 rw [<- h1, List.find?_eq_none.2 (fun x hx => by
  obtain ⟨p, hp, rfl⟩ := List.mem_map.1 hx
  have := hi p hp
  simp; omega)]; rfl
theorem blk_own {β : Type} (B : Nat) (t : TypeId) (f : β -> List Value) : Go.Own (fun s W => Blk W B t (f s)) := fun s X Y row hs hg hr => Blk.grown hs hg (fun e => by
 obtain ⟨o, ho, hc⟩ := hr B e.symm
 have h2 : X.heap[B]? = some (.cells (f s).toArray t (0, 0)) := hs
 rw [h2] at ho
 cases ho; cases hc)
theorem grown_of_below {w w' : World} (h : Below w.heap.size w w') : w.grownBy w' none := ⟨h.os, h.tape, h.output, h.size, fun k hk _ => h.block k hk⟩
set_option maxRecDepth 100000 in
set_option maxHeartbeats 8000000 in
theorem rStateAt_any (l : List Ev) (A : Option Addr) (n c0 : Nat) (v : ByteArray) (mt : Int) (w : World) (hl : SlT evEnc 5 45 w A n l) (hn : n <= 100000) :
  Calls Tryz.prog 102 #[.slice A n c0, .string v, .int .i64 mt] w (fun e w' => e = .returned (.agg #[.int .i64 (stateR l v mt).st, .string (stateR l v mt).sta, .int .i64 (stateR l v mt).since]) /\ w.grownBy w' none) := by
 refine (callsIn_wide (n := 9)).1 ?_
 refine callsIn_of_wp_marks Tryz.func102 rfl trivial ?_ rfl
 simp only [Tryz.ntmps102, List.size_toArray, List.length_cons, List.length_nil, Nat.reduceAdd, Nat.reduceSub, Array.replicate_succ, Array.replicate_zero, List.push_toArray, List.append_toArray, List.nil_append, List.cons_append]
 gi_wp2_with (refine ⟨trivial, ?_⟩; gi_at_call 204; refine (callsIn_wide.2 (stages_any l A n c0 v _ ((hl.alloc _).alloc _) hn)).mono ?_; rintro e w3 ⟨A1, n1, c1, A2, n2, c2, rfl, ho1, hz1, ho2, hz2, hn1, hn2, hg⟩)
 obtain ⟨b, off, rfl, hbl, hrows⟩ := (SlT.ofOwn sa_len ho1 hz1).get (by rw [<- hz1]; simp [stages])
 subst hz1
 have hls : (stages l v).length <= 1000000 := by omega
 clear ho2 hz2 hn1 hn2 ho1
 have hsz3 : w.heap.size + 2 <= w3.heap.size := by
  have := hg.size
  simp at this
  omega
 have bM : Blk w3 w.heap.size 3 [.int .i64 mt] := Blk.grown (Blk.grown (Blk.at_ w rfl 3 [.int .i64 mt]) (grow_alloc (World.grownBy.refl _ none) _) (by simp)) hg (by simp)
 have bR : Blk w3 (w.heap.size + 1) 168 [.int .i64 0, .string ⟨#[]⟩, .int .i64 0] := Blk.grown (Blk.at_ (w.alloc (.cells #[.int .i64 mt] 3)) (by simp) 168 [.int .i64 0, .string ⟨#[]⟩, .int .i64 0]) hg (by simp)
 have hB3 : Below w.heap.size w w3 := by
  have h2 : Below w.heap.size w ((w.alloc (.cells #[.int .i64 mt] 3)).alloc (.cells #[.int .i64 0, .string ⟨#[]⟩, .int .i64 0] 168)) := ((Below.refl _ w).alloc (Nat.le_refl _) _).alloc (by simp) _
  exact h2.trans ⟨hg.os, hg.tape, hg.output, hg.size, fun k hk => hg.block k (by simp; omega) (by simp)⟩
 gi_wp2_with (refine ⟨trivial, ?_⟩; gi_at_call 205; refine (backward_in Fence.wide _ trivial rfl _ _ _ _).mono ?_; rintro e w4 ⟨rfl, rfl⟩)
 have bN : Blk (w3.alloc (.cells #[.slice (some ⟨b, off, none⟩) (stages l v).length c1] 252)) w3.heap.size 252 [.slice (some ⟨b, off, none⟩) (stages l v).length c1] := Blk.at_ w3 rfl 252 _
 replace bM := Blk.grown bM (grow_alloc (World.grownBy.refl _ none) (.cells #[.slice (some ⟨b, off, none⟩) (stages l v).length c1] 252)) (by simp)
 replace bR := Blk.grown bR (grow_alloc (World.grownBy.refl _ none) (.cells #[.slice (some ⟨b, off, none⟩) (stages l v).length c1] 252)) (by simp)
 replace hB3 := hB3.alloc (by omega) (.cells #[.slice (some ⟨b, off, none⟩) (stages l v).length c1] 252)
 have hrows2 : ∀ j x, (stages l v)[j]? = some x -> (w3.alloc (.cells #[.slice (some ⟨b, off, none⟩) (stages l v).length c1] 252)).rangeAt b (off + j * 3) (saEnc x) := fun j x hx k u hu => (World.cell?_of_block (Below.heap_alloc w3 _ _ hbl)).trans (hrows j x hx k u hu)
 have hsz : (w3.alloc (.cells #[.slice (some ⟨b, off, none⟩) (stages l v).length c1] 252)).heap.size = w3.heap.size + 1 := by simp
 obtain ⟨W0, hW0⟩ : ∃ W0, w3.alloc (.cells #[.slice (some ⟨b, off, none⟩) (stages l v).length c1] 252) = W0 := ⟨_, rfl⟩
 rw [hW0] at bN bM bR hB3 hrows2 hsz ⊢
 clear hW0
 refine wpIn_rangeFunc_ownH rfl (by decide) (gf := 270) (lb := #[.pointer (some ⟨w3.heap.size, 0, none⟩)]) rfl trivial (enters_of Tryz.func270 (by kernel_rfl) rfl)
  (back_stops Fence.wide 8 trivial rfl (by decide) w3.heap.size W0.heap.size b off c1 (stages l v) hls (by omega) (by omega) W0 (Nat.le_refl _) (bN.cell_of rfl) hrows2) belowK_t (belowK_b (Nat.le_refl _)) (Below.refl _ _) (fun _ => rfl)
  (fun pre W => ((∀ p ∈ pre, mt < p.2.since) /\ Blk W w.heap.size 3 [.int .i64 mt] /\ Blk W (w.heap.size + 1) 168 [.int .i64 0, .string ⟨#[]⟩, .int .i64 0] /\ W0.heap.size <= W.heap.size) /\ Below w.heap.size w W)
  (fun c pre W => (c = .ret /\ ∃ ini z, pre = ini ++ [z] /\ (∀ p ∈ ini, mt < p.2.since) /\ z.2.since <= mt /\ Blk W (w.heap.size + 1) 168 [.int .i64 z.2.st, .string z.2.sta, .int .i64 z.2.since]) /\ Below w.heap.size w W)
  (OwnFrom.and (OwnFrom.and (ownFrom_pure _ _) (OwnFrom.and (Go.Own.from (blk_own _ _ (fun _ => [.int .i64 mt])) _) (OwnFrom.and (Go.Own.from (blk_own _ _ (fun _ => [.int .i64 0, .string ⟨#[]⟩, .int .i64 0])) _) (Go.Own.from (fun s X Y row hs hg hr => Nat.le_trans hs hg.size) _)))) (ownFrom_below (Nat.le_refl _) (by omega)))
  (fun c => OwnFrom.and (Go.Own.from (fun s X Y row hs hg hr => by
   obtain ⟨hc, ini, z, e1, e2, e3, e4⟩ := hs
   exact ⟨hc, ini, z, e1, e2, e3, blk_own (w.heap.size + 1) 168 (fun (_ : Unit) => [.int .i64 z.2.st, .string z.2.sta, .int .i64 z.2.since]) () X Y row e4 hg hr⟩) _) (ownFrom_below (Nat.le_refl _) (by omega)))
  ⟨⟨by simp, bM, bR, Nat.le_refl _⟩, hB3⟩
  (fun x a' W => ∃ Bx, w.heap.size + 1 < Bx /\ Blk W Bx 168 [.int .i64 x.2.st, .string x.2.sta, .int .i64 x.2.since] /\ a' = { tmps := #[.slice A n c0, .string v, .int .i64 mt, undef, undef, .pointer (some ⟨w.heap.size, 0, none⟩), .pointer (some ⟨w.heap.size + 1, 0, none⟩), .slice (some ⟨b, off, none⟩) (stages l v).length c1, .slice A2 n2 c2, undef, .pointer (some ⟨Bx, 0, none⟩), .tuple #[.slice (some ⟨b, off, none⟩) (stages l v).length c1, .slice A2 n2 c2], .slice A n c0, .string v, .tuple #[.slice (some ⟨b, off, none⟩) (stages l v).length c1, .slice A2 n2 c2], .slice (some ⟨b, off, none⟩) (stages l v).length c1, .slice A2 n2 c2, .slice (some ⟨b, off, none⟩) (stages l v).length c1, .func (.func 270) #[] #[.pointer (some ⟨w3.heap.size, 0, none⟩)], .int .i64 (x.1 : Int), .agg #[.int .i64 x.2.st, .string x.2.sta, .int .i64 x.2.since], undef, undef, undef, undef, undef, undef], defers := [] })
  (fun x a' _ X Y row hs hg hr => by
   obtain ⟨Bx, h1, h2, h3⟩ := hs
   exact ⟨Bx, h1, blk_own Bx 168 (fun (_ : Unit) => [.int .i64 x.2.st, .string x.2.sta, .int .i64 x.2.since]) () X Y row h2 hg (fun r e => (hr r e).2), h3⟩)
  ?assign ?body ?done ?stop
 case assign =>
  rintro l2 pre x W K ⟨⟨hi, bm, br, hW⟩, hB⟩ hK
  gi_wp2
  exact hK _ _ ((KeepsOthers.alloc _ _).from _) ((Below.refl _ W).alloc (by omega) _) ⟨⟨hi, Blk.grown bm (grow_alloc (World.grownBy.refl _ none) _) (by simp), Blk.grown br (grow_alloc (World.grownBy.refl _ none) _) (by simp), by simp; omega⟩, hB.alloc (by omega) _⟩ ⟨W.heap.size, by omega, Blk.at_ W rfl _ _, rfl⟩
 case body =>
  rintro l2 pre x a' W hl2 ⟨r, hr⟩ ⟨⟨hi, bm, br, hW⟩, hB⟩ ⟨Bx, hBx, bx, rfl⟩ hlt
  have m0 := bm.cell_of (i := 0) rfl
  have x0 := bx.cell_of (i := 0) rfl
  have x1 := bx.cell_of (i := 1) rfl
  have x2 := bx.cell_of (i := 2) rfl
  have r0 := br.cell_of (i := 0) rfl
  have r1 := br.cell_of (i := 1) rfl
  have r2 := br.cell_of (i := 2) rfl
  have f0 := br.frozen 0
  have f1 := br.frozen 1
  have f2 := br.frozen 2
  by_cases hle : x.2.since <= mt
  ·gi_wp2
   exact ⟨((KeepsOthers.setCell _ _ _).trans ((KeepsOthers.setCell _ _ _).trans (KeepsOthers.setCell _ _ _))).from _, ⟨rfl, pre, x, rfl, hi, hle, ((br.set_ 0 _).set_ 1 _).set_ 2 _⟩, ((hB.setCell (p := ⟨w.heap.size + 1, 0, none⟩) (Nat.le_succ _) _).setCell (p := ⟨w.heap.size + 1, 1, none⟩) (Nat.le_succ _) _).setCell (p := ⟨w.heap.size + 1, 2, none⟩) (Nat.le_succ _) _⟩
  ·gi_wp2
   refine ⟨KeepsFrom.refl _ _, Below.refl _ _, ⟨?_, bm, br, by omega⟩, hB⟩
   intro a b' hab
   rcases List.mem_append.1 hab with h | h
   ·exact hi _ h
   ·have h2 := List.mem_singleton.1 h
    subst h2
    exact hle
 case done =>
  rintro D ys W hD rfl ⟨⟨hi, bm, br, hW⟩, hB⟩ hK
  have hs0 := stateR_done hi
  have r0 := br.cell_of (i := 0) rfl
  have r1 := br.cell_of (i := 1) rfl
  have r2 := br.cell_of (i := 2) rfl
  have f0 := br.frozen 0
  have f1 := br.frozen 1
  have f2 := br.frozen 2
  gi_wp2
  have hK2 := ((KeepsOthers.setCell (W) ⟨w.heap.size + 1, 0, none⟩ (.int .i64 0)).trans ((KeepsOthers.setCell _ ⟨w.heap.size + 1, 1, none⟩ (.string ⟨#[]⟩)).trans (KeepsOthers.setCell _ ⟨w.heap.size + 1, 2, none⟩ (.int .i64 0)))).same D _ hK rfl
  have hB2 := ((hB.setCell (p := ⟨w.heap.size + 1, 0, none⟩) (Nat.le_succ _) (.int .i64 0)).setCell (p := ⟨w.heap.size + 1, 1, none⟩) (Nat.le_succ _) (.string ⟨#[]⟩)).setCell (p := ⟨w.heap.size + 1, 2, none⟩) (Nat.le_succ _) (.int .i64 0)
  have br2 := ((br.set_ 0 (.int .i64 0)).set_ 1 (.string ⟨#[]⟩)).set_ 2 (.int .i64 0)
  refine ⟨by simp, .inl ⟨_, _, rfl, run_takeDeferred hK2, ?_⟩⟩
  obtain ⟨dd, hu, hd, hi2⟩ := run_row (P := Tryz.prog) rz168
  have hb4 := Blk.grown br2 (grownBy_putObj' _ D (.deferred none)) (fun e => by have := Option.some.inj e; omega)
  refine ⟨_, results_cell_row rfl _ _ (w.heap.size + 1) 168 _ (0, 0) dd rfl hb4 hu (by cases dd <;> simp_all [TypeDesc.isRow]) hi2, by rw [hs0]; rfl, grown_of_below (hB2.trans (belowK_b (w := w) (Nat.le_refl _) _ D _ _ (by have := hB3.size; omega) hK2 rfl rfl))⟩
 case stop =>
  rintro D c pre W hD ⟨k, hk, he⟩ ⟨⟨rfl, ini, z, e1, e2, e3, e4⟩, hB⟩ hK
  have r0 := e4.cell_of (i := 0) rfl
  have r1 := e4.cell_of (i := 1) rfl
  have r2 := e4.cell_of (i := 2) rfl
  have hs0 := stateR_stop hk (e1.symm.trans he) e2 e3
  gi_wp2
  refine ⟨by simp, .inl ⟨_, _, rfl, run_takeDeferred hK, ?_⟩⟩
  obtain ⟨dd, hu, hd, hi2⟩ := run_row (P := Tryz.prog) rz168
  have hb4 := Blk.grown e4 (grownBy_putObj' _ D (.deferred none)) (fun e => by have := Option.some.inj e; omega)
  refine ⟨_, results_cell_row rfl _ _ (w.heap.size + 1) 168 _ (0, 0) dd rfl hb4 hu (by cases dd <;> simp_all [TypeDesc.isRow]) hi2, by rw [hs0], grown_of_below (hB.trans (belowK_b (w := w) (Nat.le_refl _) _ D _ _ (by have := hB3.size; omega) hK rfl rfl))⟩
end Go.Proofs.YtempjmpfdniecaaGreatDoor
namespace Go.Proofs.YtempjmpfdniecaaGreatDoor
open Go.RowKit
theorem ev_one (x : Ev) : ∀ v ∈ evEnc x, v.oneCell' = true := by
 intro v hv
 simp only [evEnc, List.mem_cons, List.not_mem_nil, or_false] at hv
 rcases hv with rfl | rfl | rfl | rfl | rfl <;> rfl
theorem event_info : ∃ i z, Tryz.prog.info? 45 = some i /\ i.zero = some z /\ i.size = 5 /\ i.bytes = 64 /\ z.cells.size = 5 := info_parts (by kernel_rfl)
set_option maxRecDepth 100000 in
set_option maxHeartbeats 1000000 in
theorem cloneEvents_pos (l : List Ev) (A : Option Addr) (n c : Nat) (w : World) (hl : SlT evEnc 5 45 w A n l) (hn0 : 0 < n) (hn : n <= 1000000) :
  Calls Tryz.prog 105 #[.slice A n c] w (fun e w' => ∃ A' c', e = .returned (.slice A' n c') /\ w'.ownsRow w.heap.size 45 5 (.slice A' n c') n (l.flatMap evEnc) /\ w.grownBy w' none) := by
 obtain ⟨b, off, rfl, hbl, hfl⟩ := hl.flat ev_len hn0
 have hlen := hl.len
 obtain ⟨i0, z0, hi, hz, hsz, hby, hzs⟩ := event_info
 have hnews : ∀ (o : Obj) j u, (l.flatMap evEnc)[j]? = some u -> (w.alloc o).cell? ((⟨b, off, none⟩ : Addr).add j) = some u := fun o j u hj =>
  (World.cell?_of_block (Below.heap_alloc w o _ (by unfold Addr.add; split <;> exact hbl))).trans (hfl j u hj)
 have hone := flat_one evEnc ev_one l
 have hll := flat_len evEnc 5 ev_len l
 rw [hlen] at hll
 clear hfl hl
 have Hnews := Lib.hid hnews
 clear hnews
 have he : ∀ w : World, (binOp .eql 39 (.slice (some ⟨b, off, none⟩) n c) (.slice none 0 0)).run Tryz.prog w = .ok (.bool false) w := fun _ => rfl
 go_enter Tryz.func105, Tryz.ntmps105
 go_wp2_with (at_builtin; refine wpList_append_own_at _ rfl _ _ 39 rfl w.heap.size 45 i0 z0 5 64 Tryz.underlying39 hi hz hsz hby hzs (by decide) (.slice (some ⟨w.heap.size, 0, none⟩) 0 0) 0 [] rfl ⟨rfl, .inr ⟨w.heap.size, 0, #[], rfl, Nat.le_refl _, heap_alloc_new w _, Nat.le_refl _, by decide, rfl, rfl⟩⟩ ⟨b, off, none⟩ n c (l.flatMap evEnc) rfl hll (Hnews.out _) hone (by unfold maxLen; omega) (by omega) (by simp) ?_; intro v' w' hown hgrow hnil hat)
 rw [Nat.zero_add, List.nil_append] at hown
 have hown2 := hown
 obtain ⟨_, ho⟩ := hown2
 rcases ho with ⟨_, h0⟩ | ⟨g, cap, cur, rfl, hg, _⟩
 ·omega
 ·go_ret
  exact ⟨some ⟨g, 0, none⟩, cap, rfl, hown, grow_own (grow_alloc (World.grownBy.refl _ _) _) hgrow (fun k h => by cases h; exact Nat.le_refl _)⟩
set_option maxRecDepth 100000 in
set_option maxHeartbeats 1000000 in
theorem cloneEvents_empty (b off c : Nat) (w : World) :
  Calls Tryz.prog 105 #[.slice (some ⟨b, off, none⟩) 0 c] w (fun e w' => ∃ A' c', e = .returned (.slice A' 0 c') /\ w'.ownsRow w.heap.size 45 5 (.slice A' 0 c') 0 [] /\ w.grownBy w' none) := by
 obtain ⟨i0, z0, hi, hz, hsz, hby, hzs⟩ := event_info
 have he : ∀ w : World, (binOp .eql 39 (.slice (some ⟨b, off, none⟩) 0 c) (.slice none 0 0)).run Tryz.prog w = .ok (.bool false) w := fun _ => rfl
 go_enter Tryz.func105, Tryz.ntmps105
 go_wp2_with (at_builtin; refine wpList_append_own_at _ rfl _ _ 39 rfl w.heap.size 45 i0 z0 5 64 Tryz.underlying39 hi hz hsz hby hzs (by decide) (.slice (some ⟨w.heap.size, 0, none⟩) 0 0) 0 [] rfl ⟨rfl, .inr ⟨w.heap.size, 0, #[], rfl, Nat.le_refl _, heap_alloc_new w _, Nat.le_refl _, by decide, rfl, rfl⟩⟩ ⟨b, off, none⟩ 0 c [] rfl rfl (fun j u hj => by simp at hj) (fun v hv => by cases hv) (by unfold maxLen; omega) (by omega) (by simp) ?_; intro v' w' hown hgrow hnil hat)
 rw [Nat.zero_add, List.nil_append] at hown
 have hown2 := hown
 obtain ⟨_, ho⟩ := hown2
 rcases ho with ⟨rfl, _⟩ | ⟨g, cap, cur, rfl, hg, _⟩
 ·go_ret
  exact ⟨none, 0, rfl, hown, grow_own (grow_alloc (World.grownBy.refl _ _) _) hgrow (fun k h => by cases h; exact Nat.le_refl _)⟩
 ·go_ret
  exact ⟨some ⟨g, 0, none⟩, cap, rfl, hown, grow_own (grow_alloc (World.grownBy.refl _ _) _) hgrow (fun k h => by cases h; exact Nat.le_refl _)⟩
set_option maxRecDepth 100000 in
set_option maxHeartbeats 400000 in
theorem cloneEvents_nil (w : World) : Calls Tryz.prog 105 #[.slice none 0 0] w (fun e w' => e = .returned (.slice none 0 0) /\ w = w') := by
 have he : ∀ w : World, (binOp .eql 39 (.slice none 0 0) (.slice none 0 0)).run Tryz.prog w = .ok (.bool true) w := fun _ => rfl
 go_enter Tryz.func105, Tryz.ntmps105
 go_wp2_with fail
 go_ret
 exact ⟨rfl, rfl⟩
theorem cloneEvents_any (l : List Ev) (A : Option Addr) (n c : Nat) (w : World) (hl : SlT evEnc 5 45 w A n l) (hnil : n = 0 -> A = none /\ c = 0) (hn : n <= 1000000) :
  Calls Tryz.prog 105 #[.slice A n c] w (fun e w' => ∃ A' c', e = .returned (.slice A' n c') /\ w'.ownsRow w.heap.size 45 5 (.slice A' n c') n (l.flatMap evEnc) /\ w.grownBy w' none) := by
 by_cases h0 : n = 0
 ·obtain ⟨rfl, rfl⟩ := hnil h0
  subst h0
  have hl0 : l = [] := List.length_eq_zero_iff.1 hl.len
  subst hl0
  exact (cloneEvents_nil w).mono fun e w' ⟨he, hw⟩ => ⟨none, 0, he, ⟨rfl, .inl ⟨rfl, rfl⟩⟩, hw ▸ World.grownBy.refl _ _⟩
 ·exact cloneEvents_pos l A n c w hl (by omega) hn
end Go.Proofs.YtempjmpfdniecaaGreatDoor
namespace Go.Proofs.YtempjmpfdniecaaGreatDoor
open Go.RowKit
theorem gvehicleKey_any (w : World) (B sb m : Nat) (hS : Strm 25 w B sb m) (hm : m <= 100000000000) :
  Calls Tryz.prog 103 #[.pointer (some ⟨sb, 0, none⟩)] w (fun e w' => ∃ v : ByteArray, e = .returned (.string v) /\ v.size <= 100 /\ Strm 25 w' B sb (m + 1) /\ w.grownBy w' (some sb)) := by
 refine gw_enter ⟨6, w, (some sb), []⟩ Tryz.func103 rfl Tryz.ntmps103 rfl (memS (X := []) hS allF_nil allL_nil) ?_
 refine sr_ (sg_ rfl (nn_ (sr_ (mv_ rfl ?_))))
 refine wl_buildSlice (e := 9) (cs := [.string ⟨#[118, 49]⟩, .string ⟨#[118, 49]⟩, .string ⟨#[118, 50]⟩, .string ⟨#[118, 50]⟩, .string ⟨#[118, 51]⟩, .string ⟨#[118, 52]⟩, .string ⟨#[110, 111, 110, 101]⟩, .string ⟨#[]⟩, .string ⟨#[65]⟩]) rfl (by kernel_rfl) rfl fun g1 => ?_
 refine wl_got (γ := ByteArray) (val := fun v => .string v) (φ := fun v => v ∈ ([⟨#[118, 49]⟩, ⟨#[118, 49]⟩, ⟨#[118, 50]⟩, ⟨#[118, 50]⟩, ⟨#[118, 51]⟩, ⟨#[118, 52]⟩, ⟨#[110, 111, 110, 101]⟩, ⟨#[]⟩, ⟨#[65]⟩] : List ByteArray)) rfl cb49 rfl rfl rfl rfl (fun wx hm => (some_any [⟨#[118, 49]⟩, ⟨#[118, 49]⟩, ⟨#[118, 50]⟩, ⟨#[118, 50]⟩, ⟨#[118, 51]⟩, ⟨#[118, 52]⟩, ⟨#[110, 111, 110, 101]⟩, ⟨#[]⟩, ⟨#[65]⟩] _ _ _ wx B sb _ hm.k (by omega) (by simp) (by simp) (hm.blkI 0 rfl) (hm.neRow 0 rfl rfl))) fun s2 hs2 => ?_
 have zs2 : s2.size <= 100 := mem_sz hs2 (by decide)
 refine sg_ rfl (nn_ ?_)
 refine gw_ret ?_
 refine nx_ret1 rfl rfl fun wx hm => ?_
 exact ⟨s2, rfl, by omega, hm.k, hm.g⟩
end Go.Proofs.YtempjmpfdniecaaGreatDoor
namespace Go.Proofs.YtempjmpfdniecaaGreatDoor
open Go.RowKit
theorem cloneEvents_all (l : List Ev) (A : Option Addr) (n c : Nat) (w : World) (hl : SlT evEnc 5 45 w A n l) (hs : ShapeA A n c) (hn : n <= 1000000) :
  Calls Tryz.prog 105 #[.slice A n c] w (fun e w' => ∃ A' c', e = .returned (.slice A' n c') /\ w'.ownsRow w.heap.size 45 5 (.slice A' n c') n (l.flatMap evEnc) /\ w.grownBy w' none) := by
 rcases hs with ⟨rfl, rfl, rfl⟩ | ⟨b, off, rfl⟩
 ·exact cloneEvents_any l none 0 0 w hl (fun _ => ⟨rfl, rfl⟩) hn
 ·rcases Nat.eq_zero_or_pos n with rfl | h0
  ·have hl0 : l = [] := List.length_eq_zero_iff.1 hl.len
   subst hl0
   exact cloneEvents_empty b off c w
  ·exact cloneEvents_pos l _ n c w hl h0 hn
theorem glog_any (sl : List St) (vl : List Vh) (sA cA vA pA : Option Addr) (sn sc cn cc vn vc pn pc q : Nat) (w : World) (B sb m : Nat) (hS : Strm 25 w B sb m) (hm : m <= 100000000) (hs : SlT stEnc 15 152 w sA sn sl) (hv : SlT vhEnc 2 160 w vA vn vl) (hsok : ∀ x ∈ sl, StOk x) (hvok : ∀ x ∈ vl, VhOk x) (hsn : sn <= 1000) (hvn : vn <= 1000) (hq : q <= 1000) :
  Calls Tryz.prog 25 #[.pointer (some ⟨sb, 0, none⟩), .agg #[.slice sA sn sc, .slice cA cn cc, .slice vA vn vc, .slice pA pn pc], .int .i64 ((q : Nat) : Int)] w (fun e w' => ∃ (A : Option Addr) (n c : Nat) (l : List Ev), e = .returned (.slice A n c) /\ w'.ownsRow w.heap.size 45 5 (.slice A n c) n (l.flatMap evEnc) /\ l.length = n /\ (∀ x ∈ l, EvOk x) /\ n <= q /\ Strm 25 w' B sb (m + 20 * q + 20) /\ w.grownBy w' (some sb)) := by
 obtain ⟨_, _, _, _, hh, _⟩ := hS.pos
 have hso := hs.oldRow hh (by decide)
 have hvo := hv.oldRow hh (by decide)
 refine gw_enter ⟨137, w, (some sb), []⟩ Tryz.func25 rfl Tryz.ntmps25 rfl (memS (X := [SlOld stEnc 15 152 w.heap.size (some sb) sA sn sl, SlOld vhEnc 2 160 w.heap.size (some sb) vA vn vl]) hS (allF_cons hso (allF_cons hvo allF_nil)) (allL_cons SlOld.lasts (allL_cons SlOld.lasts allL_nil))) ?_
 refine sr_ ?_
 have hvl := hv.len
 have hsl := hs.len
 refine wl_nilOwn 45 5 ?_
 refine wl_box rfl rfl rfl fun g1 => ?_
 refine sg_ rfl (nn_ (sr_ (sg_ rfl (nn_ (gw_seq (sr_ (fd_ fo62_2 rfl rfl (lk_ sc59 0 rfl rfl rfl (wl_ov (ov_len es59 rfl) rfl ?_)))))))))
 refine wl_ov (ov_eql rfl rfl) rfl (mv_ rfl ?_)
 rcases Bool.eq_false_or_eq_true (decide (((vn : Nat) : Int) = 0)) with h0 | h0
 ·refine wl_set 16 rfl (congrArg Value.bool h0) ?_
  refine goff rfl rfl rfl (goff rfl rfl rfl (goff rfl rfl rfl (goff rfl rfl rfl (pt_ rfl rfl (nn_ (ct_ rfl (sr_ (mv_ rfl (sg_ rfl (nn_ ?_))))))))))
  refine gw_ret ?_
  refine nx_then_ret ?_
  refine nx_ret1 rfl rfl fun wx hm => ?_
  exact ⟨none, 0, 0, [], rfl, (hm.ownI 0 rfl), rfl, (fun _ h => by cases h), by omega, hm.k.more (by omega), hm.g⟩
 refine wl_set 16 rfl (congrArg Value.bool h0) ?_
 have h0 := of_decide_eq_false h0
 refine wl_guard_on rfl rfl rfl (fd_ fo62_0 rfl rfl (wl_guard_on rfl rfl rfl (lk_ sc57 0 rfl rfl rfl (wl_guard_on rfl rfl rfl (wl_ov (ov_len es57 rfl) rfl (wl_guard_on rfl rfl rfl (wl_ov (ov_eql rfl rfl) rfl (pf_ rfl rfl (nn_ ?_)))))))))
 refine gw_cond rfl (fun hh => ?_) (fun hh => ?_)
 ·have h1 : ((sn : Nat) : Int) = 0 := by simpa using hh
  clear hh
  refine sr_ (mv_ rfl (sg_ rfl (nn_ ?_)))
  refine gw_ret ?_
  refine nx_then_ret ?_
  refine nx_ret1 rfl rfl fun wx hm => ?_
  exact ⟨none, 0, 0, [], rfl, (hm.ownI 0 rfl), rfl, (fun _ h => by cases h), by omega, hm.k.more (by omega), hm.g⟩
 have h1 : ¬ (((sn : Nat) : Int) = 0) := by simpa using hh
 clear hh
 refine gw_skip (nx_then (sr_ ?_))
 have hvn0 : 0 < vn := by omega
 have hsn0 : 0 < sn := by omega
 obtain ⟨bv, ov, hA, _, _⟩ := hv.get (by omega)
 subst hA
 obtain ⟨bs, os, hA, _, _⟩ := hs.get (by omega)
 subst hA
 refine sg_ rfl (nn_ (gw_seq (sr_ (mv_ rfl (mv_ rfl (nn_ (gw_block ?_)))))))
 refine gw_loop (γ := Nat × Nat × Int × Option Addr × Nat × List Ev) (fun g => g.1 <= q /\ g.2.1 <= g.1 /\ (0 <= g.2.2.1 /\ g.2.2.1 <= 500 * ((g.1 : Nat) : Int)) /\ g.2.2.2.2.2.length = g.2.1 /\ (∀ x ∈ g.2.2.2.2.2, EvOk x)) (fun g => [(0, .pointer (some ⟨sb, 0, none⟩)), (4, .pointer (some ⟨g1, 0, none⟩)), (6, .slice none 0 0), (7, .slice g.2.2.2.1 g.2.1 g.2.2.2.2.1), (8, .int .i64 g.2.2.1), (23, .int .i64 ((q : Nat) : Int)), (24, .int .i64 ((g.1 : Nat) : Int))]) (fun g => fun w => Strm 25 w B sb (m + 20 * g.1)) (fun g => [(g1, 62, [.slice (some ⟨bs, os, none⟩) sn sc, .slice cA cn cc, .slice (some ⟨bv, ov, none⟩) vn vc, .slice pA pn pc])]) (fun g => [⟨.slice g.2.2.2.1 g.2.1 g.2.2.2.2.1, 45, 5, g.2.1, g.2.2.2.2.2.flatMap evEnc⟩]) (fun g => [SlOld stEnc 15 152 w.heap.size (some sb) (some ⟨bs, os, none⟩) sn sl, SlOld vhEnc 2 160 w.heap.size (some sb) (some ⟨bv, ov, none⟩) vn vl]) (fun g => q - g.1) (0, 0, 0, none, 0, []) ⟨Nat.zero_le _, Nat.le_refl _, ⟨Int.le_refl _, by decide⟩, rfl, (fun _ h => by cases h)⟩ ⟨rfl, rfl, rfl, rfl, rfl, rfl, rfl, trivial⟩ (fun _ hm => (hm.more rfl (by first | omega | (dsimp only; omega))).pick [0] [0] [0, 1] rfl rfl) ?_
 rintro ⟨i, k, at_, oA, oc, xl⟩ hinv
 replace hinv : i <= q /\ k <= i /\ (0 <= at_ /\ at_ <= 500 * ((i : Nat) : Int)) /\ xl.length = k /\ (∀ x ∈ xl, EvOk x) := hinv
 dsimp only
 refine sr_ ?_
 obtain ⟨hi0, hki, ⟨ha0, ha1⟩, hxl, hxok⟩ := hinv
 refine wl_ov (ov_lss rfl rfl) rfl (nn_ (gw_seq ?_))
 refine gw_cond rfl (fun hh => ?_) (fun hh => ?_)
 ·have hi : ((i : Nat) : Int) < ((q : Nat) : Int) := by simpa using hh
  clear hh
  refine gw_skip (nx_then (gw_seq (gw_block (sr_ (mv_ rfl (mv_ rfl ?_))))))
  refine wl_buildSlice (e := 3) (cs := [.int .i64 0, .int .i64 1, .int .i64 10, .int .i64 50, .int .i64 100, .int .i64 500]) rfl (by kernel_rfl) rfl fun g2 => ?_
  refine wl_got (γ := Int) (val := fun v => .int .i64 v) (φ := fun v => v ∈ ([0, 1, 10, 50, 100, 500] : List Int)) rfl cb11 rfl rfl rfl rfl (fun wx hm => (pick_any [0, 1, 10, 50, 100, 500] _ _ _ wx B sb _ hm.k (by omega) (by simp) (by simp) (hm.blkI 0 rfl) (hm.neRow 0 rfl rfl))) fun v3 hv3 => ?_
  have bv3 : 0 <= v3 /\ v3 <= 500 := mem_rng hv3 (by decide)
  have bv30 := bv3.1
  have bv31 := bv3.2
  clear bv3
  refine ad_ rfl rfl (sg_ rfl (nn_ (gw_seq ?_)))
  refine gd (fun wz => Blk wz g2 3 [.int .i64 0, .int .i64 1, .int .i64 10, .int .i64 50, .int .i64 100, .int .i64 500] /\ Blk wz g1 62 [.slice (some ⟨bs, os, none⟩) sn sc, .slice cA cn cc, .slice (some ⟨bv, ov, none⟩) vn vc, .slice pA pn pc] /\ (SlOld stEnc 15 152 w.heap.size (some sb) (some ⟨bs, os, none⟩) sn sl) wz /\ (SlOld vhEnc 2 160 w.heap.size (some sb) (some ⟨bv, ov, none⟩) vn vl) wz /\ True) mixed (fun _ hm => ⟨hm.bl 0, hm.bl 1, hm.fa 0, hm.fa 1, trivial⟩) fun z => ?_
  refine wt 0 11 1 rfl z (ov_field fo62_2 rfl rfl) ?_
  refine wt 1 11 3 rfl z (ov_load sc59 rfl (fun _ hm => hm.2.1) rfl) ?_
  refine wt 2 11 7 rfl z (ov_move rfl) ?_
  refine wt 3 11 15 rfl z (ov_field fo62_2 rfl rfl) ?_
  refine wt 4 11 31 rfl z (ov_load sc59 rfl (fun _ hm => hm.2.1) rfl) ?_
  refine wt 5 11 63 rfl z (ov_len es59 rfl) ?_
  refine wa1 6 rfl ?_
  refine wl_got (γ := Int) (val := fun v => .int .i64 v) (φ := fun v => IsBelow ((vn : Nat) : Int) v) rfl cb66 rfl rfl rfl rfl (fun wx hm => (next_any _ wx B sb _ hm.k (by omega) (by omega) (by omega))) fun vj hvj => ?_
  have hj := isBelow_lt hvj (by omega)
  obtain ⟨j, rfl⟩ := Int.eq_ofNat_of_zero_le hj.1
  have hji : j < vn := by omega
  obtain ⟨y, hy⟩ : ∃ y, vl[j]? = some y := ⟨_, List.getElem?_eq_getElem (by omega)⟩
  obtain ⟨y0, y1⟩ := y
  have hyB := hvok _ (List.mem_of_getElem? hy)
  have hy0 : y0.size <= 1000000 := hyB.1
  refine wl_nil ?_
  refine nw 11 127 (fun _ hm => ⟨hm.bl 0, hm.bl 1, hm.fa 0, hm.fa 1, trivial⟩) fun z => ?_
  refine wt 7 11 255 rfl z (ov_index (j := j) es59 rfl rfl (by omega)) ?_
  refine wt 8 11 511 rfl z (ov_field fo160_0 rfl rfl) ?_
  refine wt 9 11 1023 rfl z (ov_elem1 (k := 0) (v := .string y0) sc9 rfl (fun _ hm => (hm.2.2.2.1).1) hy rfl rfl) ?_
  refine wt 10 11 2047 rfl z (ov_assign rfl) ?_
  refine wa_done (by kernel_rfl) ?_
  refine nx_then ?_
  obtain ⟨t8, ht8⟩ : ∃ z, z = at_ + v3 := ⟨_, rfl⟩
  rw [<- ht8]
  have ht0 : 0 <= t8 := by omega
  have ht1 : t8 <= 500 * ((i : Nat) : Int) + 500 := by omega
  refine gw_cut (γ := Nat × ByteArray × Int) (I := (fun g => g.2.1.size <= 1000000 /\ (-4000000000000000000 <= g.2.2 /\ g.2.2 <= 4000000000000000000))) (S' := (fun g => [(0, .pointer (some ⟨sb, 0, none⟩)), (4, .pointer (some ⟨g1, 0, none⟩)), (6, .slice none 0 0), (7, .slice oA k oc), (8, .int .i64 t8), (9, .string y0), (10, .pointer (some ⟨g.1, 0, none⟩)), (23, .int .i64 ((q : Nat) : Int)), (24, .int .i64 ((i : Nat) : Int))])) (K' := (fun g => fun w => Strm 25 w B sb (m + 20 * i + 4))) (L' := (fun g => [(g.1, 45, [.int .i64 t8, .string y0, .string g.2.1, .int .i64 g.2.2, .string ⟨#[]⟩]), (g2, 3, [.int .i64 0, .int .i64 1, .int .i64 10, .int .i64 50, .int .i64 100, .int .i64 500]), (g1, 62, [.slice (some ⟨bs, os, none⟩) sn sc, .slice cA cn cc, .slice (some ⟨bv, ov, none⟩) vn vc, .slice pA pn pc])])) (O' := (fun g => [⟨.slice oA k oc, 45, 5, k, xl.flatMap evEnc⟩])) (X' := (fun g => [SlOld stEnc 15 152 w.heap.size (some sb) (some ⟨bs, os, none⟩) sn sl, SlOld vhEnc 2 160 w.heap.size (some sb) (some ⟨bv, ov, none⟩) vn vl])) ?_ ?_
  ·refine gd (fun wz => Blk wz g2 3 [.int .i64 0, .int .i64 1, .int .i64 10, .int .i64 50, .int .i64 100, .int .i64 500] /\ Blk wz g1 62 [.slice (some ⟨bs, os, none⟩) sn sc, .slice cA cn cc, .slice (some ⟨bv, ov, none⟩) vn vc, .slice pA pn pc] /\ (SlOld stEnc 15 152 w.heap.size (some sb) (some ⟨bs, os, none⟩) sn sl) wz /\ (SlOld vhEnc 2 160 w.heap.size (some sb) (some ⟨bv, ov, none⟩) vn vl) wz /\ True) mixed (fun _ hm => ⟨hm.bl 0, hm.bl 1, hm.fa 0, hm.fa 1, trivial⟩) fun z => ?_
   refine wt 0 17 1 rfl z (ov_move rfl) ?_
   refine wt 1 17 3 rfl z (ov_move rfl) ?_
   refine wt 2 17 7 rfl z (ov_field fo62_0 rfl rfl) ?_
   refine wt 3 17 15 rfl z (ov_load sc57 rfl (fun _ hm => hm.2.1) rfl) ?_
   refine wt 4 17 31 rfl z (ov_move rfl) ?_
   refine wt 5 17 63 rfl z (ov_field fo62_0 rfl rfl) ?_
   refine wt 6 17 127 rfl z (ov_load sc57 rfl (fun _ hm => hm.2.1) rfl) ?_
   refine wt 7 17 255 rfl z (ov_len es57 rfl) ?_
   refine wt 12 17 4351 rfl z (ov_move rfl) ?_
   refine wa_all [8, 15] (by kernel_rfl) rfl ⟨⟨_, rfl, ?_⟩, ⟨_, rfl, ?_⟩, trivial⟩
   ·refine wl_got (γ := Int) (val := fun v => .int .i64 v) (φ := fun v => IsBelow ((sn : Nat) : Int) v) rfl cb66 rfl rfl rfl rfl (fun wx hm => (next_any _ wx B sb _ hm.k (by omega) (by omega) (by omega))) fun vu4 hvu4 => ?_
    have hju4 := isBelow_lt hvu4 (by omega)
    obtain ⟨ju4, rfl⟩ := Int.eq_ofNat_of_zero_le hju4.1
    have hjiu4 : ju4 < sn := by omega
    obtain ⟨zu4, hzu4⟩ : ∃ y, sl[ju4]? = some y := ⟨_, List.getElem?_eq_getElem (by omega)⟩
    obtain ⟨ku4, ru4⟩ := zu4
    have hku4 : ku4.size <= 1000000 := (hsok _ (List.mem_of_getElem? hzu4)).2.1
    refine wl_nil ?_
    refine nw 17 4607 (fun _ hm => ⟨hm.bl 0, hm.bl 1, hm.fa 0, hm.fa 1, trivial⟩) fun z => ?_
    refine wt 9 17 5119 rfl z (ov_index (j := ju4) es57 rfl rfl (by omega)) ?_
    refine wt 10 17 6143 rfl z (ov_field fo152_0 rfl rfl) ?_
    refine wt 11 17 8191 rfl z (ov_elem1 (k := 0) (v := .string ku4) sc9 rfl (fun _ hm => (hm.2.2.1).1) hzu4 rfl rfl) ?_
    refine wa_all [13, 15] (by kernel_rfl) rfl ⟨⟨_, rfl, ?_⟩, ⟨_, rfl, ?_⟩, trivial⟩
    ·refine wl_got (γ := Int) (val := fun v => .int .i64 v) (φ := fun v => 1 <= v /\ (v <= 8 ∨ v = 1)) rfl cb26 rfl rfl rfl rfl (fun wx hm => (range_any _ _ wx B sb _ hm.k (by omega) (by omega) (by omega) (by omega) (by omega))) fun v5 hv5 => ?_
     refine wl_nil ?_
     refine nw 17 16383 (fun _ hm => ⟨hm.bl 0, hm.bl 1, hm.fa 0, hm.fa 1, trivial⟩) fun z => ?_
     refine wt 14 17 32767 rfl z (ov_build (cs := [.int .i64 t8, .string y0, .string ku4, .int .i64 v5, .string ⟨#[]⟩]) rfl (by kernel_rfl)) ?_
     refine wa1 15 rfl ?_
     refine wl_alloc zc45 rfl fun g6 => ?_
     refine wl_nil ?_
     refine nw 17 65535 (fun _ hm => ⟨hm.bl 1, hm.bl 2, hm.fa 0, hm.fa 1, trivial⟩) fun z => ?_
     refine wa1 16 rfl ?_
     refine wl_stores (cs' := [.int .i64 t8, .string y0, .string ku4, .int .i64 v5, .string ⟨#[]⟩]) 0 rz45 rfl rfl rfl rfl rfl rfl rfl rfl ?_
     refine wl_nil ?_
     refine nw 17 131071 (fun _ hm => ⟨hm.bl 1, hm.bl 2, hm.fa 0, hm.fa 1, trivial⟩) fun z => ?_
     refine wa_done (by kernel_rfl) ?_
     exact nx_meet (g6, ku4, v5) ⟨by dsimp only; omega, by dsimp only; omega, by dsimp only; omega⟩ ⟨rfl, rfl, rfl, rfl, rfl, rfl, rfl, rfl, rfl, trivial⟩ (fun _ hm => (hm.more rfl (by first | omega | (dsimp only; omega))).pick [0, 1, 2] [0] [0, 1] rfl rfl)
    refine wl_alloc zc45 rfl fun g7 => ?_
    refine wl_nil ?_
    refine nw 17 40959 (fun _ hm => ⟨hm.bl 1, hm.bl 2, hm.fa 0, hm.fa 1, trivial⟩) fun z => ?_
    refine wa1 13 rfl ?_
    refine wl_got (γ := Int) (val := fun v => .int .i64 v) (φ := fun v => 1 <= v /\ (v <= 8 ∨ v = 1)) rfl cb26 rfl rfl rfl rfl (fun wx hm => (range_any _ _ wx B sb _ hm.k (by omega) (by omega) (by omega) (by omega) (by omega))) fun v8 hv8 => ?_
    refine wl_nil ?_
    refine nw 17 49151 (fun _ hm => ⟨hm.bl 1, hm.bl 2, hm.fa 0, hm.fa 1, trivial⟩) fun z => ?_
    refine wt 14 17 65535 rfl z (ov_build (cs := [.int .i64 t8, .string y0, .string ku4, .int .i64 v8, .string ⟨#[]⟩]) rfl (by kernel_rfl)) ?_
    refine wa1 16 rfl ?_
    refine wl_stores (cs' := [.int .i64 t8, .string y0, .string ku4, .int .i64 v8, .string ⟨#[]⟩]) 0 rz45 rfl rfl rfl rfl rfl rfl rfl rfl ?_
    refine wl_nil ?_
    refine nw 17 131071 (fun _ hm => ⟨hm.bl 1, hm.bl 2, hm.fa 0, hm.fa 1, trivial⟩) fun z => ?_
    refine wa_done (by kernel_rfl) ?_
    exact nx_meet (g7, ku4, v8) ⟨by dsimp only; omega, by dsimp only; omega, by dsimp only; omega⟩ ⟨rfl, rfl, rfl, rfl, rfl, rfl, rfl, rfl, rfl, trivial⟩ (fun _ hm => (hm.more rfl (by first | omega | (dsimp only; omega))).pick [0, 1, 2] [0] [0, 1] rfl rfl)
   refine wl_alloc zc45 rfl fun g9 => ?_
   refine wl_nil ?_
   refine nw 17 37119 (fun _ hm => ⟨hm.bl 1, hm.bl 2, hm.fa 0, hm.fa 1, trivial⟩) fun z => ?_
   refine wa1 8 rfl ?_
   refine wl_got (γ := Int) (val := fun v => .int .i64 v) (φ := fun v => IsBelow ((sn : Nat) : Int) v) rfl cb66 rfl rfl rfl rfl (fun wx hm => (next_any _ wx B sb _ hm.k (by omega) (by omega) (by omega))) fun vu10 hvu10 => ?_
   have hju10 := isBelow_lt hvu10 (by omega)
   obtain ⟨ju10, rfl⟩ := Int.eq_ofNat_of_zero_le hju10.1
   have hjiu10 : ju10 < sn := by omega
   obtain ⟨zu10, hzu10⟩ : ∃ y, sl[ju10]? = some y := ⟨_, List.getElem?_eq_getElem (by omega)⟩
   obtain ⟨ku10, ru10⟩ := zu10
   have hku10 : ku10.size <= 1000000 := (hsok _ (List.mem_of_getElem? hzu10)).2.1
   refine wl_nil ?_
   refine nw 17 37375 (fun _ hm => ⟨hm.bl 1, hm.bl 2, hm.fa 0, hm.fa 1, trivial⟩) fun z => ?_
   refine wt 9 17 37887 rfl z (ov_index (j := ju10) es57 rfl rfl (by omega)) ?_
   refine wt 10 17 38911 rfl z (ov_field fo152_0 rfl rfl) ?_
   refine wt 11 17 40959 rfl z (ov_elem1 (k := 0) (v := .string ku10) sc9 rfl (fun _ hm => (hm.2.2.1).1) hzu10 rfl rfl) ?_
   refine wa1 13 rfl ?_
   refine wl_got (γ := Int) (val := fun v => .int .i64 v) (φ := fun v => 1 <= v /\ (v <= 8 ∨ v = 1)) rfl cb26 rfl rfl rfl rfl (fun wx hm => (range_any _ _ wx B sb _ hm.k (by omega) (by omega) (by omega) (by omega) (by omega))) fun v11 hv11 => ?_
   refine wl_nil ?_
   refine nw 17 49151 (fun _ hm => ⟨hm.bl 1, hm.bl 2, hm.fa 0, hm.fa 1, trivial⟩) fun z => ?_
   refine wt 14 17 65535 rfl z (ov_build (cs := [.int .i64 t8, .string y0, .string ku10, .int .i64 v11, .string ⟨#[]⟩]) rfl (by kernel_rfl)) ?_
   refine wa1 16 rfl ?_
   refine wl_stores (cs' := [.int .i64 t8, .string y0, .string ku10, .int .i64 v11, .string ⟨#[]⟩]) 0 rz45 rfl rfl rfl rfl rfl rfl rfl rfl ?_
   refine wl_nil ?_
   refine nw 17 131071 (fun _ hm => ⟨hm.bl 1, hm.bl 2, hm.fa 0, hm.fa 1, trivial⟩) fun z => ?_
   refine wa_done (by kernel_rfl) ?_
   exact nx_meet (g9, ku10, v11) ⟨by dsimp only; omega, by dsimp only; omega, by dsimp only; omega⟩ ⟨rfl, rfl, rfl, rfl, rfl, rfl, rfl, rfl, rfl, trivial⟩ (fun _ hm => (hm.more rfl (by first | omega | (dsimp only; omega))).pick [0, 1, 2] [0] [0, 1] rfl rfl)
  rintro ⟨g10, st1, kd1⟩ hinv
  replace hinv : st1.size <= 1000000 /\ (-4000000000000000000 <= kd1 /\ kd1 <= 4000000000000000000) := hinv
  dsimp only
  obtain ⟨hst1, hkd1a, hkd1b⟩ := hinv
  refine gw_cut (γ := ByteArray × Int) (I := (fun g => g.1.size <= 1000000 /\ (-4000000000000000000 <= g.2 /\ g.2 <= 4000000000000000000))) (S' := (fun g => [(0, .pointer (some ⟨sb, 0, none⟩)), (4, .pointer (some ⟨g1, 0, none⟩)), (6, .slice none 0 0), (7, .slice oA k oc), (8, .int .i64 t8), (10, .pointer (some ⟨g10, 0, none⟩)), (23, .int .i64 ((q : Nat) : Int)), (24, .int .i64 ((i : Nat) : Int))])) (K' := (fun g => fun w => Strm 25 w B sb (m + 20 * i + 6))) (L' := (fun g => [(g10, 45, [.int .i64 t8, .string y0, .string g.1, .int .i64 g.2, .string ⟨#[]⟩]), (g2, 3, [.int .i64 0, .int .i64 1, .int .i64 10, .int .i64 50, .int .i64 100, .int .i64 500]), (g1, 62, [.slice (some ⟨bs, os, none⟩) sn sc, .slice cA cn cc, .slice (some ⟨bv, ov, none⟩) vn vc, .slice pA pn pc])])) (O' := (fun g => [⟨.slice oA k oc, 45, 5, k, xl.flatMap evEnc⟩])) (X' := (fun g => [SlOld stEnc 15 152 w.heap.size (some sb) (some ⟨bs, os, none⟩) sn sl, SlOld vhEnc 2 160 w.heap.size (some sb) (some ⟨bv, ov, none⟩) vn vl])) ?_ ?_
  ·refine sr_ (mv_ rfl ?_)
   refine wl_got (γ := Bool) (val := fun v => .bool v) (φ := fun v => True) rfl cb64 rfl rfl rfl rfl (fun wx hm => ((flip_any _ wx B sb _ hm.k (by omega) (by omega) (by omega)).mono fun _ _ ⟨v, he, hS, hg⟩ => ⟨v, trivial, he, hS, hg⟩)) fun f12 _ => ?_
   refine wl_ov (ov_un_not rfl) rfl (nn_ ?_)
   refine gw_cond rfl (fun hh => ?_) (fun hh => ?_)
   ·have hc13 : f12 = false := by simpa using hh
    clear hh
    refine sr_ (mv_ rfl (mv_ rfl (mv_ rfl ?_)))
    obtain ⟨SS, hSS⟩ : ∃ z, z = stateR xl y0 t8 := ⟨_, rfl⟩
    have hfine : SaFine SS := by rw [hSS]; exact stateR_fine hxok
    obtain ⟨s0, s1, s2⟩ := SS
    obtain ⟨hs00, hs05, hs1z⟩ := hfine
    have hs00 : 0 <= s0 := hs00
    have hs05 : s0 <= 5 := hs05
    have hs1z : s1.size <= 1000000 := hs1z
    obtain ⟨sj, rfl⟩ := Int.eq_ofNat_of_zero_le hs00
    obtain ⟨kv, hkv⟩ : ∃ x, ([1, 2, 3, 5, 7, 1] : List Int)[sj]? = some x := ⟨_, List.getElem?_eq_getElem (by simp; omega)⟩
    have hkvb : 1 <= kv /\ kv <= 7 := mem_rng (List.mem_of_getElem? hkv) (by decide)
    refine wl_callv (v := .agg #[.int .i64 ((sj : Nat) : Int), .string s1, .int .i64 s2]) rfl cb102 rfl rfl (fun wx hm => (by have h := rStateAt_any xl oA k oc y0 t8 wx (SlT.ofOwn ev_len (hm.ownI 0 rfl) hxl) (by omega); rw [<- hSS] at h; exact h)) ?_
    refine wl_alloc zc168 rfl fun g14 => ?_
    refine wl_stores (cs' := [.int .i64 ((sj : Nat) : Int), .string s1, .int .i64 s2]) 0 rz168 rfl rfl rfl rfl rfl rfl rfl rfl ?_
    refine nn_ (gw_seq (sr_ (fd_ fo168_1 rfl rfl (lk_ sc9 0 rfl rfl rfl (wl_ov (ov_sneq rfl rfl) rfl (nn_ ?_))))))
    refine gw_cond rfl (fun hh => ?_) (fun hh => ?_)
    ·have hc15 : (s1.toList == (⟨#[]⟩ : ByteArray).toList) = false := by simpa using hh
     clear hh
     refine gw_region (fd_ fo168_1 rfl rfl (lk_ sc9 0 rfl rfl rfl (fd_ fo45_2 rfl rfl ?_)))
     refine wl_store 1 sc9 rfl rfl rfl rfl rfl rfl ?_
     refine nn_ (sr_ ?_)
     refine wl_buildSlice (e := 3) (cs := [.int .i64 1, .int .i64 2, .int .i64 3, .int .i64 5, .int .i64 7, .int .i64 1]) rfl (by kernel_rfl) rfl fun g16 => ?_
     refine fd_ fo168_0 rfl rfl (lk_ sc3 1 rfl rfl rfl ?_)
     refine wl_ov (ov_index (j := sj) es22 rfl rfl (by omega)) rfl ?_
     refine wl_ov (ov_elem1 (k := 0) (v := .int .i64 kv) sc3 rfl (fun _ hm => (SlT.ofBlk (l := [1, 2, 3, 5, 7, 1]) it_len1 (hm.blkI 0 rfl))) hkv rfl rfl) rfl ?_
     refine fd_ fo45_3 rfl rfl ?_
     refine wl_store 2 sc3 rfl rfl rfl rfl rfl rfl ?_
     refine nn_ (sr_ (fd_ fo168_0 rfl rfl (lk_ sc3 1 rfl rfl rfl (wl_ov (ov_eql rfl rfl) rfl (nn_ ?_)))))
     refine gw_cond rfl (fun hh => ?_) (fun hh => ?_)
     ·have hc17 : ((sj : Nat) : Int) = 1 := by simpa using hh
      clear hh
      refine gw_region (mv_ rfl ?_)
      refine wl_buildSlice (e := 3) (cs := [.int .i64 2, .int .i64 2, .int .i64 2, .int .i64 4, .int .i64 6, .int .i64 8]) rfl (by kernel_rfl) rfl fun g18 => ?_
      refine wl_got (γ := Int) (val := fun v => .int .i64 v) (φ := fun v => v ∈ ([2, 2, 2, 4, 6, 8] : List Int)) rfl cb11 rfl rfl rfl rfl (fun wx hm => (pick_any [2, 2, 2, 4, 6, 8] _ _ _ wx B sb _ hm.k (by omega) (by simp) (by simp) (hm.blkI 0 rfl) (hm.neRow 0 rfl rfl))) fun v19 hv19 => ?_
      have bv19 : 2 <= v19 /\ v19 <= 8 := mem_rng hv19 (by decide)
      have bv190 := bv19.1
      have bv191 := bv19.2
      clear bv19
      refine fd_ fo45_3 rfl rfl ?_
      refine wl_store 3 sc3 rfl rfl rfl rfl rfl rfl ?_
      refine wl_nil ?_
      exact nx_meet (s1, v19) ⟨by dsimp only; omega, by dsimp only; omega, by dsimp only; omega⟩ ⟨rfl, rfl, rfl, rfl, rfl, rfl, rfl, rfl, trivial⟩ (fun _ hm => (hm.more rfl (by first | omega | (dsimp only; omega))).pick [3, 4, 5] [0] [0, 1] rfl rfl)
     have hc17 : ¬ (((sj : Nat) : Int) = 1) := by simpa using hh
     clear hh
     refine gw_skip ?_
     exact nx_meet (s1, kv) ⟨by dsimp only; omega, by dsimp only; omega, by dsimp only; omega⟩ ⟨rfl, rfl, rfl, rfl, rfl, rfl, rfl, rfl, trivial⟩ (fun _ hm => (hm.more rfl (by first | omega | (dsimp only; omega))).pick [2, 3, 4] [0] [0, 1] rfl rfl)
    have hc15 : (s1.toList == (⟨#[]⟩ : ByteArray).toList) = true := by simpa using hh
    clear hh
    refine gw_skip (nx_then (sr_ ?_))
    refine wl_buildSlice (e := 3) (cs := [.int .i64 1, .int .i64 2, .int .i64 3, .int .i64 5, .int .i64 7, .int .i64 1]) rfl (by kernel_rfl) rfl fun g20 => ?_
    refine fd_ fo168_0 rfl rfl (lk_ sc3 1 rfl rfl rfl ?_)
    refine wl_ov (ov_index (j := sj) es22 rfl rfl (by omega)) rfl ?_
    refine wl_ov (ov_elem1 (k := 0) (v := .int .i64 kv) sc3 rfl (fun _ hm => (SlT.ofBlk (l := [1, 2, 3, 5, 7, 1]) it_len1 (hm.blkI 0 rfl))) hkv rfl rfl) rfl ?_
    refine fd_ fo45_3 rfl rfl ?_
    refine wl_store 2 sc3 rfl rfl rfl rfl rfl rfl ?_
    refine nn_ (sr_ (fd_ fo168_0 rfl rfl (lk_ sc3 1 rfl rfl rfl (wl_ov (ov_eql rfl rfl) rfl (nn_ ?_)))))
    refine gw_cond rfl (fun hh => ?_) (fun hh => ?_)
    ·have hc21 : ((sj : Nat) : Int) = 1 := by simpa using hh
     clear hh
     refine gw_region (mv_ rfl ?_)
     refine wl_buildSlice (e := 3) (cs := [.int .i64 2, .int .i64 2, .int .i64 2, .int .i64 4, .int .i64 6, .int .i64 8]) rfl (by kernel_rfl) rfl fun g22 => ?_
     refine wl_got (γ := Int) (val := fun v => .int .i64 v) (φ := fun v => v ∈ ([2, 2, 2, 4, 6, 8] : List Int)) rfl cb11 rfl rfl rfl rfl (fun wx hm => (pick_any [2, 2, 2, 4, 6, 8] _ _ _ wx B sb _ hm.k (by omega) (by simp) (by simp) (hm.blkI 0 rfl) (hm.neRow 0 rfl rfl))) fun v23 hv23 => ?_
     have bv23 : 2 <= v23 /\ v23 <= 8 := mem_rng hv23 (by decide)
     have bv230 := bv23.1
     have bv231 := bv23.2
     clear bv23
     refine fd_ fo45_3 rfl rfl ?_
     refine wl_store 3 sc3 rfl rfl rfl rfl rfl rfl ?_
     refine wl_nil ?_
     exact nx_meet (st1, v23) ⟨by dsimp only; omega, by dsimp only; omega, by dsimp only; omega⟩ ⟨rfl, rfl, rfl, rfl, rfl, rfl, rfl, rfl, trivial⟩ (fun _ hm => (hm.more rfl (by first | omega | (dsimp only; omega))).pick [3, 4, 5] [0] [0, 1] rfl rfl)
    have hc21 : ¬ (((sj : Nat) : Int) = 1) := by simpa using hh
    clear hh
    refine gw_skip ?_
    exact nx_meet (st1, kv) ⟨by dsimp only; omega, by dsimp only; omega, by dsimp only; omega⟩ ⟨rfl, rfl, rfl, rfl, rfl, rfl, rfl, rfl, trivial⟩ (fun _ hm => (hm.more rfl (by first | omega | (dsimp only; omega))).pick [2, 3, 4] [0] [0, 1] rfl rfl)
   have hc13 : f12 = true := by simpa using hh
   clear hh
   refine gw_skip ?_
   exact nx_meet (st1, kd1) ⟨by dsimp only; omega, by dsimp only; omega, by dsimp only; omega⟩ ⟨rfl, rfl, rfl, rfl, rfl, rfl, rfl, rfl, trivial⟩ (fun _ hm => (hm.more rfl (by first | omega | (dsimp only; omega))).pick [0, 1, 2] [0] [0, 1] rfl rfl)
  rintro ⟨st2, kd2⟩ hinv
  replace hinv : st2.size <= 1000000 /\ (-4000000000000000000 <= kd2 /\ kd2 <= 4000000000000000000) := hinv
  dsimp only
  obtain ⟨hst2, hkd2a, hkd2b⟩ := hinv
  refine gw_cut (γ := ByteArray) (I := (fun (to3 : ByteArray) => to3.size <= 1000000)) (S' := (fun (to3 : ByteArray) => [(0, .pointer (some ⟨sb, 0, none⟩)), (4, .pointer (some ⟨g1, 0, none⟩)), (6, .slice none 0 0), (7, .slice oA k oc), (8, .int .i64 t8), (10, .pointer (some ⟨g10, 0, none⟩)), (23, .int .i64 ((q : Nat) : Int)), (24, .int .i64 ((i : Nat) : Int))])) (K' := (fun (to3 : ByteArray) => fun w => Strm 25 w B sb (m + 20 * i + 7))) (L' := (fun (to3 : ByteArray) => [(g10, 45, [.int .i64 t8, .string y0, .string st2, .int .i64 kd2, .string to3]), (g2, 3, [.int .i64 0, .int .i64 1, .int .i64 10, .int .i64 50, .int .i64 100, .int .i64 500]), (g1, 62, [.slice (some ⟨bs, os, none⟩) sn sc, .slice cA cn cc, .slice (some ⟨bv, ov, none⟩) vn vc, .slice pA pn pc])])) (O' := (fun (to3 : ByteArray) => [⟨.slice oA k oc, 45, 5, k, xl.flatMap evEnc⟩])) (X' := (fun (to3 : ByteArray) => [SlOld stEnc 15 152 w.heap.size (some sb) (some ⟨bs, os, none⟩) sn sl, SlOld vhEnc 2 160 w.heap.size (some sb) (some ⟨bv, ov, none⟩) vn vl])) ?_ ?_
  ·refine sr_ (fd_ fo45_3 rfl rfl (lk_ sc3 0 rfl rfl rfl (wl_ov (ov_eql rfl rfl) rfl (nn_ ?_))))
   refine gw_cond rfl (fun hh => ?_) (fun hh => ?_)
   ·have hc6 : kd2 = 6 := by simpa using hh
    clear hh
    refine gd (fun wz => Blk wz g2 3 [.int .i64 0, .int .i64 1, .int .i64 10, .int .i64 50, .int .i64 100, .int .i64 500] /\ Blk wz g1 62 [.slice (some ⟨bs, os, none⟩) sn sc, .slice cA cn cc, .slice (some ⟨bv, ov, none⟩) vn vc, .slice pA pn pc] /\ (SlOld stEnc 15 152 w.heap.size (some sb) (some ⟨bs, os, none⟩) sn sl) wz /\ (SlOld vhEnc 2 160 w.heap.size (some sb) (some ⟨bv, ov, none⟩) vn vl) wz /\ True) mixed (fun _ hm => ⟨hm.bl 1, hm.bl 2, hm.fa 0, hm.fa 1, trivial⟩) fun z => ?_
    refine wt 0 12 1 rfl z (ov_field fo62_0 rfl rfl) ?_
    refine wt 1 12 3 rfl z (ov_load sc57 rfl (fun _ hm => hm.2.1) rfl) ?_
    refine wt 2 12 7 rfl z (ov_move rfl) ?_
    refine wt 3 12 15 rfl z (ov_field fo62_0 rfl rfl) ?_
    refine wt 4 12 31 rfl z (ov_load sc57 rfl (fun _ hm => hm.2.1) rfl) ?_
    refine wt 5 12 63 rfl z (ov_len es57 rfl) ?_
    refine wa1 6 rfl ?_
    refine wl_got (γ := Int) (val := fun v => .int .i64 v) (φ := fun v => IsBelow ((sn : Nat) : Int) v) rfl cb66 rfl rfl rfl rfl (fun wx hm => (next_any _ wx B sb _ hm.k (by omega) (by omega) (by omega))) fun vu24 hvu24 => ?_
    have hju24 := isBelow_lt hvu24 (by omega)
    obtain ⟨ju24, rfl⟩ := Int.eq_ofNat_of_zero_le hju24.1
    have hjiu24 : ju24 < sn := by omega
    obtain ⟨zu24, hzu24⟩ : ∃ y, sl[ju24]? = some y := ⟨_, List.getElem?_eq_getElem (by omega)⟩
    obtain ⟨ku24, ru24⟩ := zu24
    have hku24 : ku24.size <= 1000000 := (hsok _ (List.mem_of_getElem? hzu24)).2.1
    refine wl_nil ?_
    refine nw 12 127 (fun _ hm => ⟨hm.bl 1, hm.bl 2, hm.fa 0, hm.fa 1, trivial⟩) fun z => ?_
    refine wt 7 12 255 rfl z (ov_index (j := ju24) es57 rfl rfl (by omega)) ?_
    refine wt 8 12 511 rfl z (ov_field fo152_0 rfl rfl) ?_
    refine wt 9 12 1023 rfl z (ov_elem1 (k := 0) (v := .string ku24) sc9 rfl (fun _ hm => (hm.2.2.1).1) hzu24 rfl rfl) ?_
    refine wt 10 12 2047 rfl z (ov_field fo45_4 rfl rfl) ?_
    refine wa1 11 rfl ?_
    refine wl_store 0 sc9 rfl rfl rfl rfl rfl rfl ?_
    refine wl_nil ?_
    refine nw 12 4095 (fun _ hm => ⟨hm.bl 1, hm.bl 2, hm.fa 0, hm.fa 1, trivial⟩) fun z => ?_
    refine wa_done (by kernel_rfl) ?_
    exact nx_meet ku24 (by (try dsimp only); omega) ⟨rfl, rfl, rfl, rfl, rfl, rfl, rfl, rfl, trivial⟩ (fun _ hm => (hm.more rfl (by first | omega | (dsimp only; omega))).pick [0, 1, 2] [0] [0, 1] rfl rfl)
   have hc6 : ¬ (kd2 = 6) := by simpa using hh
   clear hh
   refine gw_skip ?_
   exact nx_meet ⟨#[]⟩ (show (⟨#[]⟩ : ByteArray).size <= 1000000 by decide) ⟨rfl, rfl, rfl, rfl, rfl, rfl, rfl, rfl, trivial⟩ (fun _ hm => (hm.more rfl (by first | omega | (dsimp only; omega))).pick [0, 1, 2] [0] [0, 1] rfl rfl)
  intro to3 hinv
  replace hinv : to3.size <= 1000000 := hinv
  have hto3 : to3.size <= 1000000 := hinv
  refine gw_cut (γ := Int × ByteArray × ByteArray × Int × ByteArray) (I := (fun g => EvOk (⟨g.1, g.2.1, g.2.2.1, g.2.2.2.1, g.2.2.2.2⟩ : Ev))) (S' := (fun g => [(0, .pointer (some ⟨sb, 0, none⟩)), (4, .pointer (some ⟨g1, 0, none⟩)), (6, .slice none 0 0), (7, .slice oA k oc), (8, .int .i64 t8), (10, .pointer (some ⟨g10, 0, none⟩)), (23, .int .i64 ((q : Nat) : Int)), (24, .int .i64 ((i : Nat) : Int))])) (K' := (fun g => fun w => Strm 25 w B sb (m + 20 * i + 12))) (L' := (fun g => [(g10, 45, [.int .i64 g.1, .string g.2.1, .string g.2.2.1, .int .i64 g.2.2.2.1, .string g.2.2.2.2]), (g2, 3, [.int .i64 0, .int .i64 1, .int .i64 10, .int .i64 50, .int .i64 100, .int .i64 500]), (g1, 62, [.slice (some ⟨bs, os, none⟩) sn sc, .slice cA cn cc, .slice (some ⟨bv, ov, none⟩) vn vc, .slice pA pn pc])])) (O' := (fun g => [⟨.slice oA k oc, 45, 5, k, xl.flatMap evEnc⟩])) (X' := (fun g => [SlOld stEnc 15 152 w.heap.size (some sb) (some ⟨bs, os, none⟩) sn sl, SlOld vhEnc 2 160 w.heap.size (some sb) (some ⟨bv, ov, none⟩) vn vl])) ?_ ?_
  ·refine sr_ (mv_ rfl ?_)
   refine wl_got (γ := Bool) (val := fun v => .bool v) (φ := fun v => True) rfl cb64 rfl rfl rfl rfl (fun wx hm => ((flip_any _ wx B sb _ hm.k (by omega) (by omega) (by omega)).mono fun _ _ ⟨v, he, hS, hg⟩ => ⟨v, trivial, he, hS, hg⟩)) fun f25 _ => ?_
   refine nn_ ?_
   refine gw_cond rfl (fun hh => ?_) (fun hh => ?_)
   ·have hd26 : f25 = true := by simpa using hh
    clear hh
    refine sr_ (mv_ rfl ?_)
    refine wl_got (γ := Int) (val := fun v => .int .i64 v) (φ := fun v => IsBelow 4 v) rfl cb66 rfl rfl rfl rfl (fun wx hm => (next_any _ wx B sb _ hm.k (by omega) (by omega) (by omega))) fun v4 hv4 => ?_
    refine nn_ (gw_block (sr_ (wl_ov (ov_eql rfl rfl) rfl (sg_ rfl (nn_ ?_)))))
    refine gw_cond rfl (fun hh => ?_) (fun hh => ?_)
    ·have hd27 : v4 = 0 := by simpa using hh
     clear hh
     refine gw_region (mv_ rfl ?_)
     refine wl_got (γ := Int) (val := fun v => .int .i64 v) (φ := fun v => -2000000000000000 <= v /\ v <= 2000000000000000) rfl cb88 rfl rfl rfl rfl (fun wx hm => (odd_any _ _ wx B sb _ hm.k (by omega) (by omega) (by omega) (by omega))) fun v28 hv28 => ?_
     refine fd_ fo45_3 rfl rfl ?_
     refine wl_store 0 sc3 rfl rfl rfl rfl rfl rfl ?_
     refine wl_nil (nx_blk_nrm ?_)
     exact nx_meet (t8, y0, st2, v28, to3) ⟨⟨by dsimp only; omega, by dsimp only; omega⟩, ⟨by dsimp only; omega, by dsimp only; omega⟩, by dsimp only; omega, by dsimp only; omega, by dsimp only; omega⟩ ⟨rfl, rfl, rfl, rfl, rfl, rfl, rfl, rfl, trivial⟩ (fun _ hm => (hm.more rfl (by first | omega | (dsimp only; omega))).pick [0, 1, 2] [0] [0, 1] rfl rfl)
    have hd27 : ¬ (v4 = 0) := by simpa using hh
    clear hh
    refine sr_ (wl_ov (ov_eql rfl rfl) rfl (sg_ rfl (nn_ ?_)))
    refine gw_cond rfl (fun hh => ?_) (fun hh => ?_)
    ·have hd29 : v4 = 1 := by simpa using hh
     clear hh
     refine gw_region (mv_ rfl ?_)
     refine wl_buildSlice (e := 9) (cs := [.string ⟨#[115, 49]⟩, .string ⟨#[110, 111, 110, 101]⟩, .string ⟨#[]⟩]) rfl (by kernel_rfl) rfl fun g30 => ?_
     refine wl_got (γ := ByteArray) (val := fun v => .string v) (φ := fun v => v ∈ ([⟨#[115, 49]⟩, ⟨#[110, 111, 110, 101]⟩, ⟨#[]⟩] : List ByteArray)) rfl cb49 rfl rfl rfl rfl (fun wx hm => (some_any [⟨#[115, 49]⟩, ⟨#[110, 111, 110, 101]⟩, ⟨#[]⟩] _ _ _ wx B sb _ hm.k (by omega) (by simp) (by simp) (hm.blkI 0 rfl) (hm.neRow 0 rfl rfl))) fun s31 hs31 => ?_
     have zs31 : s31.size <= 100 := mem_sz hs31 (by decide)
     refine fd_ fo45_4 rfl rfl ?_
     refine wl_store 1 sc9 rfl rfl rfl rfl rfl rfl ?_
     refine wl_nil (nx_blk_nrm ?_)
     exact nx_meet (t8, y0, st2, kd2, s31) ⟨⟨by dsimp only; omega, by dsimp only; omega⟩, ⟨by dsimp only; omega, by dsimp only; omega⟩, by dsimp only; omega, by dsimp only; omega, by dsimp only; omega⟩ ⟨rfl, rfl, rfl, rfl, rfl, rfl, rfl, rfl, trivial⟩ (fun _ hm => (hm.more rfl (by first | omega | (dsimp only; omega))).pick [1, 2, 3] [0] [0, 1] rfl rfl)
    have hd29 : ¬ (v4 = 1) := by simpa using hh
    clear hh
    refine sr_ (wl_ov (ov_eql rfl rfl) rfl (sg_ rfl (nn_ ?_)))
    refine gw_cond rfl (fun hh => ?_) (fun hh => ?_)
    ·have hd32 : v4 = 2 := by simpa using hh
     clear hh
     refine gw_region (mv_ rfl ?_)
     refine wl_calls (γ := ByteArray) (val := (fun g => .string g)) (φ := (fun g => g.size <= 100)) (Y := (fun g => fun _ => True)) (m' := m + 20 * i + 7 + 1 + 1 + 1) rfl cb103 rfl rfl rfl rfl (fun wx hm => (gvehicleKey_any wx B sb _ hm.k (by omega)).mono fun _ _ ⟨v, he, hv, hS, hg⟩ => ⟨v, he, hv, hS, hg, trivial⟩) (fun _ => Lasts2.true_) ?_
     rintro vk hvk
     refine fd_ fo45_1 rfl rfl ?_
     refine wl_store 0 sc9 rfl rfl rfl rfl rfl rfl ?_
     refine wl_nil (nx_blk_nrm ?_)
     exact nx_meet (t8, vk, st2, kd2, to3) ⟨⟨by dsimp only; omega, by dsimp only; omega⟩, ⟨by dsimp only; omega, by dsimp only; omega⟩, by dsimp only; omega, by dsimp only; omega, by dsimp only; omega⟩ ⟨rfl, rfl, rfl, rfl, rfl, rfl, rfl, rfl, trivial⟩ (fun _ hm => (hm.more rfl (by first | omega | (dsimp only; omega))).pick [0, 1, 2] [0] [1, 2] rfl rfl)
    have hd32 : ¬ (v4 = 2) := by simpa using hh
    clear hh
    refine gw_region (mv_ rfl ?_)
    refine wl_got (γ := Int) (val := fun v => .int .i64 v) (φ := fun v => -2000000000000000 <= v /\ v <= 2000000000000000) rfl cb88 rfl rfl rfl rfl (fun wx hm => (odd_any _ _ wx B sb _ hm.k (by omega) (by omega) (by omega) (by omega))) fun v34 hv34 => ?_
    refine fd_ fo45_0 rfl rfl ?_
    refine wl_store 0 sc3 rfl rfl rfl rfl rfl rfl ?_
    refine wl_nil (nx_blk_nrm ?_)
    exact nx_meet (v34, y0, st2, kd2, to3) ⟨⟨by dsimp only; omega, by dsimp only; omega⟩, ⟨by dsimp only; omega, by dsimp only; omega⟩, by dsimp only; omega, by dsimp only; omega, by dsimp only; omega⟩ ⟨rfl, rfl, rfl, rfl, rfl, rfl, rfl, rfl, trivial⟩ (fun _ hm => (hm.more rfl (by first | omega | (dsimp only; omega))).pick [0, 1, 2] [0] [0, 1] rfl rfl)
   have hd26 : f25 = false := by simpa using hh
   clear hh
   refine gw_skip ?_
   exact nx_meet (t8, y0, st2, kd2, to3) ⟨⟨by dsimp only; omega, by dsimp only; omega⟩, ⟨by dsimp only; omega, by dsimp only; omega⟩, by dsimp only; omega, by dsimp only; omega, by dsimp only; omega⟩ ⟨rfl, rfl, rfl, rfl, rfl, rfl, rfl, rfl, trivial⟩ (fun _ hm => (hm.more rfl (by first | omega | (dsimp only; omega))).pick [0, 1, 2] [0] [0, 1] rfl rfl)
  rintro ⟨a4, ve4, st4, kd4, to4⟩ hinv
  replace hinv : EvOk (⟨a4, ve4, st4, kd4, to4⟩ : Ev) := hinv
  dsimp only
  have hx4 : EvOk (⟨a4, ve4, st4, kd4, to4⟩ : Ev) := hinv
  have huok : ∀ x ∈ xl ++ [(⟨a4, ve4, st4, kd4, to4⟩ : Ev)], EvOk x := all_snoc hxok hx4
  have hul : (xl ++ [(⟨a4, ve4, st4, kd4, to4⟩ : Ev)]).length = k + 1 := by simp [hxl]
  obtain ⟨us, hus⟩ : ∃ z, z = xl ++ [(⟨a4, ve4, st4, kd4, to4⟩ : Ev)] := ⟨_, rfl⟩
  rw [<- hus] at huok hul
  obtain ⟨LE, hLE⟩ : ∃ z, z = logE sl vl us := ⟨_, rfl⟩
  refine gw_cut (γ := Bool) (I := (fun (bb : Bool) => True)) (S' := (fun (bb : Bool) => [(0, .pointer (some ⟨sb, 0, none⟩)), (4, .pointer (some ⟨g1, 0, none⟩)), (6, .slice none 0 0), (7, .slice oA k oc), (8, .int .i64 t8), (10, .pointer (some ⟨g10, 0, none⟩)), (23, .int .i64 ((q : Nat) : Int)), (24, .int .i64 ((i : Nat) : Int)), (130, .bool bb)])) (K' := (fun (bb : Bool) => fun w => Strm 25 w B sb (m + 20 * i + 13))) (L' := (fun (bb : Bool) => [(g10, 45, [.int .i64 a4, .string ve4, .string st4, .int .i64 kd4, .string to4]), (g2, 3, [.int .i64 0, .int .i64 1, .int .i64 10, .int .i64 50, .int .i64 100, .int .i64 500]), (g1, 62, [.slice (some ⟨bs, os, none⟩) sn sc, .slice cA cn cc, .slice (some ⟨bv, ov, none⟩) vn vc, .slice pA pn pc])])) (O' := (fun (bb : Bool) => [⟨.slice oA k oc, 45, 5, k, xl.flatMap evEnc⟩])) (X' := (fun (bb : Bool) => [SlOld stEnc 15 152 w.heap.size (some sb) (some ⟨bs, os, none⟩) sn sl, SlOld vhEnc 2 160 w.heap.size (some sb) (some ⟨bv, ov, none⟩) vn vl])) ?_ ?_
  ·refine gd (fun wz => Blk wz g10 45 [.int .i64 a4, .string ve4, .string st4, .int .i64 kd4, .string to4] /\ Blk wz g2 3 [.int .i64 0, .int .i64 1, .int .i64 10, .int .i64 50, .int .i64 100, .int .i64 500] /\ Blk wz g1 62 [.slice (some ⟨bs, os, none⟩) sn sc, .slice cA cn cc, .slice (some ⟨bv, ov, none⟩) vn vc, .slice pA pn pc] /\ (SlOld stEnc 15 152 w.heap.size (some sb) (some ⟨bs, os, none⟩) sn sl) wz /\ (SlOld vhEnc 2 160 w.heap.size (some sb) (some ⟨bv, ov, none⟩) vn vl) wz /\ True) mixed (fun _ hm => ⟨hm.bl 0, hm.bl 1, hm.bl 2, hm.fa 0, hm.fa 1, trivial⟩) fun z => ?_
   refine wt 0 12 1 rfl z (ov_move rfl) ?_
   refine wa1 1 rfl ?_
   refine wl_got (γ := Bool) (val := fun v => .bool v) (φ := fun v => True) rfl cb64 rfl rfl rfl rfl (fun wx hm => ((flip_any _ wx B sb _ hm.k (by omega) (by omega) (by omega)).mono fun _ _ ⟨v, he, hS, hg⟩ => ⟨v, trivial, he, hS, hg⟩)) fun f35 _ => ?_
   refine wl_nil ?_
   refine nw 12 3 (fun _ hm => ⟨hm.bl 0, hm.bl 1, hm.bl 2, hm.fa 0, hm.fa 1, trivial⟩) fun z => ?_
   refine wt 2 12 7 rfl z (ov_move rfl) ?_
   rcases Bool.eq_false_or_eq_true f35 with hg8 | hg8
   ·refine wa_set 121 rfl (congrArg Value.bool hg8) ?_
    refine wtf 3 12 15 rfl rfl rfl z ?_
    refine wtf 4 12 31 rfl rfl rfl z ?_
    refine wtf 5 12 63 rfl rfl rfl z ?_
    refine wtf 6 12 127 rfl rfl rfl z ?_
    refine wtf 7 12 255 rfl rfl rfl z ?_
    refine wtf 8 12 511 rfl rfl rfl z ?_
    refine wtf 9 12 1023 rfl rfl rfl z ?_
    refine wtf 10 12 2047 rfl rfl rfl z ?_
    refine wt 11 12 4095 rfl z (ov_pick_t rfl rfl) ?_
    refine wa_done (by kernel_rfl) ?_
    exact nx_meet true trivial ⟨rfl, rfl, rfl, rfl, rfl, rfl, rfl, rfl, rfl, trivial⟩ (fun _ hm => (hm.more rfl (by first | omega | (dsimp only; omega))).pick [0, 1, 2] [0] [0, 1] rfl rfl)
   refine wa_set 121 rfl (congrArg Value.bool hg8) ?_
   refine wto 3 12 15 rfl rfl rfl z (ov_loads rz62 rfl (fun _ hm => hm.2.2.1) rfl rfl) ?_
   refine wto 4 12 31 rfl rfl rfl z (ov_move rfl) ?_
   refine wto 6 12 95 rfl rfl rfl z (ov_loads rz45 rfl (fun _ hm => hm.1) rfl rfl) ?_
   refine wa_all [5, 7] (by kernel_rfl) rfl ⟨⟨_, rfl, ?_⟩, ⟨_, rfl, ?_⟩, trivial⟩
   ·refine wl_guard_on rfl rfl rfl ?_
    refine wl_callgo (γ := Option Addr × Nat) (val := (fun g => .slice g.1 k g.2)) (φ := (fun g => True)) (fun g => ⟨.slice g.1 k g.2, 45, 5, k, xl.flatMap evEnc⟩) rfl cb105 rfl rfl (fun wx hm => (cloneEvents_all xl oA k oc wx (SlT.ofOwn ev_len (hm.ownI 0 rfl) hxl) (own_shape (hm.ownI 0 rfl)) (by omega)).mono fun _ _ ⟨A, c, he, ho, hg⟩ => ⟨(A, c), he, trivial, ho, hg⟩) ?_
    rintro ⟨A3, c3⟩ hphi
    dsimp only at hphi ⊢
    refine wl_nil ?_
    refine nw 12 127 (fun _ hm => ⟨hm.bl 0, hm.bl 1, hm.bl 2, hm.fa 0, hm.fa 1, trivial⟩) fun z => ?_
    refine wa1 7 rfl ?_
    refine wl_guard_on rfl rfl rfl ?_
    refine wl_buildSlice (e := 45) (cs := [.int .i64 a4, .string ve4, .string st4, .int .i64 kd4, .string to4]) rfl (by kernel_rfl) rfl fun g36 => ?_
    refine wl_nil ?_
    refine nw 12 255 (fun _ hm => ⟨hm.bl 1, hm.bl 2, hm.bl 3, hm.fa 0, hm.fa 1, trivial⟩) fun z => ?_
    refine wa1 8 rfl ?_
    refine wl_guard_on rfl rfl rfl ?_
    refine wl_append (news := [.int .i64 a4, .string ve4, .string st4, .int .i64 kd4, .string to4]) 0 0 ap39 rfl rfl rfl rfl rfl rfl rfl (by omega) (by unfold maxLen; omega) rfl rfl fun v2 hv2 => ?_
    refine wl_look (R := ∃ A cc, v2 = .slice A (k + 1) cc) (fun wx hm => own_slice (hm.ownI 0 rfl)) ?_
    rintro ⟨A4, c4, rfl⟩
    have hxs : xl.flatMap evEnc ++ ([.int .i64 a4, .string ve4, .string st4, .int .i64 kd4, .string to4] : List Value) = us.flatMap evEnc := by rw [hus]; simp [evEnc]
    rw [hxs]
    refine wl_nil ?_
    refine nw 12 511 (fun _ hm => ⟨hm.bl 1, hm.bl 2, hm.bl 3, hm.fa 0, hm.fa 1, trivial⟩) fun z => ?_
    refine wa1 9 rfl ?_
    refine wl_guard_on rfl rfl rfl ?_
    refine wl_callv (v := .int .i64 LE) rfl cb104 rfl rfl (fun wx hm => (by rw [hLE]; exact logFault_any sl vl (some ⟨bs, os, none⟩) cA (some ⟨bv, ov, none⟩) pA sn sc cn cc vn vc pn pc us A4 (k + 1) c4 wx (hm.fact 0 rfl).1 (hm.fact 1 rfl).1 hsok (by omega) (by omega) (SlT.ofOwn ev_len (hm.ownI 0 rfl) hul) huok (by omega))) ?_
    refine wl_nil ?_
    refine nw 12 1023 (fun _ hm => ⟨hm.bl 1, hm.bl 2, hm.bl 3, hm.fa 0, hm.fa 1, trivial⟩) fun z => ?_
    refine wto 10 12 2047 rfl rfl rfl z (ov_eql rfl rfl) ?_
    refine wt 11 12 4095 rfl z (ov_pick_f rfl rfl) ?_
    refine wa_done (by kernel_rfl) ?_
    exact nx_meet (decide (LE = 0)) trivial ⟨rfl, rfl, rfl, rfl, rfl, rfl, rfl, rfl, rfl, trivial⟩ (fun _ hm => (hm.more rfl (by first | omega | (dsimp only; omega))).pick [1, 2, 3] [1] [0, 1] rfl rfl)
   refine wl_guard_on rfl rfl rfl ?_
   refine wl_buildSlice (e := 45) (cs := [.int .i64 a4, .string ve4, .string st4, .int .i64 kd4, .string to4]) rfl (by kernel_rfl) rfl fun g37 => ?_
   refine wl_nil ?_
   refine nw 12 223 (fun _ hm => ⟨hm.bl 1, hm.bl 2, hm.bl 3, hm.fa 0, hm.fa 1, trivial⟩) fun z => ?_
   refine wa1 5 rfl ?_
   refine wl_guard_on rfl rfl rfl ?_
   refine wl_callgo (γ := Option Addr × Nat) (val := (fun g => .slice g.1 k g.2)) (φ := (fun g => True)) (fun g => ⟨.slice g.1 k g.2, 45, 5, k, xl.flatMap evEnc⟩) rfl cb105 rfl rfl (fun wx hm => (cloneEvents_all xl oA k oc wx (SlT.ofOwn ev_len (hm.ownI 0 rfl) hxl) (own_shape (hm.ownI 0 rfl)) (by omega)).mono fun _ _ ⟨A, c, he, ho, hg⟩ => ⟨(A, c), he, trivial, ho, hg⟩) ?_
   rintro ⟨A3, c3⟩ hphi
   dsimp only at hphi ⊢
   refine wl_nil ?_
   refine nw 12 255 (fun _ hm => ⟨hm.bl 1, hm.bl 2, hm.bl 3, hm.fa 0, hm.fa 1, trivial⟩) fun z => ?_
   refine wa1 8 rfl ?_
   refine wl_guard_on rfl rfl rfl ?_
   refine wl_append (news := [.int .i64 a4, .string ve4, .string st4, .int .i64 kd4, .string to4]) 0 0 ap39 rfl rfl rfl rfl rfl rfl rfl (by omega) (by unfold maxLen; omega) rfl rfl fun v2 hv2 => ?_
   refine wl_look (R := ∃ A cc, v2 = .slice A (k + 1) cc) (fun wx hm => own_slice (hm.ownI 0 rfl)) ?_
   rintro ⟨A4, c4, rfl⟩
   have hxs : xl.flatMap evEnc ++ ([.int .i64 a4, .string ve4, .string st4, .int .i64 kd4, .string to4] : List Value) = us.flatMap evEnc := by rw [hus]; simp [evEnc]
   rw [hxs]
   refine wl_nil ?_
   refine nw 12 511 (fun _ hm => ⟨hm.bl 1, hm.bl 2, hm.bl 3, hm.fa 0, hm.fa 1, trivial⟩) fun z => ?_
   refine wa1 9 rfl ?_
   refine wl_guard_on rfl rfl rfl ?_
   refine wl_callv (v := .int .i64 LE) rfl cb104 rfl rfl (fun wx hm => (by rw [hLE]; exact logFault_any sl vl (some ⟨bs, os, none⟩) cA (some ⟨bv, ov, none⟩) pA sn sc cn cc vn vc pn pc us A4 (k + 1) c4 wx (hm.fact 0 rfl).1 (hm.fact 1 rfl).1 hsok (by omega) (by omega) (SlT.ofOwn ev_len (hm.ownI 0 rfl) hul) huok (by omega))) ?_
   refine wl_nil ?_
   refine nw 12 1023 (fun _ hm => ⟨hm.bl 1, hm.bl 2, hm.bl 3, hm.fa 0, hm.fa 1, trivial⟩) fun z => ?_
   refine wto 10 12 2047 rfl rfl rfl z (ov_eql rfl rfl) ?_
   refine wt 11 12 4095 rfl z (ov_pick_f rfl rfl) ?_
   refine wa_done (by kernel_rfl) ?_
   exact nx_meet (decide (LE = 0)) trivial ⟨rfl, rfl, rfl, rfl, rfl, rfl, rfl, rfl, rfl, trivial⟩ (fun _ hm => (hm.more rfl (by first | omega | (dsimp only; omega))).pick [1, 2, 3] [1] [0, 1] rfl rfl)
  intro bb hinv
  replace hinv : True := hinv
  refine gw_cond rfl (fun hh => ?_) (fun hh => ?_)
  ·have hbb : bb = true := by simpa using hh
   clear hh
   refine gw_region (mv_ rfl ?_)
   refine wl_ov (ov_loads rz45 rfl (fun _ hm => hm.blkI 0 rfl) rfl rfl) rfl ?_
   refine wl_buildSlice (e := 45) (cs := [.int .i64 a4, .string ve4, .string st4, .int .i64 kd4, .string to4]) rfl (by kernel_rfl) rfl fun g38 => ?_
   refine wl_append (news := [.int .i64 a4, .string ve4, .string st4, .int .i64 kd4, .string to4]) 0 0 ap39 rfl rfl rfl rfl rfl rfl rfl (by omega) (by unfold maxLen; omega) rfl rfl fun v2 hv2 => ?_
   refine wl_look (R := ∃ A cc, v2 = .slice A (k + 1) cc) (fun wx hm => own_slice (hm.ownI 0 rfl)) ?_
   rintro ⟨A4, c4, rfl⟩
   have hxs : xl.flatMap evEnc ++ ([.int .i64 a4, .string ve4, .string st4, .int .i64 kd4, .string to4] : List Value) = us.flatMap evEnc := by rw [hus]; simp [evEnc]
   rw [hxs]
   refine sg_ rfl (wl_nil (nx_blk_nrm (nx_then (gw_region (ad_ rfl rfl (mv_ rfl (wl_nil ?_)))))))
   exact nx_round (i + 1, k + 1, t8, A4, c4, us) ⟨by dsimp only; omega, by dsimp only; omega, ⟨by dsimp only; omega, by dsimp only; omega⟩, hul, huok⟩ (by dsimp only; omega) ⟨rfl, rfl, rfl, rfl, rfl, rfl, (some_int (by omega)), trivial⟩ (fun _ hm => (hm.more rfl (by first | omega | (dsimp only; omega))).pick [3] [0] [0, 1] rfl rfl)
  have hbb : bb = false := by simpa using hh
  clear hh
  refine gw_skip (nx_blk_nrm (nx_then (gw_region (ad_ rfl rfl (mv_ rfl (wl_nil ?_))))))
  exact nx_round (i + 1, k, t8, oA, oc, xl) ⟨by dsimp only; omega, by dsimp only; omega, ⟨by dsimp only; omega, by dsimp only; omega⟩, hxl, hxok⟩ (by dsimp only; omega) ⟨rfl, rfl, rfl, rfl, rfl, rfl, (some_int (by omega)), trivial⟩ (fun _ hm => (hm.more rfl (by first | omega | (dsimp only; omega))).pick [2] [0] [0, 1] rfl rfl)
 have hi : ¬ (((i : Nat) : Int) < ((q : Nat) : Int)) := by simpa using hh
 clear hh
 refine gw_exit ?_
 refine nx_then_exit (nx_then_exit ?_)
 refine nx_blk_here ?_
 refine nx_then (sr_ (mv_ rfl (sg_ rfl (nn_ ?_))))
 refine gw_ret ?_
 refine nx_ret1 rfl rfl fun wx hm => ?_
 exact ⟨oA, k, oc, xl, rfl, (hm.ownI 0 rfl), hxl, hxok, by omega, hm.k.more (by omega), hm.g⟩
end Go.Proofs.YtempjmpfdniecaaGreatDoor
namespace Go.Proofs.YtempjmpfdniecaaGreatDoor
open Go.RowKit
theorem fleet_rise {sl : List St} {cl : List Cs} {vl : List Vh} {pl : List Pl} (h : fleetE sl cl vl pl = 0) : Rise vl := by
 unfold fleetE at h
 exact (vehs_rise (fe_all h (vehsE cl vl) (by simp))).2
theorem fe_hd {a : Int} {r : List Int} (h : a ≠ 0) : firstE (a :: r) = a := by simp [firstE, h]
theorem fe_tl {r : List Int} : firstE (0 :: r) = firstE r := by simp [firstE]
end Go.Proofs.YtempjmpfdniecaaGreatDoor
namespace Go.Proofs.YtempjmpfdniecaaGreatDoor
open Go.RowKit
def evsE (sl : List St) (cl : List Cs) (vl : List Vh) (pl : List Pl) (el : List Ev) : Int := firstE [fleetE sl cl vl pl, logE sl vl el]
theorem evs_one {sl : List St} {cl : List Cs} {vl : List Vh} {pl : List Pl} {el : List Ev} (h : fleetE sl cl vl pl ≠ 0) : evsE sl cl vl pl el = fleetE sl cl vl pl := fe_hd h
theorem evs_two {sl : List St} {cl : List Cs} {vl : List Vh} {pl : List Pl} {el : List Ev} (h : fleetE sl cl vl pl = 0) : evsE sl cl vl pl el = logE sl vl el := by
 unfold evsE; rw [h, fe_tl]
 by_cases h2 : logE sl vl el = 0
 ·rw [h2]; rfl
 ·exact fe_hd h2
theorem evs_ok {sl : List St} {cl : List Cs} {vl : List Vh} {pl : List Pl} {el : List Ev} (h : evsE sl cl vl pl el = 0) : fleetE sl cl vl pl = 0 /\ logE sl vl el = 0 := ⟨fe_all h _ (by simp), fe_all h _ (by simp)⟩
theorem log_ok {sl : List St} {vl : List Vh} {el : List Ev} (h : logE sl vl el = 0) : ESort el /\ (∀ x ∈ el, EvFine sl vl x) /\ el.length <= 3000 := by
 unfold logE at h
 split at h
 ·cases h
 ·obtain ⟨h1, _, h3⟩ := log_fine h
  exact ⟨h1, h3, by omega⟩
theorem check2_any (sl : List St) (cl : List Cs) (vl : List Vh) (pl : List Pl) (sA cA vA pA : Option Addr) (sn sc cn cc vn vc pn pc : Nat) (el : List Ev) (eA : Option Addr) (en ec : Nat) (w : World) (hs : SlT stEnc 15 152 w sA sn sl) (hc : SlT csEnc 2 158 w cA cn cl) (hv : SlT vhEnc 2 160 w vA vn vl) (hp : SlT plEnc 3 162 w pA pn pl) (hsok : ∀ x ∈ sl, StOk x) (hcok : ∀ x ∈ cl, CsOk x) (hvok : ∀ x ∈ vl, VhOk x) (hpok : ∀ x ∈ pl, PlOk x) (hsn : sn <= 1000000) (hcn : cn <= 1000000) (hvn : vn <= 1000000) (hpn : pn <= 1000000) (hl : SlT evEnc 5 45 w eA en el) (heok : ∀ x ∈ el, EvOk x) (hen : en <= 1000000) :
  Calls Tryz.prog 115 #[.agg #[.slice sA sn sc, .slice cA cn cc, .slice vA vn vc, .slice pA pn pc], .slice eA en ec] w (GotE w (evsE sl cl vl pl el)) := by
 refine gw_enter ⟨14, w, none, []⟩ Tryz.func115 rfl Tryz.ntmps115 rfl (mem0 (X := [SlOld stEnc 15 152 w.heap.size none sA sn sl, SlOld csEnc 2 158 w.heap.size none cA cn cl, SlOld vhEnc 2 160 w.heap.size none vA vn vl, SlOld plEnc 3 162 w.heap.size none pA pn pl, SlOld evEnc 5 45 w.heap.size none eA en el]) (allF_cons hs.old (allF_cons hc.old (allF_cons hv.old (allF_cons hp.old (allF_cons hl.old allF_nil))))) (allL_cons SlOld.lasts (allL_cons SlOld.lasts (allL_cons SlOld.lasts (allL_cons SlOld.lasts (allL_cons SlOld.lasts allL_nil)))))) ?_
 refine sr_ ?_
 obtain ⟨FE, hFE⟩ : ∃ z, z = fleetE sl cl vl pl := ⟨_, rfl⟩
 obtain ⟨LE, hLE⟩ : ∃ z, z = logE sl vl el := ⟨_, rfl⟩
 refine wl_box rfl rfl rfl fun g1 => ?_
 refine sg_ rfl (nn_ (gw_seq (sr_ ?_)))
 refine wl_ov (ov_loads rz62 rfl (fun _ hm => hm.blkI 0 rfl) rfl rfl) rfl ?_
 refine wl_callv (v := .int .i64 FE) rfl cb106 rfl rfl (fun wx hm => (by rw [hFE]; exact checkFleet_any sl cl vl pl sA cA vA pA sn sc cn cc vn vc pn pc wx (hm.fact 0 rfl).1 (hm.fact 1 rfl).1 (hm.fact 2 rfl).1 (hm.fact 3 rfl).1 hsok hcok hvok hpok hsn hcn hvn hpn)) ?_
 refine sg_ rfl (nn_ (sr_ (mv_ rfl (wl_ov (ov_neq rfl rfl) rfl (nn_ ?_)))))
 refine gw_cond rfl (fun hh => ?_) (fun hh => ?_)
 ·have h1 : ¬ (FE = 0) := by simpa using hh
  clear hh
  refine sr_ (mv_ rfl (sg_ rfl (nn_ ?_)))
  refine gw_ret ?_
  refine nx_then_ret ?_
  refine nx_ret1 rfl rfl fun wx hm => ?_
  exact ⟨ret_int (by rw [evs_one (by rw [<- hFE]; simpa using h1)]; exact hFE), hm.g⟩
 have h1 : FE = 0 := by simpa using hh
 clear hh
 refine gw_skip (nx_then (sr_ ?_))
 have h0 : fleetE sl cl vl pl = 0 := by rw [<- hFE]; simpa using h1
 have hrise := fleet_rise h0
 refine wl_ov (ov_loads rz62 rfl (fun _ hm => hm.blkI 0 rfl) rfl rfl) rfl ?_
 refine mv_ rfl ?_
 refine wl_callv (v := .int .i64 LE) rfl cb120 rfl rfl (fun wx hm => (by rw [hLE]; exact check_any sl vl sA cA vA pA sn sc cn cc vn vc pn pc el eA en ec wx (hm.fact 0 rfl).1 (hm.fact 2 rfl).1 hsok hsn hvn (hm.fact 4 rfl).1 heok hen hrise)) ?_
 refine sg_ rfl (nn_ ?_)
 refine gw_ret ?_
 refine nx_ret1 rfl rfl fun wx hm => ?_
 exact ⟨ret_int (by rw [evs_two h0]; exact hLE), hm.g⟩
end Go.Proofs.YtempjmpfdniecaaGreatDoor
namespace Go.Proofs.YtempjmpfdniecaaGreatDoor
open Go.RowKit
def kindsL : List ByteArray := [⟨#[]⟩, ⟨#[101, 110, 116, 101, 114]⟩, ⟨#[111, 117, 116]⟩, ⟨#[98, 97, 99, 107]⟩, ⟨#[115, 104, 111, 112]⟩, ⟨#[100, 111, 110, 101]⟩, ⟨#[108, 101, 97, 118, 101]⟩, ⟨#[99, 111, 109, 101]⟩, ⟨#[103, 111, 110, 101]⟩]
def kindW (k : Int) : ByteArray := (kindsL[k.toNat]?).getD ⟨#[]⟩
theorem kinds_at {k : Int} (h : 1 <= k /\ k <= 8) : kindsL[k.toNat]? = some (kindW k) := by
 have h2 : k.toNat < kindsL.length := by show k.toNat < 9; omega
 unfold kindW
 rw [List.getElem?_eq_getElem h2]; rfl
theorem kinds_sz : ∀ x ∈ kindsL, x.size <= 100 := by decide +kernel
theorem kindW_sz (k : Int) : (kindW k).size <= 100 := by
 unfold kindW
 cases h : kindsL[k.toNat]? with
 | none => show (0 : Nat) <= 100; omega
 | some x => exact kinds_sz x (List.mem_of_getElem? h)
def EvB (x : Ev) : Prop := x.veh.size <= 100 /\ x.sta.size <= 100 /\ x.to_.size <= 100 /\ (0 <= x.at_ /\ x.at_ <= 5761439) /\ (1 <= x.kd /\ x.kd <= 8)
theorem key_sz {s : ByteArray} (h : keyB s = true) : s.size <= 100 := by
 have e : s.size = s.data.toList.length := Array.length_toList.symm
 rw [e]
 unfold keyB at h
 cases hs : s.data.toList with
 | nil => exact Nat.zero_le _
 | cons c r =>
  rw [hs] at h
  unfold keyLB at h
  simp only [Bool.and_eq_true, decide_eq_true_eq] at h
  rw [List.length_cons]; omega
theorem sta_sz {sl : List St} (h : stationsE sl = 0) {k : ByteArray} (hk : sl.any (stP k) = true) : k.size <= 100 := by
 unfold stationsE at h
 split at h
 ·cases h
 ·obtain ⟨x, hx, hp⟩ := List.any_eq_true.1 hk
  obtain ⟨q, hq⟩ := scanE_all h x hx
  have e : x.key = k := bytes_ext (by unfold stP at hp; simpa using hp)
  unfold stationE at hq
  split at hq
  ·cases hq
  ·rename_i h1
   rw [<- e]
   exact key_sz (by simpa using h1)
theorem veh_sz {cl : List Cs} {vl : List Vh} (h : vehsE cl vl = 0) {k : ByteArray} (hk : 0 <= ixP (vhP k) vl 0) : k.size <= 100 := by
 unfold vehsE at h
 split at h
 ·cases h
 ·rcases ixP_spec (p := vhP k) vl 0 with ⟨h1, _⟩ | ⟨j, y, h1, hj, hp, _⟩
  ·omega
  ·have e : y.key = k := bytes_ext (by unfold vhP at hp; simpa using hp)
   rw [<- e]
   exact key_sz ((rise_of h).2.2 y (List.mem_of_getElem? hj)).1
theorem evB_of {sl : List St} {cl : List Cs} {vl : List Vh} {pl : List Pl} {el : List Ev} (h : evsE sl cl vl pl el = 0) : ∀ x ∈ el, EvB x := fun x hx => by
 obtain ⟨hf, hl⟩ := evs_ok h
 have hs : stationsE sl = 0 := fe_all hf _ (by simp)
 have hv : vehsE cl vl = 0 := fe_all hf _ (by simp)
 obtain ⟨_, hfine, _⟩ := log_ok hl
 obtain ⟨h1, h2, h3, h4, _⟩ := hfine x hx
 refine ⟨veh_sz hv h2, sta_sz hs h3, ?_, h1, h4⟩
 unfold logE at hl
 split at hl
 ·cases hl
 ·obtain ⟨q, hq⟩ := scanE_all hl x hx
  unfold evE at hq
  repeat (split at hq; · cases hq)
  rename_i k1 k2 k3 k4 k5 k6 k7
  by_cases h6 : x.kd = 6
  ·rw [decide_eq_true h6, Bool.true_and] at k5
   exact sta_sz hs (by simpa using k5)
  ·rw [decide_eq_false h6, Bool.not_false, Bool.true_and] at k4
   have e : x.to_ = ⟨#[]⟩ := bytes_ext (by simpa using k4)
   rw [e]; exact Nat.zero_le _
def lgParts (x : Ev) : List ByteArray := [itoaS x.at_, x.veh, kindW x.kd, x.sta]
def lgJ (x : Ev) : ByteArray := joinS (lgParts x) ⟨#[32]⟩
def lgTo (x : Ev) : ByteArray := if x.kd = 6 then (⟨#[32]⟩ : ByteArray) ++ x.to_ else ⟨#[]⟩
def lgLn (x : Ev) : ByteArray := (lgJ x ++ lgTo x) ++ (⟨#[10]⟩ : ByteArray)
def lgTxL (l : List Ev) : List UInt8 := l.flatMap fun x => (lgLn x).data.toList
def lgTx (l : List Ev) : ByteArray := ⟨(lgTxL l).toArray⟩
theorem ba_nil (a : ByteArray) : a ++ (⟨#[]⟩ : ByteArray) = a := ba_eq (by rw [ByteArray.data_append, Array.toList_append]; simp)
theorem lgLn_go {x : Ev} (h : ¬ x.kd = 6) : lgLn x = lgJ x ++ (⟨#[10]⟩ : ByteArray) := by
 unfold lgLn lgTo; rw [if_neg h, ba_nil]
theorem lgLn_six {x : Ev} (h : x.kd = 6) : lgLn x = (lgJ x ++ ((⟨#[32]⟩ : ByteArray) ++ x.to_)) ++ (⟨#[10]⟩ : ByteArray) := by
 unfold lgLn lgTo; rw [if_pos h]
theorem lgTxL_at {l : List Ev} {i : Nat} {x : Ev} (h : l[i]? = some x) : lgTxL (l.take (i + 1)) = lgTxL (l.take i) ++ (lgLn x).data.toList := by
 unfold lgTxL
 rw [List.take_add_one, h, Option.toList_some, List.flatMap_append]; simp
theorem lgTx_at {l : List Ev} {i : Nat} {x : Ev} (h : l[i]? = some x) : lgTx (l.take (i + 1)) = lgTx (l.take i) ++ lgLn x := by
 refine ba_eq ?_
 rw [ByteArray.data_append, Array.toList_append]
 unfold lgTx
 simp [lgTxL_at h]
theorem ev_i64 {x : Ev} (h : EvB x) : -9223372036854775808 <= x.at_ /\ x.at_ <= 9223372036854775807 := by
 obtain ⟨_, _, _, h1, _⟩ := h; omega
theorem lgParts_sz {x : Ev} (h : EvB x) : ∀ y ∈ lgParts x, y.size <= 100 := fun y hy => by
 have e := itoa_sz (ev_i64 h)
 obtain ⟨s0, s1, _⟩ := h
 have k := kindW_sz x.kd
 unfold lgParts at hy
 simp only [List.mem_cons, List.not_mem_nil, or_false] at hy
 rcases hy with rfl | rfl | rfl | rfl <;> omega
theorem lgJ_sz {x : Ev} (h : EvB x) : (lgJ x).size <= 404 := by
 have h1 := join_len (sep := ⟨#[32]⟩) (lgParts_sz h)
 have h2 : (lgParts x).length * ((⟨#[32]⟩ : ByteArray).size + 100) = 404 := by
  show 4 * (1 + 100) = 404
  decide
 unfold lgJ
 omega
theorem lgLn_sz {x : Ev} (h : EvB x) : (lgLn x).size <= 600 := by
 have h1 := lgJ_sz h
 have h2 := h.2.2.1
 have h3 : (⟨#[10]⟩ : ByteArray).size = 1 := rfl
 have h4 : (⟨#[32]⟩ : ByteArray).size = 1 := rfl
 by_cases h6 : x.kd = 6
 ·rw [lgLn_six h6, ByteArray.size_append, ByteArray.size_append, ByteArray.size_append]; omega
 ·rw [lgLn_go h6, ByteArray.size_append]; omega
theorem lgTxL_len {l : List Ev} (h : ∀ x ∈ l, EvB x) : (lgTxL l).length <= l.length * 600 := by
 induction l with
 | nil => exact Nat.le_refl _
 | cons x r ih =>
  have h1 := ih fun y hy => h y (List.mem_cons_of_mem _ hy)
  have h2 := lgLn_sz (h x (List.mem_cons_self ..))
  have e : lgTxL (x :: r) = (lgLn x).data.toList ++ lgTxL r := rfl
  rw [e, List.length_append, dl_size, List.length_cons]
  omega
theorem lgTx_sz {l : List Ev} (h : ∀ x ∈ l, EvB x) : (lgTx l).size <= l.length * 600 := by
 unfold lgTx; rw [sz_mk]; exact lgTxL_len h
theorem lg_take {l : List Ev} (h : ∀ x ∈ l, EvB x) (i : Nat) : ∀ x ∈ l.take i, EvB x := fun x hx => h x (List.mem_of_mem_take hx)
def lgPts (x : Ev) : List Pt := [.n x.at_, .s x.veh, .s (kindW x.kd), .s x.sta]
theorem lgPts_ok {x : Ev} (h : EvB x) : ∀ y ∈ lgPts x, PtOk y := fun y hy => by
 have hi := ev_i64 h
 have k := kindW_sz x.kd
 obtain ⟨s0, s1, _⟩ := h
 unfold lgPts at hy
 simp only [List.mem_cons, List.not_mem_nil, or_false] at hy
 rcases hy with rfl | rfl | rfl | rfl
 ·exact hi
 ·show x.veh.size <= 1000000; omega
 ·show (kindW x.kd).size <= 1000000; omega
 ·show x.sta.size <= 1000000; omega
theorem cells_two {l : List UInt8} {a b : ByteArray} : Lib.byteCells l ++ Lib.strCells a ++ Lib.strCells b = Lib.byteCells (l ++ (a ++ b).data.toList) := by
 rw [cells_app, cells_app, ByteArray.data_append, Array.toList_append, List.append_assoc]
theorem cells_three {l : List UInt8} {a b c : ByteArray} : Lib.byteCells l ++ Lib.strCells a ++ Lib.strCells b ++ Lib.strCells c = Lib.byteCells (l ++ (a ++ b ++ c).data.toList) := by
 rw [cells_two, cells_app]
 simp only [ByteArray.data_append, Array.toList_append, List.append_assoc]
def kixV (k : ByteArray) : Int := ixP (eqP k) kindsL 0
theorem kix_bd (k : ByteArray) : -1 <= kixV k /\ kixV k <= 8 := by
 have h := ixP_bound (p := eqP k) kindsL
 have h9 : kindsL.length = 9 := rfl
 unfold kixV
 omega
def lgW (a0 a2 : ByteArray) (n : Nat) : Bool := numB a0 && decide (1 <= kixV a2) && decide (n = if kixV a2 = 6 then 5 else 4)
def lgRd (l : List ByteArray) : Option Ev := match l with
 | a0 :: a1 :: a2 :: a3 :: r => if lgW a0 a2 (4 + r.length) = true then some ⟨numV a0, a1, a3, kixV a2, r.headD ⟨#[]⟩⟩ else none
 | _ => none
def lgRdO (t : ByteArray) : Option Ev := if wdB t = true then lgRd (wdL t) else none
def lgRdB (t : ByteArray) : Bool := (lgRdO t).isSome
def lgRdA (t : ByteArray) (acc : List Ev) : List Ev := acc ++ (lgRdO t).toList
def lgStep (t : ByteArray) (acc : List Ev) : List Ev × Bool := (lgRdA t acc, lgRdB t)
theorem lg_four {l : List ByteArray} (h : 4 <= l.length) : ∃ a0 a1 a2 a3 r, l = a0 :: a1 :: a2 :: a3 :: r := by
 match l, h with
 | a0 :: a1 :: a2 :: a3 :: r, _ => exact ⟨a0, a1, a2, a3, r, rfl⟩
theorem lg_none {t : ByteArray} {acc : List Ev} (h : lgRdO t = none) : lgRdA t acc = acc /\ lgRdB t = false := by
 unfold lgRdA lgRdB; rw [h]; exact ⟨List.append_nil _, rfl⟩
theorem lg_some {t : ByteArray} {acc : List Ev} {x : Ev} (h : lgRdO t = some x) : lgRdA t acc = acc ++ [x] /\ lgRdB t = true := by
 unfold lgRdA lgRdB; rw [h]; exact ⟨rfl, rfl⟩
theorem lg_wd {t : ByteArray} (h : (!wdB t) = true) : lgRdO t = none := by
 unfold lgRdO
 cases hb : wdB t with
 | false => rfl
 | true => rw [hb] at h; cases h
theorem lg_short {t : ByteArray} (h : ¬ 4 <= (wdL t).length) : lgRdO t = none := by
 unfold lgRdO
 split
 ·unfold lgRd
  split
  ·rename_i e; rw [e] at h; simp at h
  ·rfl
 ·rfl
theorem lg_bad {t a0 a1 a2 a3 : ByteArray} {r : List ByteArray} (hw : wdL t = a0 :: a1 :: a2 :: a3 :: r) (h : lgW a0 a2 (4 + r.length) = false) : lgRdO t = none := by
 unfold lgRdO
 split
 ·rw [hw]
  show (if lgW a0 a2 (4 + r.length) = true then _ else none) = none
  rw [if_neg (by rw [h]; decide)]
 ·rfl
theorem lg_good {t a0 a1 a2 a3 : ByteArray} {r : List ByteArray} (hb : (!wdB t) = false) (hw : wdL t = a0 :: a1 :: a2 :: a3 :: r) (h : lgW a0 a2 (4 + r.length) = true) : lgRdO t = some ⟨numV a0, a1, a3, kixV a2, r.headD ⟨#[]⟩⟩ := by
 unfold lgRdO
 rw [if_pos (by simpa using hb), hw]
 show (if lgW a0 a2 (4 + r.length) = true then _ else none) = _
 rw [if_pos h]
theorem nd_lt : ∀ (k u : Nat), (Lib.decDigits u).length <= k + 1 -> u < 10 ^ (k + 1)
 | 0, u, h => by
  by_cases h1 : u < 10
  ·simpa using h1
  ·rw [Lib.decDigits_length, Lib.nDigits_big h1] at h
   have h2 : (Lib.decDigits (u / 10)).length = Lib.nDigits (u / 10) := Lib.decDigits_length _
   have h3 : Lib.decDigits (u / 10) ≠ [] := (dec_dig _).2
   have h4 : (Lib.decDigits (u / 10)).length ≠ 0 := fun e => h3 (List.eq_nil_of_length_eq_zero e)
   omega
 | k + 1, u, h => by
  by_cases h1 : u < 10
  ·have h9 : 0 < 10 ^ (k + 1) := Nat.pow_pos (by decide)
   rw [Nat.pow_succ]; omega
  ·rw [Lib.decDigits_length, Lib.nDigits_big h1] at h
   have h2 := nd_lt k (u / 10) (by rw [Lib.decDigits_length]; omega)
   rw [Nat.div_lt_iff_lt_mul (by decide)] at h2
   rw [Nat.pow_succ]; exact h2
theorem numV_bd {s : ByteArray} (h : numB s = true) : -1000000000 <= numV s /\ numV s <= 1000000000 := by
  unfold numB at h
  unfold numV
  split at h
  · rename_i v hv
    show -1000000000 <= v /\ v <= 1000000000
    simp only [Bool.and_eq_true, decide_eq_true_eq] at h
    obtain ⟨h1, h2⟩ := h
    have h1 : Lib.itoa v = s.data.toList := by simpa using h1
    rw [<- h1] at h2
    unfold Lib.itoa at h2
    split at h2
    · have h3 : Lib.trimPrefix (45 :: Lib.decDigits v.natAbs) [45] = Lib.decDigits v.natAbs := rfl
      rw [h3] at h2
      have := nd_lt 8 _ h2
      omega
    · have h4 : (Lib.decDigits v.toNat).length <= 9 := by
        have h5 : Lib.trimPrefix (Lib.decDigits v.toNat) [45] = Lib.decDigits v.toNat := by
          cases hd : Lib.decDigits v.toNat with
          | nil => rfl
          | cons c r =>
            have h6 := (dec_dig v.toNat).1
            rw [hd, List.all_cons, Bool.and_eq_true] at h6
            have h7 : (c == 45) = false := by
              cases hc : c == 45 with
              | false => rfl
              | true =>
                have : c = 45 := by simpa using hc
                subst this
                exact absurd h6.1 (by decide)
            have h8 : Lib.hasPrefix (c :: r) [45] = false := by
              show ((45 : UInt8) == c && List.isPrefixOf [] r) = false
              rw [show ((45 : UInt8) == c) = (c == 45) from by rw [Bool.eq_iff_iff]; simp only [beq_iff_eq]; exact eq_comm, h7]; rfl
            unfold Lib.trimPrefix
            rw [h8]; rfl
        rw [h5] at h2; exact h2
      have := nd_lt 8 _ h4
      omega
  · cases h
  · cases h
theorem lgRd_ok {t : ByteArray} (ht : t.size <= 1000000) {x : Ev} (h : lgRdO t = some x) : EvOk x := by
 have hz := wdL_sz t
 unfold lgRdO at h
 split at h
 ·generalize wdL t = l at h hz
  unfold lgRd at h
  split at h
  ·rename_i a0 a1 a2 a3 r
   split at h
   ·rename_i hW
    obtain rfl := (Option.some.inj h)
    unfold lgW at hW
    simp only [Bool.and_eq_true] at hW
    have hn := numV_bd hW.1.1
    have hk := kix_bd a2
    refine ⟨by dsimp only; omega, by dsimp only; omega, Nat.le_trans (hz a1 (by simp)) ht, Nat.le_trans (hz a3 (by simp)) ht, ?_⟩
    cases r with
    | nil => exact Nat.zero_le _
    | cons b q => exact Nat.le_trans (hz b (by simp)) ht
   ·cases h
  ·cases h
 ·cases h
theorem lgRdA_len (t : ByteArray) (acc : List Ev) : (lgRdA t acc).length <= acc.length + 1 := by
 unfold lgRdA
 rw [List.length_append]
 cases lgRdO t <;> simp
theorem lgOwn_n {w : World} {base n : Nat} {e : TypeId} {v : Value} {l : List Ev} (h : w.ownsRow base e 5 v n (l.flatMap evEnc)) : n = l.length := by
 have h1 : (l.flatMap evEnc).length = n * 5 := h.1
 rw [flat_len evEnc 5 ev_len] at h1
 omega
theorem lgStep_ok (t : ByteArray) (acc : List Ev) (ht : t.size <= 200000) (h : ∀ b ∈ acc, EvOk b) : (∀ b ∈ (lgStep t acc).1, EvOk b) /\ (lgStep t acc).1.length <= acc.length + 1 := by
 refine ⟨fun b hb => ?_, lgRdA_len t acc⟩
 have hb : b ∈ lgRdA t acc := hb
 unfold lgRdA at hb
 rcases List.mem_append.1 hb with hb | hb
 ·exact h b hb
 ·cases ho : lgRdO t with
  | none => rw [ho] at hb; cases hb
  | some x =>
   rw [ho, Option.toList_some, List.mem_singleton] at hb
   rw [hb]; exact lgRd_ok (by omega) ho
def lgR (t : ByteArray) : Int × Bool × List Ev := linesR lgStep [] t
theorem lgR_all {t : ByteArray} (ht : t.size <= 200000) : (∀ b ∈ (lgR t).2.2, EvOk b) /\ (lgR t).2.2.length <= t.size := by
 have h := linesR_all (Q := fun l => ∀ b ∈ l, EvOk b) (ms := List.length) (M := 200000) lgStep_ok ht (st := []) (fun _ hb => by cases hb)
 exact ⟨h.1, by have := h.2; rw [List.length_nil, Nat.zero_add] at this; exact this⟩
def lgE (sl : List St) (vl : List Vh) (t : ByteArray) : Int := if 200000 < t.size then 2 else if (lgR t).2.1 = false then 9 else logE sl vl (lgR t).2.2
def lgAt (t : ByteArray) : Int := if 200000 < t.size then 0 else if (lgR t).2.1 = false then (lgR t).1 else 0
def lgL (sl : List St) (vl : List Vh) (t : ByteArray) : List Ev := if 200000 < t.size then [] else if (lgR t).2.1 = false then [] else if logE sl vl (lgR t).2.2 = 0 then (lgR t).2.2 else []
section
variable {sl : List St} {vl : List Vh} {t : ByteArray}
theorem lg_big (h : 200000 < t.size) : lgE sl vl t = 2 /\ lgAt t = 0 /\ lgL sl vl t = [] := by unfold lgE lgAt lgL; simp [h]
theorem lg_syn (h : ¬ 200000 < t.size) (h2 : (lgR t).2.1 = false) : lgE sl vl t = 9 /\ lgAt t = (lgR t).1 /\ lgL sl vl t = [] := by unfold lgE lgAt lgL; simp [h, h2]
theorem lg_form (h : ¬ 200000 < t.size) (h2 : (lgR t).2.1 = true) (h3 : ¬ logE sl vl (lgR t).2.2 = 0) : lgE sl vl t = logE sl vl (lgR t).2.2 /\ lgAt t = 0 /\ lgL sl vl t = [] := by unfold lgE lgAt lgL; simp [h, h2, h3]
theorem lg_right (h : ¬ 200000 < t.size) (h2 : (lgR t).2.1 = true) (h3 : logE sl vl (lgR t).2.2 = 0) : lgE sl vl t = 0 /\ lgAt t = 0 /\ lgL sl vl t = (lgR t).2.2 := by unfold lgE lgAt lgL; simp [h, h2, h3]
end
def lgReadK (sl : List St) (vl : List Vh) (t : ByteArray) (w : World) (e : Ending) (w' : World) : Prop := ∃ A n c, e = .returned (.tuple #[.slice A n c, .int .i64 (lgAt t), .int .i64 (lgE sl vl t)]) /\ SlT evEnc 5 45 w' A n (lgL sl vl t) /\ w.grownBy w' none
theorem lgReadK.nil {sl : List St} {vl : List Vh} {t : ByteArray} {w w' : World} {N E : Int} (h : lgE sl vl t = E /\ lgAt t = N /\ lgL sl vl t = []) (hg : w.grownBy w' none) : lgReadK sl vl t w (.returned (.tuple #[.slice none 0 0, .int .i64 N, .int .i64 E])) w' :=
 ⟨none, 0, 0, by rw [h.1, h.2.1], by rw [h.2.2]; exact SlT.nil_ w' none, hg⟩
end Go.Proofs.YtempjmpfdniecaaGreatDoor
namespace Go.Proofs.YtempjmpfdniecaaGreatDoor
open Go.RowKit
def EvK (x : Ev) : Prop := GoodW x.veh /\ GoodW x.sta /\ (0 <= x.at_ /\ x.at_ <= 5761439) /\ (1 <= x.kd /\ x.kd <= 8) /\ (x.kd = 6 -> GoodW x.to_) /\ (¬ x.kd = 6 -> x.to_ = ⟨#[]⟩)
theorem sta_good {sl : List St} (h : stationsE sl = 0) {k : ByteArray} (hk : sl.any (stP k) = true) : GoodW k := by
 unfold stationsE at h
 split at h
 ·cases h
 ·obtain ⟨x, hx, hp⟩ := List.any_eq_true.1 hk
  obtain ⟨q, hq⟩ := scanE_all h x hx
  have e : x.key = k := bytes_ext (by unfold stP at hp; simpa using hp)
  unfold stationE at hq
  split at hq
  ·cases hq
  ·rename_i h1
   rw [<- e]
   exact (key_good (by simpa using h1)).1
theorem veh_good {cl : List Cs} {vl : List Vh} (h : vehsE cl vl = 0) {k : ByteArray} (hk : 0 <= ixP (vhP k) vl 0) : GoodW k := by
 unfold vehsE at h
 split at h
 ·cases h
 ·rcases ixP_spec (p := vhP k) vl 0 with ⟨h1, _⟩ | ⟨j, y, h1, hj, hp, _⟩
  ·omega
  ·have e : y.key = k := bytes_ext (by unfold vhP at hp; simpa using hp)
   rw [<- e]
   exact (key_good ((rise_of h).2.2 y (List.mem_of_getElem? hj)).1).1
theorem evK_of {sl : List St} {cl : List Cs} {vl : List Vh} {pl : List Pl} {el : List Ev} (h : evsE sl cl vl pl el = 0) : ∀ x ∈ el, EvK x := fun x hx => by
 obtain ⟨hf, hl⟩ := evs_ok h
 have hs : stationsE sl = 0 := fe_all hf _ (by simp)
 have hv : vehsE cl vl = 0 := fe_all hf _ (by simp)
 obtain ⟨_, hfine, _⟩ := log_ok hl
 obtain ⟨h1, h2, h3, h4, _⟩ := hfine x hx
 refine ⟨veh_good hv h2, sta_good hs h3, h1, h4, ?_⟩
 unfold logE at hl
 split at hl
 ·cases hl
 ·obtain ⟨q, hq⟩ := scanE_all hl x hx
  unfold evE at hq
  repeat (split at hq; · cases hq)
  rename_i k1 k2 k3 k4 k5 k6 k7
  refine ⟨fun h6 => ?_, fun h6 => ?_⟩
  ·rw [decide_eq_true h6, Bool.true_and] at k5
   exact sta_good hs (by simpa using k5)
  ·rw [decide_eq_false h6, Bool.not_false, Bool.true_and] at k4
   exact bytes_ext (by simpa using k4)
theorem kind_ok {k : Int} (h : 1 <= k /\ k <= 8) : GoodW (kindW k) /\ kixV (kindW k) = k := by
 unfold GoodW
 rcases (by omega : k = 1 ∨ k = 2 ∨ k = 3 ∨ k = 4 ∨ k = 5 ∨ k = 6 ∨ k = 7 ∨ k = 8) with rfl | rfl | rfl | rfl | rfl | rfl | rfl | rfl <;> decide +kernel
def lgPs (x : Ev) : List ByteArray := if x.kd = 6 then [itoaS x.at_, x.veh, kindW x.kd, x.sta, x.to_] else [itoaS x.at_, x.veh, kindW x.kd, x.sta]
def lgC (x : Ev) : ByteArray := joinS (lgPs x) ⟨#[32]⟩
theorem lg_it {x : Ev} (h : EvK x) : lgRdO (lgC x) = some x /\ (10 : UInt8) ∉ (lgC x).data.toList /\ (lgC x).data.toList ++ [10] = (lgLn x).data.toList := by
 obtain ⟨a, v, s, k, t⟩ := x
 obtain ⟨hv, hs, ha, hk, h6, h7⟩ := h
 dsimp only at hv hs ha hk h6 h7
 obtain ⟨k1, k2⟩ := kind_ok hk
 have hn := num_back (v := a) (by omega)
 by_cases e : k = 6
 ·have ht := h6 e
  have hp : lgPs ⟨a, v, s, k, t⟩ = [itoaS a, v, kindW k, s, t] := if_pos e
  obtain ⟨w1, w2, w3⟩ := line_wd (ws := [itoaS a, v, kindW k, s, t]) (by simp) fun y hy => by
   simp only [List.mem_cons, List.not_mem_nil, or_false] at hy
   rcases hy with rfl | rfl | rfl | rfl | rfl
   ·exact itoa_good _
   ·exact hv
   ·exact k1
   ·exact hs
   ·exact ht
  unfold lgC
  rw [hp]
  refine ⟨?_, w3, ?_⟩
  ·rw [lg_good (by rw [w2]; rfl) w1 (by unfold lgW; rw [hn.1, k2, e]; rfl), hn.2, k2]; rfl
  ·rw [lgLn_six (x := ⟨a, v, s, k, t⟩) e]
   unfold lgJ lgParts joinS
   simp [Lib.join_cons, Lib.joinTail]
 ·have ht := h7 e
  subst ht
  have hp : lgPs ⟨a, v, s, k, ⟨#[]⟩⟩ = [itoaS a, v, kindW k, s] := if_neg e
  obtain ⟨w1, w2, w3⟩ := line_wd (ws := [itoaS a, v, kindW k, s]) (by simp) fun y hy => by
   simp only [List.mem_cons, List.not_mem_nil, or_false] at hy
   rcases hy with rfl | rfl | rfl | rfl
   ·exact itoa_good _
   ·exact hv
   ·exact k1
   ·exact hs
  unfold lgC
  rw [hp]
  refine ⟨?_, w3, ?_⟩
  ·rw [lg_good (by rw [w2]; rfl) w1 (by unfold lgW; rw [hn.1, k2, decide_eq_true hk.1, if_neg e]; rfl), hn.2, k2]; rfl
  ·rw [lgLn_go (x := ⟨a, v, s, k, ⟨#[]⟩⟩) e, ln_nl]; rfl
theorem run_lg : ∀ (l acc : List Ev), (∀ x ∈ l, EvK x) -> runL lgStep (l.map lgC) acc = some (acc ++ l)
 | [], acc, _ => by simp [runL]
 | x :: l, acc, h => by
  obtain ⟨h1, h2⟩ := lg_some (acc := acc) (lg_it (h x (List.mem_cons_self ..))).1
  rw [List.map_cons]
  unfold runL
  rw [show lgStep (lgC x) acc = (acc ++ [x], true) from Prod.ext h1 h2, if_pos rfl]
  refine (run_lg l _ fun y hy => h y (List.mem_cons_of_mem _ hy)).trans ?_
  simp
theorem log_back {l : List Ev} (h : ∀ x ∈ l, EvK x) : lgR (lgTx l) = (0, true, l) := by
 have e : lnT (l.map lgC) = lgTxL l := lnT_map fun x hx => (lg_it (h x hx)).2.2
 show lgR (mkB (lgTxL l)) = _
 rw [<- e]
 unfold lgR linesR
 refine lines_run (l.map lgC) _ _ _ _ (fun c hc => ?_) (run_lg l [] h) (by rw [mkB_sz]; omega)
 obtain ⟨x, hx, rfl⟩ := List.mem_map.1 hc
 exact (lg_it (h x hx)).2.1
theorem lg_back {sl : List St} {cl : List Cs} {vl : List Vh} {pl : List Pl} {el : List Ev} (h : evsE sl cl vl pl el = 0) (hz : (lgTx el).size <= 200000) : lgE sl vl (lgTx el) = 0 /\ lgL sl vl (lgTx el) = el := by
 have hR := log_back (evK_of h)
 have hl := (evs_ok h).2
 have h2 : ¬ 200000 < (lgTx el).size := by omega
 unfold lgE lgL
 rw [if_neg h2, if_neg h2, hR]
 exact ⟨by simpa using hl, by simp [hl]⟩
end Go.Proofs.YtempjmpfdniecaaGreatDoor
namespace Go.Proofs.YtempjmpfdniecaaGreatDoor
open Go.RowKit
theorem kinds_any (w : World) : Calls Tryz.prog 116 #[] w (fun e w' => ∃ g : Nat, e = .returned (.slice (some ⟨g, 0, none⟩) 9 9) /\ SlT sgEnc 1 9 w' (some ⟨g, 0, none⟩) 9 kindsL /\ w.grownBy w' none) := by
 refine gw_enter ⟨2, w, none, []⟩ Tryz.func116 rfl Tryz.ntmps116 rfl (mem0 (X := []) allF_nil allL_nil) ?_
 refine sr_ (sg_ rfl (nn_ (sr_ ?_)))
 refine wl_buildSlice (e := 9) (cs := [.string ⟨#[]⟩, .string ⟨#[101, 110, 116, 101, 114]⟩, .string ⟨#[111, 117, 116]⟩, .string ⟨#[98, 97, 99, 107]⟩, .string ⟨#[115, 104, 111, 112]⟩, .string ⟨#[100, 111, 110, 101]⟩, .string ⟨#[108, 101, 97, 118, 101]⟩, .string ⟨#[99, 111, 109, 101]⟩, .string ⟨#[103, 111, 110, 101]⟩]) rfl (by kernel_rfl) rfl fun g1 => ?_
 refine sg_ rfl (nn_ ?_)
 refine gw_ret ?_
 refine nx_ret1 rfl rfl fun wx hm => ?_
 exact ⟨_, rfl, SlT.ofBlk (l := kindsL) sg_len (hm.blkI 0 rfl), hm.g⟩
theorem lgText_bad (sl : List St) (cl : List Cs) (vl : List Vh) (pl : List Pl) (sA cA vA pA : Option Addr) (sn sc cn cc vn vc pn pc : Nat) (l : List Ev) (A : Option Addr) (n c : Nat) (w : World) (hs : SlT stEnc 15 152 w sA sn sl) (hc : SlT csEnc 2 158 w cA cn cl) (hv : SlT vhEnc 2 160 w vA vn vl) (hp : SlT plEnc 3 162 w pA pn pl) (hsok : ∀ x ∈ sl, StOk x) (hcok : ∀ x ∈ cl, CsOk x) (hvok : ∀ x ∈ vl, VhOk x) (hpok : ∀ x ∈ pl, PlOk x) (hsn : sn <= 1000000) (hcn : cn <= 1000000) (hvn : vn <= 1000000) (hpn : pn <= 1000000) (hl : SlT evEnc 5 45 w A n l) (hok : ∀ x ∈ l, EvOk x) (hn : n <= 10) (h0 : evsE sl cl vl pl l ≠ 0) :
  Calls Tryz.prog 30 #[.agg #[.slice sA sn sc, .slice cA cn cc, .slice vA vn vc, .slice pA pn pc], .slice A n c] w (fun e w' => e = .returned (.tuple #[.string ⟨#[]⟩, .int .i64 (evsE sl cl vl pl l)]) /\ w.grownBy w' none) := by
 refine gw_enter ⟨53, w, none, []⟩ Tryz.func30 rfl Tryz.ntmps30 rfl (mem0 (X := [SlOld stEnc 15 152 w.heap.size none sA sn sl, SlOld csEnc 2 158 w.heap.size none cA cn cl, SlOld vhEnc 2 160 w.heap.size none vA vn vl, SlOld plEnc 3 162 w.heap.size none pA pn pl, SlOld evEnc 5 45 w.heap.size none A n l]) (allF_cons hs.old (allF_cons hc.old (allF_cons hv.old (allF_cons hp.old (allF_cons hl.old allF_nil))))) (allL_cons SlOld.lasts (allL_cons SlOld.lasts (allL_cons SlOld.lasts (allL_cons SlOld.lasts (allL_cons SlOld.lasts allL_nil)))))) ?_
 refine sr_ ?_
 obtain ⟨FE, hFE⟩ : ∃ z, z = evsE sl cl vl pl l := ⟨_, rfl⟩
 rw [<- hFE] at h0 ⊢
 refine wl_box rfl rfl rfl fun g1 => ?_
 refine sg_ rfl (sg_ rfl (nn_ (gw_seq (sr_ ?_))))
 refine wl_ov (ov_loads rz62 rfl (fun _ hm => hm.blkI 0 rfl) rfl rfl) rfl ?_
 refine mv_ rfl ?_
 refine wl_callv (v := .int .i64 FE) rfl cb115 rfl rfl (fun wx hm => (by rw [hFE]; exact check2_any sl cl vl pl sA cA vA pA sn sc cn cc vn vc pn pc l A n c wx (hm.fact 0 rfl).1 (hm.fact 1 rfl).1 (hm.fact 2 rfl).1 (hm.fact 3 rfl).1 hsok hcok hvok hpok hsn hcn hvn hpn (hm.fact 4 rfl).1 hok (by omega))) ?_
 refine sg_ rfl (nn_ (sr_ (mv_ rfl (wl_ov (ov_neq rfl rfl) rfl (nn_ ?_)))))
 refine gw_cond rfl (fun hh => ?_) (fun hh => ?_)
 ·have h1 : ¬ (FE = 0) := by simpa using hh
  clear hh
  refine sr_ (mv_ rfl (sg_ rfl (sg_ rfl (nn_ ?_))))
  refine gw_ret ?_
  refine nx_then_ret ?_
  refine nx_ret2 rfl rfl rfl fun wx hm => ?_
  exact ⟨rfl, hm.g⟩
 have h1 : FE = 0 := by simpa using hh
 clear hh
 refine gw_skip (nx_then (sr_ ?_))
 exact absurd (by simpa using h1) h0
theorem lgText_right (sl : List St) (cl : List Cs) (vl : List Vh) (pl : List Pl) (sA cA vA pA : Option Addr) (sn sc cn cc vn vc pn pc : Nat) (l : List Ev) (A : Option Addr) (n c : Nat) (w : World) (hs : SlT stEnc 15 152 w sA sn sl) (hc : SlT csEnc 2 158 w cA cn cl) (hv : SlT vhEnc 2 160 w vA vn vl) (hp : SlT plEnc 3 162 w pA pn pl) (hsok : ∀ x ∈ sl, StOk x) (hcok : ∀ x ∈ cl, CsOk x) (hvok : ∀ x ∈ vl, VhOk x) (hpok : ∀ x ∈ pl, PlOk x) (hsn : sn <= 1000000) (hcn : cn <= 1000000) (hvn : vn <= 1000000) (hpn : pn <= 1000000) (hl : SlT evEnc 5 45 w A n l) (hok : ∀ x ∈ l, EvOk x) (hn : n <= 10) (ht : TxtW w) (h0 : evsE sl cl vl pl l = 0) :
  Calls Tryz.prog 30 #[.agg #[.slice sA sn sc, .slice cA cn cc, .slice vA vn vc, .slice pA pn pc], .slice A n c] w (fun e w' => e = .returned (.tuple #[.string (lgTx l), .int .i64 0]) /\ w.grownBy w' none) := by
 refine gw_enter ⟨53, w, none, [9]⟩ Tryz.func30 rfl Tryz.ntmps30 rfl (mem0 (X := [SlOld stEnc 15 152 w.heap.size none sA sn sl, SlOld csEnc 2 158 w.heap.size none cA cn cl, SlOld vhEnc 2 160 w.heap.size none vA vn vl, SlOld plEnc 3 162 w.heap.size none pA pn pl, SlOld evEnc 5 45 w.heap.size none A n l, TxtO w.heap.size none]) (allF_cons hs.old (allF_cons hc.old (allF_cons hv.old (allF_cons hp.old (allF_cons hl.old (allF_cons ht.old allF_nil)))))) (allL_cons SlOld.lasts (allL_cons SlOld.lasts (allL_cons SlOld.lasts (allL_cons SlOld.lasts (allL_cons SlOld.lasts (allL_cons TxtO.lasts allL_nil))))))) ?_
 refine sr_ ?_
 have hlen := hl.len
 have hB := evB_of h0
 obtain ⟨FE, hFE⟩ : ∃ z, z = evsE sl cl vl pl l := ⟨_, rfl⟩
 have hF0 : FE = 0 := hFE.trans h0
 refine wl_box rfl rfl rfl fun g1 => ?_
 refine sg_ rfl (sg_ rfl (nn_ (gw_seq (sr_ ?_))))
 refine wl_ov (ov_loads rz62 rfl (fun _ hm => hm.blkI 0 rfl) rfl rfl) rfl ?_
 refine mv_ rfl ?_
 refine wl_callv (v := .int .i64 FE) rfl cb115 rfl rfl (fun wx hm => (by rw [hFE]; exact check2_any sl cl vl pl sA cA vA pA sn sc cn cc vn vc pn pc l A n c wx (hm.fact 0 rfl).1 (hm.fact 1 rfl).1 (hm.fact 2 rfl).1 (hm.fact 3 rfl).1 hsok hcok hvok hpok hsn hcn hvn hpn (hm.fact 4 rfl).1 hok (by omega))) ?_
 refine sg_ rfl (nn_ (sr_ (mv_ rfl (wl_ov (ov_neq rfl rfl) rfl (nn_ ?_)))))
 refine gw_cond rfl (fun hh => ?_) (fun hh => ?_)
 ·have h1 : ¬ (FE = 0) := by simpa using hh
  clear hh
  refine sr_ ?_
  exact absurd hF0 (by simpa using h1)
 have h1 : FE = 0 := by simpa using hh
 clear hh
 refine gw_skip (nx_then (sr_ ?_))
 refine wl_alloc zc128 rfl fun g2 => ?_
 refine nn_ (gw_seq (sr_ (mv_ rfl (wl_ov (ov_len es39 rfl) rfl (mv_ rfl (nn_ (gw_block ?_)))))))
 refine gw_nilOwn 5 1 ?_
 refine gw_loop (γ := Nat × Value × Value) (fun (gz : Nat × Value × Value) => gz.1 <= n /\ (gz.2.1 = .pointer none ∨ gz.2.1 = .pointer (some ⟨g2, 0, none⟩))) (fun (gz : Nat × Value × Value) => [(4, .string ⟨#[]⟩), (5, .int .i64 0), (7, .pointer (some ⟨g2, 0, none⟩)), (16, .slice A n c), (17, .int .i64 ((n : Nat) : Int)), (18, .int .i64 ((gz.1 : Nat) : Int))]) (fun (gz : Nat × Value × Value) => fun _ => True) (fun (gz : Nat × Value × Value) => [(g2, 128, [gz.2.1, gz.2.2])]) (fun (gz : Nat × Value × Value) => [⟨gz.2.2, 5, 1, (Lib.byteCells (lgTxL (l.take gz.1))).length, (Lib.byteCells (lgTxL (l.take gz.1)))⟩]) (fun (gz : Nat × Value × Value) => [SlOld stEnc 15 152 w.heap.size none sA sn sl, SlOld csEnc 2 158 w.heap.size none cA cn cl, SlOld vhEnc 2 160 w.heap.size none vA vn vl, SlOld plEnc 3 162 w.heap.size none pA pn pl, SlOld evEnc 5 45 w.heap.size none A n l, TxtO w.heap.size none]) (fun (gz : Nat × Value × Value) => n - gz.1) (0, .pointer none, .slice none 0 0) ⟨Nat.zero_le _, .inl rfl⟩ ⟨rfl, rfl, rfl, rfl, rfl, rfl, trivial⟩ (fun _ hm => hm.pick [0] [0] [0, 1, 2, 3, 4, 5] rfl rfl) ?_
 rintro ⟨i, p, v⟩ hinv
 replace hinv : i <= n /\ (p = .pointer none ∨ p = .pointer (some ⟨g2, 0, none⟩)) := hinv
 dsimp only
 refine sr_ ?_
 obtain ⟨hi0, hp⟩ := hinv
 refine wl_ov (ov_lss rfl rfl) rfl (nn_ (gw_seq ?_))
 refine gw_cond rfl (fun hh => ?_) (fun hh => ?_)
 ·have hi : ((i : Nat) : Int) < ((n : Nat) : Int) := by simpa using hh
  clear hh
  refine gw_skip (nx_then (gw_seq (gw_block (sr_ ?_))))
  obtain ⟨b, off, hA, _, _⟩ := hl.get (by omega)
  subst hA
  obtain ⟨x, hx⟩ : ∃ x, l[i]? = some x := ⟨_, List.getElem?_eq_getElem (by omega)⟩
  have hxB := hB _ (List.mem_of_getElem? hx)
  obtain ⟨x0, x1, x2, x3, x4⟩ := x
  obtain ⟨s1, s2, s4, h0, hkd⟩ := id hxB
  dsimp only at s1 s2 s4 h0 hkd
  obtain ⟨q, rfl⟩ := Int.eq_ofNat_of_zero_le (show 0 <= x3 by omega)
  have hkq : kindsL[q]? = some (kindW ((q : Nat) : Int)) := by
   have h := kinds_at hkd
   rwa [Int.toNat_natCast] at h
  have hat := lgTx_at hx
  have hJ := lgJ_sz hxB
  have hts := lgTx_sz (lg_take hB i)
  have htl : (l.take i).length <= 10 := by rw [List.length_take]; omega
  have h10 : (⟨#[10]⟩ : ByteArray).size = 1 := rfl
  have h32 : (⟨#[32]⟩ : ByteArray).size = 1 := rfl
  have hatL := lgTxL_at hx
  have htl2 := lgTxL_len (lg_take hB i)
  refine wl_ov (ov_index (j := i) es39 rfl rfl (by omega)) rfl ?_
  refine wl_ov (ov_elem (vs := [.int .i64 x0, .string x1, .string x2, .int .i64 ((q : Nat) : Int), .string x4]) rz45 rfl (fun _ hm => (hm.fact 4 rfl).1) hx rfl rfl) rfl ?_
  refine wl_alloc zc45 rfl fun g3 => ?_
  refine wl_stores (cs' := [.int .i64 x0, .string x1, .string x2, .int .i64 ((q : Nat) : Int), .string x4]) 0 rz45 rfl rfl rfl rfl rfl rfl rfl rfl ?_
  refine nn_ (gw_seq ?_)
  refine gd (fun wz => Blk wz g3 45 [.int .i64 x0, .string x1, .string x2, .int .i64 ((q : Nat) : Int), .string x4] /\ (SlOld stEnc 15 152 w.heap.size none sA sn sl) wz /\ (SlOld csEnc 2 158 w.heap.size none cA cn cl) wz /\ (SlOld vhEnc 2 160 w.heap.size none vA vn vl) wz /\ (SlOld plEnc 3 162 w.heap.size none pA pn pl) wz /\ (SlOld evEnc 5 45 w.heap.size none (some ⟨b, off, none⟩) n l) wz /\ (TxtO w.heap.size none) wz /\ True) mixed (fun _ hm => ⟨hm.bl 0, hm.fa 0, hm.fa 1, hm.fa 2, hm.fa 3, hm.fa 4, hm.fa 5, trivial⟩) fun z => ?_
  refine wt 0 18 1 rfl z (ov_field fo45_0 rfl rfl) ?_
  refine wt 1 18 3 rfl z (ov_load sc3 rfl (fun _ hm => hm.1) rfl) ?_
  refine wt 2 18 7 rfl z (ov_iface (by kernel_rfl) rfl) ?_
  refine wt 3 18 15 rfl z (ov_field fo45_1 rfl rfl) ?_
  refine wt 4 18 31 rfl z (ov_load sc9 rfl (fun _ hm => hm.1) rfl) ?_
  refine wt 5 18 63 rfl z (ov_iface (by kernel_rfl) rfl) ?_
  refine wt 7 18 191 rfl z (ov_field fo45_3 rfl rfl) ?_
  refine wt 8 18 447 rfl z (ov_load sc3 rfl (fun _ hm => hm.1) rfl) ?_
  refine wt 12 18 4543 rfl z (ov_field fo45_2 rfl rfl) ?_
  refine wt 13 18 12735 rfl z (ov_load sc9 rfl (fun _ hm => hm.1) rfl) ?_
  refine wt 14 18 29119 rfl z (ov_iface (by kernel_rfl) rfl) ?_
  refine wa1 6 rfl ?_
  refine wl_callx (γ := Nat) (val := (fun g => .slice (some ⟨g, 0, none⟩) 9 9)) (φ := (fun g => True)) (Y := (fun g => fun wy => SlT sgEnc 1 9 wy (some ⟨g, 0, none⟩) 9 kindsL)) rfl cb116 rfl rfl (fun wx hm => (kinds_any wx).mono fun _ _ ⟨g, he, h1, hg⟩ => ⟨g, he, trivial, hg, h1⟩) (fun _ => SlT.lasts2 rfl) ?_
  rintro gw hphi
  clear hphi
  refine wl_nil ?_
  refine nw 18 29183 (fun _ hm => ⟨hm.bl 0, hm.fa 1, hm.fa 2, hm.fa 3, hm.fa 4, hm.fa 5, hm.fa 6, trivial⟩) fun z => ?_
  refine wt 9 18 29695 rfl z (ov_index (j := q) es103 rfl rfl (by omega)) ?_
  refine wa1 10 rfl ?_
  refine wl_ov (ov_elem1 (k := 0) (v := .string (kindW ((q : Nat) : Int))) sc9 rfl (fun _ hm => (hm.fact 0 rfl)) hkq rfl rfl) rfl ?_
  refine wl_nil ?_
  refine nw 18 30719 (fun _ hm => ⟨hm.bl 0, hm.fa 1, hm.fa 2, hm.fa 3, hm.fa 4, hm.fa 5, hm.fa 6, trivial⟩) fun z => ?_
  refine wt 11 18 32767 rfl z (ov_iface (by kernel_rfl) rfl) ?_
  refine wa1 15 rfl ?_
  refine wl_buildSlice (e := 20) (cs := [.iface 3 (.int .i64 x0), .iface 9 (.string x1), .iface 9 (.string (kindW ((q : Nat) : Int))), .iface 9 (.string x2)]) rfl (by kernel_rfl) rfl fun g4 => ?_
  refine wl_nil ?_
  refine nw 18 65535 (fun _ hm => ⟨hm.bl 1, hm.fa 1, hm.fa 2, hm.fa 3, hm.fa 4, hm.fa 5, hm.fa 6, trivial⟩) fun z => ?_
  refine wa1 16 rfl ?_
  refine wl_callv (v := .string (lgJ (⟨x0, x1, x2, ((q : Nat) : Int), x4⟩ : Ev))) rfl cb73 rfl rfl (fun wx hm => (by have h := wjoin_any (lgPts (⟨x0, x1, x2, ((q : Nat) : Int), x4⟩ : Ev)) (some ⟨g4, 0, none⟩) 4 4 wx (hm.fact 6 rfl).1 (SlT.ofBlk (l := lgPts (⟨x0, x1, x2, ((q : Nat) : Int), x4⟩ : Ev)) pt_len (hm.blkI 0 rfl)) (by omega) (by omega) (lgPts_ok hxB); exact h)) ?_
  refine wl_nil ?_
  refine nw 18 131071 (fun _ hm => ⟨hm.bl 1, hm.fa 1, hm.fa 2, hm.fa 3, hm.fa 4, hm.fa 5, hm.fa 6, trivial⟩) fun z => ?_
  refine wa1 17 rfl ?_
  refine wl_callG (γ := Value) (val := fun _ => .tuple #[.int .i64 ((lgJ (⟨x0, x1, x2, ((q : Nat) : Int), x4⟩ : Ev)).size : Int), .nilIface]) (φ := fun _ => True) (K' := fun _ => (fun _ => True)) (L' := fun g => [(g4, 20, [.iface 3 (.int .i64 x0), .iface 9 (.string x1), .iface 9 (.string (kindW ((q : Nat) : Int))), .iface 9 (.string x2)]), (g3, 45, [.int .i64 x0, .string x1, .string x2, .int .i64 ((q : Nat) : Int), .string x4]), (g2, 128, [.pointer (some ⟨g2, 0, none⟩), g])]) (O' := fun g => [⟨g, 5, 1, (Lib.byteCells (lgTxL (l.take i)) ++ Lib.strCells (lgJ (⟨x0, x1, x2, ((q : Nat) : Int), x4⟩ : Ev))).length, Lib.byteCells (lgTxL (l.take i)) ++ Lib.strCells (lgJ (⟨x0, x1, x2, ((q : Nat) : Int), x4⟩ : Ev))⟩]) (X' := fun _ => [SlOld stEnc 15 152 w.heap.size none sA sn sl, SlOld csEnc 2 158 w.heap.size none cA cn cl, SlOld vhEnc 2 160 w.heap.size none vA vn vl, SlOld plEnc 3 162 w.heap.size none pA pn pl, SlOld evEnc 5 45 w.heap.size none (some ⟨b, off, none⟩) n l, TxtO w.heap.size none]) rfl cb72 rfl rfl (fun wx hm => (writeStringK w.heap.size g2 (Lib.byteCells (lgTxL (l.take i))) (lgJ (⟨x0, x1, x2, ((q : Nat) : Int), x4⟩ : Ev)) wx (hm.isB 2 0 rfl rfl hp) (by rw [Lib.byteCells_length]; (try simp only [ByteArray.size_append]); omega) hm.g.size).mono fun e w' ⟨he, h1, hb, hk⟩ => by
   obtain ⟨v, hM⟩ := hm.builtK 2 rfl (tys_ne rfl) h1 hb hk (oldX_cons (i := 1) SlOld.oldF rfl (oldX_cons (i := 2) SlOld.oldF rfl (oldX_cons (i := 3) SlOld.oldF rfl (oldX_cons (i := 4) SlOld.oldF rfl (oldX_cons (i := 5) SlOld.oldF rfl (oldX_cons (i := 6) TxtO.oldF rfl oldX_nil))))))
   exact ⟨v, he, trivial, hM⟩) ?_
  rintro vv1 _
  refine wl_nil ?_
  refine nw 18 262143 (fun _ hm => ⟨hm.bl 1, hm.fa 0, hm.fa 1, hm.fa 2, hm.fa 3, hm.fa 4, hm.fa 5, trivial⟩) fun z => ?_
  refine wa_done (by kernel_rfl) ?_
  refine nx_then (gw_seq (sr_ (fd_ fo45_3 rfl rfl (lk_ sc3 1 rfl rfl rfl (wl_ov (ov_eql rfl rfl) rfl (nn_ ?_))))))
  refine gw_cond rfl (fun hh => ?_) (fun hh => ?_)
  ·have h6 : ((q : Nat) : Int) = 6 := by simpa using hh
   clear hh
   refine gw_region (fd_ fo45_4 rfl rfl (lk_ sc9 1 rfl rfl rfl ?_))
   refine wl_ov (ov_sadd rfl rfl (by (try simp only [ByteArray.size_append]); omega)) rfl ?_
   refine wl_callG (γ := Value) (val := fun _ => .tuple #[.int .i64 (((⟨#[32]⟩ : ByteArray) ++ x4).size : Int), .nilIface]) (φ := fun _ => True) (K' := fun _ => (fun _ => True)) (L' := fun g => [(g4, 20, [.iface 3 (.int .i64 x0), .iface 9 (.string x1), .iface 9 (.string (kindW ((q : Nat) : Int))), .iface 9 (.string x2)]), (g3, 45, [.int .i64 x0, .string x1, .string x2, .int .i64 ((q : Nat) : Int), .string x4]), (g2, 128, [.pointer (some ⟨g2, 0, none⟩), g])]) (O' := fun g => [⟨g, 5, 1, (Lib.byteCells (lgTxL (l.take i)) ++ Lib.strCells (lgJ (⟨x0, x1, x2, ((q : Nat) : Int), x4⟩ : Ev)) ++ Lib.strCells ((⟨#[32]⟩ : ByteArray) ++ x4)).length, Lib.byteCells (lgTxL (l.take i)) ++ Lib.strCells (lgJ (⟨x0, x1, x2, ((q : Nat) : Int), x4⟩ : Ev)) ++ Lib.strCells ((⟨#[32]⟩ : ByteArray) ++ x4)⟩]) (X' := fun _ => [SlOld stEnc 15 152 w.heap.size none sA sn sl, SlOld csEnc 2 158 w.heap.size none cA cn cl, SlOld vhEnc 2 160 w.heap.size none vA vn vl, SlOld plEnc 3 162 w.heap.size none pA pn pl, SlOld evEnc 5 45 w.heap.size none (some ⟨b, off, none⟩) n l, TxtO w.heap.size none]) rfl cb72 rfl rfl (fun wx hm => (writeStringK w.heap.size g2 (Lib.byteCells (lgTxL (l.take i)) ++ Lib.strCells (lgJ (⟨x0, x1, x2, ((q : Nat) : Int), x4⟩ : Ev))) ((⟨#[32]⟩ : ByteArray) ++ x4) wx (hm.isB 2 0 rfl rfl (.inr rfl)) (by simp only [List.length_append, Lib.byteCells_length, Lib.strCells_length]; (try simp only [ByteArray.size_append]); omega) hm.g.size).mono fun e w' ⟨he, h1, hb, hk⟩ => by
    obtain ⟨v, hM⟩ := hm.builtK 2 rfl (tys_ne rfl) h1 hb hk (oldX_cons (i := 0) SlOld.oldF rfl (oldX_cons (i := 1) SlOld.oldF rfl (oldX_cons (i := 2) SlOld.oldF rfl (oldX_cons (i := 3) SlOld.oldF rfl (oldX_cons (i := 4) SlOld.oldF rfl (oldX_cons (i := 5) TxtO.oldF rfl oldX_nil))))))
    exact ⟨v, he, trivial, hM⟩) ?_
   rintro vv2 _
   refine nn_ (gw_region ?_)
   refine wl_callG (γ := Value) (val := fun _ => .tuple #[.int .i64 (((⟨#[10]⟩ : ByteArray)).size : Int), .nilIface]) (φ := fun _ => True) (K' := fun _ => (fun _ => True)) (L' := fun g => [(g4, 20, [.iface 3 (.int .i64 x0), .iface 9 (.string x1), .iface 9 (.string (kindW ((q : Nat) : Int))), .iface 9 (.string x2)]), (g3, 45, [.int .i64 x0, .string x1, .string x2, .int .i64 ((q : Nat) : Int), .string x4]), (g2, 128, [.pointer (some ⟨g2, 0, none⟩), g])]) (O' := fun g => [⟨g, 5, 1, (Lib.byteCells (lgTxL (l.take i)) ++ Lib.strCells (lgJ (⟨x0, x1, x2, ((q : Nat) : Int), x4⟩ : Ev)) ++ Lib.strCells ((⟨#[32]⟩ : ByteArray) ++ x4) ++ Lib.strCells (⟨#[10]⟩ : ByteArray)).length, Lib.byteCells (lgTxL (l.take i)) ++ Lib.strCells (lgJ (⟨x0, x1, x2, ((q : Nat) : Int), x4⟩ : Ev)) ++ Lib.strCells ((⟨#[32]⟩ : ByteArray) ++ x4) ++ Lib.strCells (⟨#[10]⟩ : ByteArray)⟩]) (X' := fun _ => [SlOld stEnc 15 152 w.heap.size none sA sn sl, SlOld csEnc 2 158 w.heap.size none cA cn cl, SlOld vhEnc 2 160 w.heap.size none vA vn vl, SlOld plEnc 3 162 w.heap.size none pA pn pl, SlOld evEnc 5 45 w.heap.size none (some ⟨b, off, none⟩) n l, TxtO w.heap.size none]) rfl cb72 rfl rfl (fun wx hm => (writeStringK w.heap.size g2 (Lib.byteCells (lgTxL (l.take i)) ++ Lib.strCells (lgJ (⟨x0, x1, x2, ((q : Nat) : Int), x4⟩ : Ev)) ++ Lib.strCells ((⟨#[32]⟩ : ByteArray) ++ x4)) (⟨#[10]⟩ : ByteArray) wx (hm.isB 2 0 rfl rfl (.inr rfl)) (by simp only [List.length_append, Lib.byteCells_length, Lib.strCells_length]; (try simp only [ByteArray.size_append]); omega) hm.g.size).mono fun e w' ⟨he, h1, hb, hk⟩ => by
    obtain ⟨v, hM⟩ := hm.builtK 2 rfl (tys_ne rfl) h1 hb hk (oldX_cons (i := 0) SlOld.oldF rfl (oldX_cons (i := 1) SlOld.oldF rfl (oldX_cons (i := 2) SlOld.oldF rfl (oldX_cons (i := 3) SlOld.oldF rfl (oldX_cons (i := 4) SlOld.oldF rfl (oldX_cons (i := 5) TxtO.oldF rfl oldX_nil))))))
    exact ⟨v, he, trivial, hM⟩) ?_
   rintro vv3 _
   refine wl_nil (nx_blk_nrm (nx_then (gw_region (ad_ rfl rfl (mv_ rfl (wl_nil ?_))))))
   rw [show Lib.byteCells (lgTxL (l.take i)) ++ Lib.strCells (lgJ (⟨x0, x1, x2, ((q : Nat) : Int), x4⟩ : Ev)) ++ Lib.strCells ((⟨#[32]⟩ : ByteArray) ++ x4) ++ Lib.strCells (⟨#[10]⟩ : ByteArray) = Lib.byteCells (lgTxL (l.take (i + 1))) from by rw [cells_three, hatL, lgLn_six (x := (⟨x0, x1, x2, ((q : Nat) : Int), x4⟩ : Ev)) h6]]
   exact nx_round (i + 1, .pointer (some ⟨g2, 0, none⟩), vv3) ⟨by dsimp only; omega, .inr rfl⟩ (by dsimp only; omega) ⟨rfl, rfl, rfl, rfl, rfl, (some_int (by omega)), trivial⟩ (fun _ hm => hm.pick [2] [0] [0, 1, 2, 3, 4, 5] rfl rfl)
  have h6 : ¬ (((q : Nat) : Int) = 6) := by simpa using hh
  clear hh
  refine gw_skip (nx_then (gw_region ?_))
  refine wl_callG (γ := Value) (val := fun _ => .tuple #[.int .i64 (((⟨#[10]⟩ : ByteArray)).size : Int), .nilIface]) (φ := fun _ => True) (K' := fun _ => (fun _ => True)) (L' := fun g => [(g4, 20, [.iface 3 (.int .i64 x0), .iface 9 (.string x1), .iface 9 (.string (kindW ((q : Nat) : Int))), .iface 9 (.string x2)]), (g3, 45, [.int .i64 x0, .string x1, .string x2, .int .i64 ((q : Nat) : Int), .string x4]), (g2, 128, [.pointer (some ⟨g2, 0, none⟩), g])]) (O' := fun g => [⟨g, 5, 1, (Lib.byteCells (lgTxL (l.take i)) ++ Lib.strCells (lgJ (⟨x0, x1, x2, ((q : Nat) : Int), x4⟩ : Ev)) ++ Lib.strCells (⟨#[10]⟩ : ByteArray)).length, Lib.byteCells (lgTxL (l.take i)) ++ Lib.strCells (lgJ (⟨x0, x1, x2, ((q : Nat) : Int), x4⟩ : Ev)) ++ Lib.strCells (⟨#[10]⟩ : ByteArray)⟩]) (X' := fun _ => [SlOld stEnc 15 152 w.heap.size none sA sn sl, SlOld csEnc 2 158 w.heap.size none cA cn cl, SlOld vhEnc 2 160 w.heap.size none vA vn vl, SlOld plEnc 3 162 w.heap.size none pA pn pl, SlOld evEnc 5 45 w.heap.size none (some ⟨b, off, none⟩) n l, TxtO w.heap.size none]) rfl cb72 rfl rfl (fun wx hm => (writeStringK w.heap.size g2 (Lib.byteCells (lgTxL (l.take i)) ++ Lib.strCells (lgJ (⟨x0, x1, x2, ((q : Nat) : Int), x4⟩ : Ev))) (⟨#[10]⟩ : ByteArray) wx (hm.isB 2 0 rfl rfl (.inr rfl)) (by simp only [List.length_append, Lib.byteCells_length, Lib.strCells_length]; (try simp only [ByteArray.size_append]); omega) hm.g.size).mono fun e w' ⟨he, h1, hb, hk⟩ => by
   obtain ⟨v, hM⟩ := hm.builtK 2 rfl (tys_ne rfl) h1 hb hk (oldX_cons (i := 0) SlOld.oldF rfl (oldX_cons (i := 1) SlOld.oldF rfl (oldX_cons (i := 2) SlOld.oldF rfl (oldX_cons (i := 3) SlOld.oldF rfl (oldX_cons (i := 4) SlOld.oldF rfl (oldX_cons (i := 5) TxtO.oldF rfl oldX_nil))))))
   exact ⟨v, he, trivial, hM⟩) ?_
  rintro vv4 _
  refine wl_nil (nx_blk_nrm (nx_then (gw_region (ad_ rfl rfl (mv_ rfl (wl_nil ?_))))))
  rw [show Lib.byteCells (lgTxL (l.take i)) ++ Lib.strCells (lgJ (⟨x0, x1, x2, ((q : Nat) : Int), x4⟩ : Ev)) ++ Lib.strCells (⟨#[10]⟩ : ByteArray) = Lib.byteCells (lgTxL (l.take (i + 1))) from by rw [cells_two, hatL, lgLn_go (x := (⟨x0, x1, x2, ((q : Nat) : Int), x4⟩ : Ev)) h6]]
  exact nx_round (i + 1, .pointer (some ⟨g2, 0, none⟩), vv4) ⟨by dsimp only; omega, .inr rfl⟩ (by dsimp only; omega) ⟨rfl, rfl, rfl, rfl, rfl, (some_int (by omega)), trivial⟩ (fun _ hm => hm.pick [2] [0] [0, 1, 2, 3, 4, 5] rfl rfl)
 have hi : ¬ (((i : Nat) : Int) < ((n : Nat) : Int)) := by simpa using hh
 clear hh
 refine gw_exit ?_
 refine nx_then_exit (nx_then_exit ?_)
 refine nx_blk_here ?_
 refine nx_then (sr_ ?_)
 have hlt : l.take i = l := List.take_of_length_le (by omega)
 rw [hlt]
 have htl := lgTx_sz hB
 refine wl_callG (γ := Unit) (val := fun _ => .string (lgTx l)) (φ := fun _ => True) (K' := fun _ => (fun _ => True)) (L' := fun _ => []) (O' := fun _ => []) (X' := fun _ => [SlOld stEnc 15 152 w.heap.size none sA sn sl, SlOld csEnc 2 158 w.heap.size none cA cn cl, SlOld vhEnc 2 160 w.heap.size none vA vn vl, SlOld plEnc 3 162 w.heap.size none pA pn pl, SlOld evEnc 5 45 w.heap.size none A n l, TxtO w.heap.size none]) rfl cb74 rfl rfl (fun wx hm => (string_any w.heap.size g2 (lgTxL l) wx (hm.isB 0 0 rfl rfl hp) hm.g.size).mono fun e w' ⟨he, hb⟩ => ⟨(), he, trivial, hm.belowX hb (oldX_cons (i := 0) SlOld.oldF rfl (oldX_cons (i := 1) SlOld.oldF rfl (oldX_cons (i := 2) SlOld.oldF rfl (oldX_cons (i := 3) SlOld.oldF rfl (oldX_cons (i := 4) SlOld.oldF rfl (oldX_cons (i := 5) TxtO.oldF rfl oldX_nil))))))⟩) ?_
 rintro _ _
 refine wl_callv rfl cb108 rfl rfl (fun wx hm => (sized_any (lgTx l) wx (by omega))) ?_
 refine wl_ov (ov_extract rfl rfl) rfl (wl_ov (ov_extract rfl rfl) rfl (sg_ rfl (sg_ rfl (nn_ ?_))))
 refine gw_ret ?_
 refine nx_ret2 rfl rfl rfl fun wx hm => ?_
 exact ⟨rfl, hm.g⟩
end Go.Proofs.YtempjmpfdniecaaGreatDoor
namespace Go.Proofs.YtempjmpfdniecaaGreatDoor
open Go.RowKit
theorem lgW_t {a0 a2 : ByteArray} {n : Nat} (h0 : numB a0 = true) (h1 : 1 <= kixV a2) (h5 : kixV a2 = 6 -> n = 5) (h4 : ¬ kixV a2 = 6 -> n = 4) : lgW a0 a2 n = true := by
 unfold lgW
 rw [h0, decide_eq_true h1]
 by_cases h : kixV a2 = 6
 ·rw [if_pos h, decide_eq_true (h5 h)]; rfl
 ·rw [if_neg h, decide_eq_true (h4 h)]; rfl
theorem lgW_f {a0 a2 : ByteArray} {n : Nat} (h : numB a0 = true -> 1 <= kixV a2 -> (kixV a2 = 6 -> n = 5) -> (¬ kixV a2 = 6 -> n = 4) -> False) : lgW a0 a2 n = false := by
 cases hw : lgW a0 a2 n with
 | false => rfl
 | true =>
  unfold lgW at hw
  simp only [Bool.and_eq_true, decide_eq_true_eq] at hw
  refine (h hw.1.1 hw.1.2 (fun e => ?_) (fun e => ?_)).elim
  ·have h2 := hw.2; rw [if_pos e] at h2; exact h2
  ·have h2 := hw.2; rw [if_neg e] at h2; exact h2
theorem list_one {l : List ByteArray} (h : 4 + l.length = 5) : ∃ a, l = [a] := List.length_eq_one_iff.1 (by omega)
theorem list_none {l : List ByteArray} (h : 4 + l.length = 4) : l = [] := List.eq_nil_of_length_eq_zero (by omega)
theorem sc39' : scalarB Tryz.prog 39 = true := by kernel_rfl
theorem lgRead1_any (t : ByteArray) (w0 w : World) (g n : Nat) (v : Value) (acc : List Ev) (hts : t.size <= 1000000) (hn : n <= 1000000) (hm : Mem ⟨0, w0, some g, [9, 3]⟩ (RowK 0 39 1 1 1 g ([v].flatMap svEnc)) [] [⟨v, 45, 5, n, (acc).flatMap evEnc⟩] [TxtO w0.heap.size (some g)] w) :
  Calls Tryz.prog 117 #[.string t, .pointer (some ⟨g, 0, none⟩)] w (fun e w' => ∃ v' n', e = .returned (.bool (lgRdB t)) /\ Mem ⟨0, w0, some g, [9, 3]⟩ (RowK 0 39 1 1 1 g ([v'].flatMap svEnc)) [] [⟨v', 45, 5, n', (lgRdA t acc).flatMap evEnc⟩] [TxtO w0.heap.size (some g)] w') := by
 refine gw_enter ⟨67, w0, (some g), [9, 3]⟩ Tryz.func117 rfl Tryz.ntmps117 rfl hm.cx ?_
 refine sr_ ?_
 by_cases h4 : 4 <= (wdL t).length
 ·obtain ⟨a0, a1, a2, a3, rr, hw⟩ := lg_four h4
  have hwz := wdL_sz t
  rw [hw] at hwz
  have za0 : a0.size <= 1000000 := Nat.le_trans (hwz a0 (by simp)) hts
  have za1 : a1.size <= 1000000 := Nat.le_trans (hwz a1 (by simp)) hts
  have za2 : a2.size <= 1000000 := Nat.le_trans (hwz a2 (by simp)) hts
  have za3 : a3.size <= 1000000 := Nat.le_trans (hwz a3 (by simp)) hts
  have hkx := kix_bd a2
  refine sg_ rfl (nn_ (sr_ (mv_ rfl ?_)))
  refine wl_callx (γ := Nat × Nat) (val := (fun g => .tuple #[.slice (some ⟨g.1, 0, none⟩) g.2 g.2, .bool (wdB t)])) (φ := (fun g => g.2 = (4 + rr.length) /\ g.2 <= t.size + 1)) (Y := (fun g => fun wy => SlT sgEnc 1 9 wy (some ⟨g.1, 0, none⟩) g.2 (a0 :: a1 :: a2 :: a3 :: rr))) rfl cb77 rfl rfl (fun wx hm => (words_any t wx (hm.fact 0 rfl).1 hts).mono fun _ _ ⟨gw, k, he, h1, h2, hg⟩ => ⟨(gw, k), he, ⟨by have h := h1.len; rw [hw] at h; simp only [List.length_cons] at h; omega, h2.2⟩, hg, by rw [hw] at h1; exact h1⟩) (fun _ => SlT.lasts2 rfl) ?_
  rintro ⟨gw, k⟩ hk
  dsimp only at hk ⊢
  obtain ⟨hk, hkt⟩ := hk
  subst hk
  refine mv_ rfl (wl_ov (ov_extract rfl rfl) rfl (wl_ov (ov_extract rfl rfl) rfl (sg_ rfl (sg_ rfl (nn_ (gw_seq (sr_ (mv_ rfl (wl_ov (ov_un_not rfl) rfl (mv_ rfl ?_))))))))))
  rcases Bool.eq_false_or_eq_true (!(wdB t)) with h1 | h1
  ·refine wl_set 16 rfl (congrArg Value.bool h1) ?_
   refine goff rfl rfl rfl (goff rfl rfl rfl (goff rfl rfl rfl (pt_ rfl rfl (nn_ (ct_ rfl (sr_ (sg_ rfl (nn_ ?_))))))))
   refine gw_ret ?_
   refine nx_then_ret ?_
   obtain ⟨hN1, hN2⟩ := lg_none (acc := acc) (lg_wd h1)
   rw [hN1]
   refine nx_ret1 rfl rfl fun wx hm => ?_
   exact ⟨v, n, by rw [hN2], (hm.pick [] [0] [1] rfl rfl).cx⟩
  refine wl_set 16 rfl (congrArg Value.bool h1) ?_
  refine wl_guard_on rfl rfl rfl (mv_ rfl (wl_guard_on rfl rfl rfl (wl_ov (ov_len es103 rfl) rfl (wl_guard_on rfl rfl rfl (wl_ov (ov_lss rfl rfl) rfl (pf_ rfl rfl (nn_ ?_)))))))
  refine gw_cond rfl (fun hh => ?_) (fun hh => ?_)
  ·have hc : (((4 + rr.length) : Nat) : Int) < 4 := by simpa using hh
   clear hh
   refine sr_ ?_
   exact absurd hc (by omega)
  have hc : ¬ ((((4 + rr.length) : Nat) : Int) < 4) := by simpa using hh
  clear hh
  refine gw_skip (nx_then (sr_ (mv_ rfl ?_)))
  refine wl_ov (ov_index (j := 0) es103 rfl rfl (by omega)) rfl ?_
  refine wl_ov (ov_elem1 (k := 0) (v := .string a0) sc9 rfl (fun _ hm => (hm.fact 0 rfl)) (show (a0 :: a1 :: a2 :: a3 :: rr : List ByteArray)[0]? = some a0 from rfl) rfl rfl) rfl ?_
  refine wl_callx (γ := Int) (val := (fun g => .tuple #[.int .i64 g, .bool (numB a0)])) (φ := (fun g => numB a0 = true -> g = numV a0)) (Y := (fun g => fun _ => True)) rfl cb118 rfl rfl (fun wx hm => (number_any a0 wx (hm.fact 1 rfl).1 (by omega)).mono fun _ _ ⟨v, he, hv, hg⟩ => ⟨v, he, hv, hg, trivial⟩) (fun _ => Lasts2.true_) ?_
  rintro nv hnv
  refine mv_ rfl (wl_ov (ov_extract rfl rfl) rfl (wl_ov (ov_extract rfl rfl) rfl (sg_ rfl (sg_ rfl (nn_ ?_)))))
  refine gw_cut (γ := Nat) (I := (fun (gx : Nat) => True)) (S' := (fun (gx : Nat) => [(1, .pointer (some ⟨g, 0, none⟩)), (3, .bool false), (4, .slice (some ⟨gw, 0, none⟩) (4 + rr.length) (4 + rr.length)), (5, .bool (numB a0)), (7, .pointer (some ⟨gx, 0, none⟩))])) (K' := (fun (gx : Nat) => RowK 0 39 1 1 1 g ([v].flatMap svEnc))) (L' := (fun (gx : Nat) => [(gx, 45, [.int .i64 nv, .string a1, .string a3, .int .i64 (kixV a2), .string ⟨#[]⟩])])) (O' := (fun (gx : Nat) => [⟨v, 45, 5, n, acc.flatMap evEnc⟩])) (X' := (fun (gx : Nat) => [fun _ => True, fun wy => SlT sgEnc 1 9 wy (some ⟨gw, 0, none⟩) (4 + rr.length) (a0 :: a1 :: a2 :: a3 :: rr), TxtO w0.heap.size (some g)])) ?_ ?_
  ·refine gd (fun wz => (fun _ => True) wz /\ (fun wy => SlT sgEnc 1 9 wy (some ⟨gw, 0, none⟩) (4 + rr.length) (a0 :: a1 :: a2 :: a3 :: rr)) wz /\ (TxtO w0.heap.size (some g)) wz /\ True) mixed (fun _ hm => ⟨hm.fa 0, hm.fa 1, hm.fa 2, trivial⟩) fun z => ?_
   refine wt 0 15 1 rfl z (ov_move rfl) ?_
   refine wt 1 15 3 rfl z (ov_move rfl) ?_
   refine wt 2 15 7 rfl z (ov_index (j := 1) es103 rfl rfl (by omega)) ?_
   refine wt 3 15 15 rfl z (ov_elem1 (k := 0) (v := .string a1) sc9 rfl (fun _ hm => (hm.2.1)) (show (a0 :: a1 :: a2 :: a3 :: rr : List ByteArray)[1]? = some a1 from rfl) rfl rfl) ?_
   refine wt 5 15 47 rfl z (ov_move rfl) ?_
   refine wt 6 15 111 rfl z (ov_index (j := 2) es103 rfl rfl (by omega)) ?_
   refine wt 7 15 239 rfl z (ov_elem1 (k := 0) (v := .string a2) sc9 rfl (fun _ hm => (hm.2.1)) (show (a0 :: a1 :: a2 :: a3 :: rr : List ByteArray)[2]? = some a2 from rfl) rfl rfl) ?_
   refine wt 9 15 751 rfl z (ov_move rfl) ?_
   refine wt 10 15 1775 rfl z (ov_index (j := 3) es103 rfl rfl (by omega)) ?_
   refine wt 11 15 3823 rfl z (ov_elem1 (k := 0) (v := .string a3) sc9 rfl (fun _ hm => (hm.2.1)) (show (a0 :: a1 :: a2 :: a3 :: rr : List ByteArray)[3]? = some a3 from rfl) rfl rfl) ?_
   refine wa_all [4, 13] (by kernel_rfl) rfl ⟨⟨_, rfl, ?_⟩, ⟨_, rfl, ?_⟩, trivial⟩
   ·refine wl_callx (γ := Nat) (val := (fun g => .slice (some ⟨g, 0, none⟩) 9 9)) (φ := (fun g => True)) (Y := (fun g => fun wy => SlT sgEnc 1 9 wy (some ⟨g, 0, none⟩) 9 kindsL)) rfl cb116 rfl rfl (fun wx hm => (kinds_any wx).mono fun _ _ ⟨g, he, h1, hg⟩ => ⟨g, he, trivial, hg, h1⟩) (fun _ => SlT.lasts2 rfl) ?_
    rintro gk7 hphi
    clear hphi
    refine wl_nil ?_
    refine nw 15 3839 (fun _ hm => ⟨hm.fa 1, hm.fa 2, hm.fa 3, trivial⟩) fun z => ?_
    refine wa_all [8, 13] (by kernel_rfl) rfl ⟨⟨_, rfl, ?_⟩, ⟨_, rfl, ?_⟩, trivial⟩
    ·refine wl_callv (v := .int .i64 (kixV a2)) rfl cb119 rfl rfl (fun wx hm => (by have h := tIndex_any kindsL (some ⟨gk7, 0, none⟩) 9 9 a2 wx (hm.fact 0 rfl) (by omega); exact h)) ?_
     refine wl_nil ?_
     refine nw 15 4095 (fun _ hm => ⟨hm.fa 1, hm.fa 2, hm.fa 3, trivial⟩) fun z => ?_
     refine wt 12 15 8191 rfl z (ov_build (cs := [.int .i64 nv, .string a1, .string a3, .int .i64 (kixV a2), .string ⟨#[]⟩]) rfl (by kernel_rfl)) ?_
     refine wa1 13 rfl ?_
     refine wl_alloc zc45 rfl fun g2 => ?_
     refine wl_nil ?_
     refine nw 15 16383 (fun _ hm => ⟨hm.fa 1, hm.fa 2, hm.fa 3, trivial⟩) fun z => ?_
     refine wa1 14 rfl ?_
     refine wl_stores (cs' := [.int .i64 nv, .string a1, .string a3, .int .i64 (kixV a2), .string ⟨#[]⟩]) 0 rz45 rfl rfl rfl rfl rfl rfl rfl rfl ?_
     refine wl_nil ?_
     refine nw 15 32767 (fun _ hm => ⟨hm.fa 1, hm.fa 2, hm.fa 3, trivial⟩) fun z => ?_
     refine wa_done (by kernel_rfl) ?_
     exact nx_meet g2 trivial ⟨rfl, rfl, rfl, rfl, rfl, trivial⟩ (fun _ hm => hm.pick [0] [0] [1, 2, 3] rfl rfl)
    refine wl_alloc zc45 rfl fun g3 => ?_
    refine wl_nil ?_
    refine nw 15 12031 (fun _ hm => ⟨hm.fa 1, hm.fa 2, hm.fa 3, trivial⟩) fun z => ?_
    refine wa1 8 rfl ?_
    refine wl_callv (v := .int .i64 (kixV a2)) rfl cb119 rfl rfl (fun wx hm => (by have h := tIndex_any kindsL (some ⟨gk7, 0, none⟩) 9 9 a2 wx (hm.fact 0 rfl) (by omega); exact h)) ?_
    refine wl_nil ?_
    refine nw 15 12287 (fun _ hm => ⟨hm.fa 1, hm.fa 2, hm.fa 3, trivial⟩) fun z => ?_
    refine wt 12 15 16383 rfl z (ov_build (cs := [.int .i64 nv, .string a1, .string a3, .int .i64 (kixV a2), .string ⟨#[]⟩]) rfl (by kernel_rfl)) ?_
    refine wa1 14 rfl ?_
    refine wl_stores (cs' := [.int .i64 nv, .string a1, .string a3, .int .i64 (kixV a2), .string ⟨#[]⟩]) 0 rz45 rfl rfl rfl rfl rfl rfl rfl rfl ?_
    refine wl_nil ?_
    refine nw 15 32767 (fun _ hm => ⟨hm.fa 1, hm.fa 2, hm.fa 3, trivial⟩) fun z => ?_
    refine wa_done (by kernel_rfl) ?_
    exact nx_meet g3 trivial ⟨rfl, rfl, rfl, rfl, rfl, trivial⟩ (fun _ hm => hm.pick [0] [0] [1, 2, 3] rfl rfl)
   refine wl_alloc zc45 rfl fun g4 => ?_
   refine wl_nil ?_
   refine nw 15 12015 (fun _ hm => ⟨hm.fa 0, hm.fa 1, hm.fa 2, trivial⟩) fun z => ?_
   refine wa1 4 rfl ?_
   refine wl_callx (γ := Nat) (val := (fun g => .slice (some ⟨g, 0, none⟩) 9 9)) (φ := (fun g => True)) (Y := (fun g => fun wy => SlT sgEnc 1 9 wy (some ⟨g, 0, none⟩) 9 kindsL)) rfl cb116 rfl rfl (fun wx hm => (kinds_any wx).mono fun _ _ ⟨g, he, h1, hg⟩ => ⟨g, he, trivial, hg, h1⟩) (fun _ => SlT.lasts2 rfl) ?_
   rintro gk7 hphi
   clear hphi
   refine wl_nil ?_
   refine nw 15 12031 (fun _ hm => ⟨hm.fa 1, hm.fa 2, hm.fa 3, trivial⟩) fun z => ?_
   refine wa1 8 rfl ?_
   refine wl_callv (v := .int .i64 (kixV a2)) rfl cb119 rfl rfl (fun wx hm => (by have h := tIndex_any kindsL (some ⟨gk7, 0, none⟩) 9 9 a2 wx (hm.fact 0 rfl) (by omega); exact h)) ?_
   refine wl_nil ?_
   refine nw 15 12287 (fun _ hm => ⟨hm.fa 1, hm.fa 2, hm.fa 3, trivial⟩) fun z => ?_
   refine wt 12 15 16383 rfl z (ov_build (cs := [.int .i64 nv, .string a1, .string a3, .int .i64 (kixV a2), .string ⟨#[]⟩]) rfl (by kernel_rfl)) ?_
   refine wa1 14 rfl ?_
   refine wl_stores (cs' := [.int .i64 nv, .string a1, .string a3, .int .i64 (kixV a2), .string ⟨#[]⟩]) 0 rz45 rfl rfl rfl rfl rfl rfl rfl rfl ?_
   refine wl_nil ?_
   refine nw 15 32767 (fun _ hm => ⟨hm.fa 1, hm.fa 2, hm.fa 3, trivial⟩) fun z => ?_
   refine wa_done (by kernel_rfl) ?_
   exact nx_meet g4 trivial ⟨rfl, rfl, rfl, rfl, rfl, trivial⟩ (fun _ hm => hm.pick [0] [0] [1, 2, 3] rfl rfl)
  intro gx hinv
  replace hinv : True := hinv
  refine sr_ (sg_ rfl (nn_ (gw_seq (sr_ (fd_ fo45_3 rfl rfl (lk_ sc3 0 rfl rfl rfl (wl_ov (ov_eql rfl rfl) rfl (nn_ ?_))))))))
  refine gw_cond rfl (fun hh => ?_) (fun hh => ?_)
  ·have hq1 : kixV a2 = 6 := by simpa using hh
   clear hh
   refine gw_region ?_
   have hq1p : kixV a2 = 6 := by simpa using hq1
   refine sg_ rfl (nn_ (gw_seq (sr_ (mv_ rfl (wl_ov (ov_un_not rfl) rfl (mv_ rfl ?_))))))
   rcases Bool.eq_false_or_eq_true (!(numB a0)) with hq2 | hq2
   ·refine wl_set 46 rfl (congrArg Value.bool hq2) ?_
    have hb : numB a0 = false := by simpa using hq2
    refine goff rfl rfl rfl (goff rfl rfl rfl (goff rfl rfl rfl (pt_ rfl rfl (mv_ rfl (goff rfl rfl rfl (goff rfl rfl rfl (goff rfl rfl rfl (goff rfl rfl rfl (pt_ rfl rfl (nn_ (ct_ rfl (gw_seq ?_))))))))))))
    refine gw_region (sg_ rfl (nn_ ?_))
    refine gw_ret ?_
    refine nx_then_ret ?_
    obtain ⟨hN1, hN2⟩ := lg_none (acc := acc) (lg_bad hw (lgW_f (fun e0 _ _ _ => by (rw [e0] at hb; cases hb))))
    rw [hN1]
    refine nx_ret1 rfl rfl fun wx hm => ?_
    exact ⟨v, n, by rw [hN2], (hm.pick [] [0] [2] rfl rfl).cx⟩
   refine wl_set 46 rfl (congrArg Value.bool hq2) ?_
   have hb : numB a0 = true := by simpa using hq2
   refine wl_guard_on rfl rfl rfl (fd_ fo45_3 rfl rfl (wl_guard_on rfl rfl rfl (lk_ sc3 0 rfl rfl rfl (wl_guard_on rfl rfl rfl (wl_ov (ov_lss rfl rfl) rfl (pf_ rfl rfl (mv_ rfl ?_)))))))
   rcases Bool.eq_false_or_eq_true (decide (kixV a2 < 1)) with hq3 | hq3
   ·refine wl_set 51 rfl (congrArg Value.bool hq3) ?_
    have hq3p : kixV a2 < 1 := by simpa using hq3
    refine goff rfl rfl rfl (goff rfl rfl rfl (goff rfl rfl rfl (goff rfl rfl rfl (pt_ rfl rfl (nn_ (ct_ rfl (sr_ (sg_ rfl (nn_ ?_)))))))))
    refine gw_ret ?_
    refine nx_then_ret ?_
    obtain ⟨hN1, hN2⟩ := lg_none (acc := acc) (lg_bad hw (lgW_f (fun _ e1 e5 e4 => by omega)))
    rw [hN1]
    refine nx_ret1 rfl rfl fun wx hm => ?_
    exact ⟨v, n, by rw [hN2], (hm.pick [] [0] [2] rfl rfl).cx⟩
   refine wl_set 51 rfl (congrArg Value.bool hq3) ?_
   have hq3p : ¬ (kixV a2 < 1) := by simpa using hq3
   refine wl_guard_on rfl rfl rfl (mv_ rfl (wl_guard_on rfl rfl rfl (wl_ov (ov_len es103 rfl) rfl (wl_guard_on rfl rfl rfl (mv_ rfl (wl_guard_on rfl rfl rfl (wl_ov (ov_neq rfl rfl) rfl (pf_ rfl rfl (nn_ ?_)))))))))
   refine gw_cond rfl (fun hh => ?_) (fun hh => ?_)
   ·have hq4 : ¬ ((((4 + rr.length) : Nat) : Int) = 5) := by simpa using hh
    clear hh
    refine sr_ ?_
    have hq4p : ¬ ((((4 + rr.length) : Nat) : Int) = 5) := by simpa using hq4
    refine sg_ rfl (nn_ ?_)
    refine gw_ret ?_
    refine nx_then_ret ?_
    obtain ⟨hN1, hN2⟩ := lg_none (acc := acc) (lg_bad hw (lgW_f (fun _ e1 e5 e4 => by omega)))
    rw [hN1]
    refine nx_ret1 rfl rfl fun wx hm => ?_
    exact ⟨v, n, by rw [hN2], (hm.pick [] [0] [2] rfl rfl).cx⟩
   have hq4 : (((4 + rr.length) : Nat) : Int) = 5 := by simpa using hh
   clear hh
   refine gw_skip (nx_then (gw_seq (sr_ ?_)))
   have hq4p : (((4 + rr.length) : Nat) : Int) = 5 := by simpa using hq4
   obtain ⟨a4, hrr⟩ := list_one (l := rr) (by omega)
   refine mv_ rfl (wl_ov (ov_eql rfl rfl) rfl ?_)
   refine wl_set 58 (v' := .bool true) rfl (congrArg Value.bool (by decide)) ?_
   refine nn_ (ct_ rfl (gw_region (mv_ rfl ?_)))
   refine wl_ov (ov_index (j := 4) es103 rfl rfl (by omega)) rfl ?_
   refine wl_ov (ov_elem1 (k := 0) (v := .string a4) sc9 rfl (fun _ hm => (hm.fact 1 rfl)) (show (a0 :: a1 :: a2 :: a3 :: rr : List ByteArray)[4]? = some a4 from by rw [hrr]; rfl) rfl rfl) rfl ?_
   refine fd_ fo45_4 rfl rfl ?_
   refine wl_store 0 sc9 rfl rfl rfl rfl rfl rfl ?_
   refine nn_ (sr_ ?_)
   refine wl_ov (ov_load (v := v) sc39 rfl (fun _ hm => (rowBlk1 hm.k)) rfl) rfl ?_
   refine wl_ov (ov_loads rz45 rfl (fun _ hm => hm.blkI 0 rfl) rfl rfl) rfl ?_
   refine wl_buildSlice (e := 45) (cs := [.int .i64 nv, .string a1, .string a3, .int .i64 (kixV a2), .string a4]) rfl (by kernel_rfl) rfl fun g5 => ?_
   obtain ⟨hS1, hS2⟩ := lg_some (acc := acc) (lg_good h1 hw (lgW_t hb (by omega) (fun _ => by omega) (fun _ => by omega)))
   rw [hrr] at hS1
   replace hS1 : lgRdA t acc = acc ++ [(⟨numV a0, a1, a3, kixV a2, a4⟩ : Ev)] := hS1
   obtain rfl := hnv hb
   refine wl_look (R := ∃ A cc, v = .slice A n cc) (fun wx hm => own_slice (hm.ownI 0 rfl)) ?_
   rintro ⟨A, cc, rfl⟩
   refine wl_append (news := [.int .i64 (numV a0), .string a1, .string a3, .int .i64 (kixV a2), .string a4]) 0 0 ap39 rfl rfl rfl rfl rfl rfl rfl (by omega) (by unfold maxLen; omega) rfl rfl fun v2 hv => ?_
   refine wl_look (R := ∃ A cc, v2 = .slice A (n + 1) cc) (fun wx hm => own_slice (hm.ownI 0 rfl)) ?_
   rintro ⟨A5, c5, rfl⟩
   refine wl_storeRow (l := [Value.slice A n cc]) (j := 0) (r := 0) (el := Value.slice A n cc) (el' := Value.slice A5 (n + 1) c5) rfl sc39' rfl rfl rfl sv_len rfl rfl rfl (by decide) rfl rfl ?_
   refine nn_ (sr_ (sg_ rfl (nn_ ?_)))
   refine gw_ret ?_
   rw [hS1]
   rw [show acc.flatMap evEnc ++ ([.int .i64 (numV a0), .string a1, .string a3, .int .i64 (kixV a2), .string a4] : List Value) = (acc ++ [(⟨numV a0, a1, a3, kixV a2, a4⟩ : Ev)]).flatMap evEnc from by simp [evEnc]]
   refine nx_ret1 rfl rfl fun wx hm => ?_
   exact ⟨.slice A5 (n + 1) c5, n + 1, by rw [hS2], (hm.pick [] [0] [2] rfl rfl).cx⟩
  have hq1 : ¬ (kixV a2 = 6) := by simpa using hh
  clear hh
  refine gw_skip (nx_then (gw_seq (sr_ ?_)))
  have hq1p : ¬ (kixV a2 = 6) := by simpa using hq1
  refine mv_ rfl (wl_ov (ov_un_not rfl) rfl (mv_ rfl ?_))
  rcases Bool.eq_false_or_eq_true (!(numB a0)) with hq5 | hq5
  ·refine wl_set 46 rfl (congrArg Value.bool hq5) ?_
   have hb : numB a0 = false := by simpa using hq5
   refine goff rfl rfl rfl (goff rfl rfl rfl (goff rfl rfl rfl (pt_ rfl rfl (mv_ rfl (goff rfl rfl rfl (goff rfl rfl rfl (goff rfl rfl rfl (goff rfl rfl rfl (pt_ rfl rfl (nn_ (ct_ rfl (gw_seq ?_))))))))))))
   refine gw_region (sg_ rfl (nn_ ?_))
   refine gw_ret ?_
   refine nx_then_ret ?_
   obtain ⟨hN1, hN2⟩ := lg_none (acc := acc) (lg_bad hw (lgW_f (fun e0 _ _ _ => by (rw [e0] at hb; cases hb))))
   rw [hN1]
   refine nx_ret1 rfl rfl fun wx hm => ?_
   exact ⟨v, n, by rw [hN2], (hm.pick [] [0] [2] rfl rfl).cx⟩
  refine wl_set 46 rfl (congrArg Value.bool hq5) ?_
  have hb : numB a0 = true := by simpa using hq5
  refine wl_guard_on rfl rfl rfl (fd_ fo45_3 rfl rfl (wl_guard_on rfl rfl rfl (lk_ sc3 0 rfl rfl rfl (wl_guard_on rfl rfl rfl (wl_ov (ov_lss rfl rfl) rfl (pf_ rfl rfl (mv_ rfl ?_)))))))
  rcases Bool.eq_false_or_eq_true (decide (kixV a2 < 1)) with hq6 | hq6
  ·refine wl_set 51 rfl (congrArg Value.bool hq6) ?_
   have hq6p : kixV a2 < 1 := by simpa using hq6
   refine goff rfl rfl rfl (goff rfl rfl rfl (goff rfl rfl rfl (goff rfl rfl rfl (pt_ rfl rfl (nn_ (ct_ rfl (sr_ (sg_ rfl (nn_ ?_)))))))))
   refine gw_ret ?_
   refine nx_then_ret ?_
   obtain ⟨hN1, hN2⟩ := lg_none (acc := acc) (lg_bad hw (lgW_f (fun _ e1 e5 e4 => by omega)))
   rw [hN1]
   refine nx_ret1 rfl rfl fun wx hm => ?_
   exact ⟨v, n, by rw [hN2], (hm.pick [] [0] [2] rfl rfl).cx⟩
  refine wl_set 51 rfl (congrArg Value.bool hq6) ?_
  have hq6p : ¬ (kixV a2 < 1) := by simpa using hq6
  refine wl_guard_on rfl rfl rfl (mv_ rfl (wl_guard_on rfl rfl rfl (wl_ov (ov_len es103 rfl) rfl (wl_guard_on rfl rfl rfl (mv_ rfl (wl_guard_on rfl rfl rfl (wl_ov (ov_neq rfl rfl) rfl (pf_ rfl rfl (nn_ ?_)))))))))
  refine gw_cond rfl (fun hh => ?_) (fun hh => ?_)
  ·have hq7 : ¬ ((((4 + rr.length) : Nat) : Int) = 4) := by simpa using hh
   clear hh
   refine sr_ ?_
   have hq7p : ¬ ((((4 + rr.length) : Nat) : Int) = 4) := by simpa using hq7
   refine sg_ rfl (nn_ ?_)
   refine gw_ret ?_
   refine nx_then_ret ?_
   obtain ⟨hN1, hN2⟩ := lg_none (acc := acc) (lg_bad hw (lgW_f (fun _ e1 e5 e4 => by omega)))
   rw [hN1]
   refine nx_ret1 rfl rfl fun wx hm => ?_
   exact ⟨v, n, by rw [hN2], (hm.pick [] [0] [2] rfl rfl).cx⟩
  have hq7 : (((4 + rr.length) : Nat) : Int) = 4 := by simpa using hh
  clear hh
  refine gw_skip (nx_then (gw_seq (sr_ ?_)))
  have hq7p : (((4 + rr.length) : Nat) : Int) = 4 := by simpa using hq7
  refine mv_ rfl (wl_ov (ov_eql rfl rfl) rfl ?_)
  refine wl_set 58 (v' := .bool false) rfl (congrArg Value.bool (by decide)) ?_
  refine nn_ (cf_ rfl (gw_skip (nx_then (sr_ ?_))))
  refine wl_ov (ov_load (v := v) sc39 rfl (fun _ hm => (rowBlk1 hm.k)) rfl) rfl ?_
  refine wl_ov (ov_loads rz45 rfl (fun _ hm => hm.blkI 0 rfl) rfl rfl) rfl ?_
  refine wl_buildSlice (e := 45) (cs := [.int .i64 nv, .string a1, .string a3, .int .i64 (kixV a2), .string ⟨#[]⟩]) rfl (by kernel_rfl) rfl fun g6 => ?_
  have hrr := list_none (l := rr) (by omega)
  obtain ⟨hS1, hS2⟩ := lg_some (acc := acc) (lg_good h1 hw (lgW_t hb (by omega) (fun _ => by omega) (fun _ => by omega)))
  rw [hrr] at hS1
  replace hS1 : lgRdA t acc = acc ++ [(⟨numV a0, a1, a3, kixV a2, ⟨#[]⟩⟩ : Ev)] := hS1
  obtain rfl := hnv hb
  refine wl_look (R := ∃ A cc, v = .slice A n cc) (fun wx hm => own_slice (hm.ownI 0 rfl)) ?_
  rintro ⟨A, cc, rfl⟩
  refine wl_append (news := [.int .i64 (numV a0), .string a1, .string a3, .int .i64 (kixV a2), .string ⟨#[]⟩]) 0 0 ap39 rfl rfl rfl rfl rfl rfl rfl (by omega) (by unfold maxLen; omega) rfl rfl fun v2 hv => ?_
  refine wl_look (R := ∃ A cc, v2 = .slice A (n + 1) cc) (fun wx hm => own_slice (hm.ownI 0 rfl)) ?_
  rintro ⟨A5, c5, rfl⟩
  refine wl_storeRow (l := [Value.slice A n cc]) (j := 0) (r := 0) (el := Value.slice A n cc) (el' := Value.slice A5 (n + 1) c5) rfl sc39' rfl rfl rfl sv_len rfl rfl rfl (by decide) rfl rfl ?_
  refine nn_ (sr_ (sg_ rfl (nn_ ?_)))
  refine gw_ret ?_
  rw [hS1]
  rw [show acc.flatMap evEnc ++ ([.int .i64 (numV a0), .string a1, .string a3, .int .i64 (kixV a2), .string ⟨#[]⟩] : List Value) = (acc ++ [(⟨numV a0, a1, a3, kixV a2, ⟨#[]⟩⟩ : Ev)]).flatMap evEnc from by simp [evEnc]]
  refine nx_ret1 rfl rfl fun wx hm => ?_
  exact ⟨.slice A5 (n + 1) c5, n + 1, by rw [hS2], (hm.pick [] [0] [2] rfl rfl).cx⟩
 refine sg_ rfl (nn_ (sr_ (mv_ rfl ?_)))
 refine wl_callx (γ := Nat × Nat) (val := (fun g => .tuple #[.slice (some ⟨g.1, 0, none⟩) g.2 g.2, .bool (wdB t)])) (φ := (fun g => g.2 = (wdL t).length /\ 1 <= g.2 /\ g.2 <= t.size + 1)) (Y := (fun g => fun wy => SlT sgEnc 1 9 wy (some ⟨g.1, 0, none⟩) g.2 (wdL t))) rfl cb77 rfl rfl (fun wx hm => (words_any t wx (hm.fact 0 rfl).1 hts).mono fun _ _ ⟨gw, k, he, h1, h2, hg⟩ => ⟨(gw, k), he, ⟨h1.len.symm, h2⟩, hg, h1⟩) (fun _ => SlT.lasts2 rfl) ?_
 rintro ⟨gw, k⟩ hk
 dsimp only at hk ⊢
 refine mv_ rfl (wl_ov (ov_extract rfl rfl) rfl (wl_ov (ov_extract rfl rfl) rfl (sg_ rfl (sg_ rfl (nn_ (gw_seq (sr_ (mv_ rfl (wl_ov (ov_un_not rfl) rfl (mv_ rfl ?_))))))))))
 rcases Bool.eq_false_or_eq_true (!(wdB t)) with h1 | h1
 ·refine wl_set 16 rfl (congrArg Value.bool h1) ?_
  refine goff rfl rfl rfl (goff rfl rfl rfl (goff rfl rfl rfl (pt_ rfl rfl (nn_ (ct_ rfl (sr_ (sg_ rfl (nn_ ?_))))))))
  refine gw_ret ?_
  refine nx_then_ret ?_
  obtain ⟨hN1, hN2⟩ := lg_none (acc := acc) (lg_wd h1)
  rw [hN1]
  refine nx_ret1 rfl rfl fun wx hm => ?_
  exact ⟨v, n, by rw [hN2], (hm.pick [] [0] [1] rfl rfl).cx⟩
 refine wl_set 16 rfl (congrArg Value.bool h1) ?_
 have hk2 : ((k : Nat) : Int) < 4 := by omega
 refine wl_guard_on rfl rfl rfl (mv_ rfl (wl_guard_on rfl rfl rfl (wl_ov (ov_len es103 rfl) rfl (wl_guard_on rfl rfl rfl (wl_ov (ov_lss rfl rfl) rfl (pf_ rfl rfl (nn_ ?_)))))))
 refine gw_cond rfl (fun hh => ?_) (fun hh => ?_)
 ·have hc : ((k : Nat) : Int) < 4 := by simpa using hh
  clear hh
  refine sr_ (sg_ rfl (nn_ ?_))
  refine gw_ret ?_
  refine nx_then_ret ?_
  obtain ⟨hN1, hN2⟩ := lg_none (acc := acc) (lg_short h4)
  rw [hN1]
  refine nx_ret1 rfl rfl fun wx hm => ?_
  exact ⟨v, n, by rw [hN2], (hm.pick [] [0] [1] rfl rfl).cx⟩
 have hc : ¬ (((k : Nat) : Int) < 4) := by simpa using hh
 clear hh
 refine gw_skip (nx_then (sr_ ?_))
 exact absurd hk2 (by simpa using hc)
end Go.Proofs.YtempjmpfdniecaaGreatDoor
