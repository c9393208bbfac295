/- Several texts as one: El Es -/
import Derived.Test.YtjecbkgjabnmoaaGreatDoorPe
import Derived.Test.YtjecbkgjabnmoaaGreatDoorPb
import Derived.Test.YtjecbkgjabnmoaaGreatDoorPa
set_option maxRecDepth 100000
set_option maxHeartbeats 4000000
namespace Go.Proofs.YtjecbkgjabnmoaaGreatDoor
open Go.RowKit
theorem ins0_int (A : Option Addr) (cap : Nat)  (w : World) : Calls Tryz.prog 271 #[.slice A 0 cap, .int .i64 0, .int .i64 0] w (fun e w' => e = .returned (.tuple #[]) ∧ w.grownBy w' none) := by
 refine gw_enter ⟨49, w, none, []⟩ Tryz.func271 rfl Tryz.ntmps271 rfl (mem0 (X := []) allF_nil allL_nil) ?_
 refine sr_ (mv_ rfl (ad_ rfl rfl ?_))
 refine wl_set 9 (v' := .int .i64 1) rfl rfl ?_
 refine sg_ rfl (nn_ (gw_block ?_))
 refine gw_rounds 1 ?_
 refine gr_next ?_
 refine gw_seq (sr_ (mv_ rfl (mv_ rfl (wl_ov (ov_lss rfl rfl) rfl ?_))))
 refine wl_set 12 (v' := .bool false) rfl (congrArg Value.bool (by decide)) ?_
 refine nn_ (cf_ rfl ?_)
 refine gw_exit ?_
 refine nx_then_exit (nx_then_exit ?_)
 refine nx_blk_here ?_
 refine nx_ret0 rfl fun wx hm => ?_
 exact ⟨rfl, hm.g⟩
theorem pdq0_int (A : Option Addr) (cap : Nat) (lim : Int) (w : World) : Calls Tryz.prog 226 #[.slice A 0 cap, .int .i64 0, .int .i64 0, .int .i64 lim] w (fun e w' => e = .returned (.tuple #[]) ∧ w.grownBy w' none) := by
 refine gw_enter ⟨134, w, none, []⟩ Tryz.func226 rfl Tryz.ntmps226 rfl (mem0 (X := []) allF_nil allL_nil) ?_
 refine sr_ (sg_ rfl (nn_ (sr_ (sg_ rfl (nn_ (gw_block ?_))))))
 refine gw_rounds 1 ?_
 refine gr_next ?_
 refine gw_block (sr_ (mv_ rfl (mv_ rfl ?_)))
 refine wl_ov (ov_sub rfl rfl (by omega) (by omega)) rfl ?_
 refine wl_set 21 (v' := .int .i64 0) rfl rfl ?_
 refine sg_ rfl (nn_ (gw_seq (sr_ (mv_ rfl (wl_ov (ov_leq rfl rfl) rfl ?_)))))
 refine wl_set 23 (v' := .bool true) rfl (congrArg Value.bool (by decide)) ?_
 refine nn_ (ct_ rfl (sr_ (mv_ rfl (mv_ rfl (mv_ rfl ?_)))))
 refine wl_callv rfl cb271 rfl rfl (fun wx hm => (ins0_int A cap  wx)) ?_
 refine nn_ ?_
 refine gw_ret ?_
 refine nx_then_ret (nx_blk_ret (nx_then_ret (nx_blk_ret ?_)))
 refine nx_ret0' rfl fun wx hm => ?_
 exact ⟨rfl, hm.g⟩
theorem sort0_int (A : Option Addr) (cap : Nat)  (w : World) : Calls Tryz.prog 161 #[.slice A 0 cap] w (fun e w' => e = .returned (.tuple #[]) ∧ w.grownBy w' none) := by
 refine gw_enter ⟨11, w, none, []⟩ Tryz.func161 rfl Tryz.ntmps161 rfl (mem0 (X := []) allF_nil allL_nil) ?_
 refine sr_ (mv_ rfl (wl_ov (ov_len es22 rfl) rfl ?_))
 refine wl_set 4 (v' := .int .i64 0) rfl rfl ?_
 refine sg_ rfl (nn_ (gw_region (mv_ rfl (mv_ rfl (mv_ rfl ?_)))))
 refine wl_ov (ov_u64 (a := 0) (by kernel_rfl) (by kernel_rfl) rfl (by omega)) rfl ?_
 refine wl_callx (γ := Int) (val := (fun g => .int .i64 g)) (φ := (fun g => True)) (Y := (fun g => fun _ => True)) rfl cb182 rfl rfl (fun wx hm => (by have h := bitsLen_any 0 wx (by omega); exact h.mono fun _ _ ⟨v, he, hg⟩ => ⟨v, he, trivial, hg, trivial⟩)) (fun _ => Lasts2.true_) ?_
 rintro lim hphi
 clear hphi
 refine wl_callv rfl cb226 rfl rfl (fun wx hm => (pdq0_int A cap _ wx)) ?_
 refine wl_nil ?_
 refine nx_ret0 rfl fun wx hm => ?_
 exact ⟨rfl, hm.g⟩
theorem equal_ints (l : List Int) (A1 A2 : Option Addr) (n c1 c2 : Nat) (w : World) (h1 : SlT itEnc1 1 3 w A1 n l) (h2 : SlT itEnc1 1 3 w A2 n l) (hn : n ≤ 1000000) :
  Calls Tryz.prog 73 #[.slice A1 n c1, .slice A2 n c2] w (fun e w' => e = .returned (.bool true) ∧ w.grownBy w' none) := by
 refine gw_enter ⟨26, w, none, []⟩ Tryz.func73 rfl Tryz.ntmps73 rfl (mem0 (X := [SlOld itEnc1 1 3 w.heap.size none A1 n l, SlOld itEnc1 1 3 w.heap.size none A2 n l]) (allF_cons h1.old (allF_cons h2.old allF_nil)) (allL_cons SlOld.lasts (allL_cons SlOld.lasts allL_nil))) ?_
 refine sr_ ?_
 have hlen := h1.len
 refine sg_ rfl (nn_ (gw_seq (sr_ (mv_ rfl (wl_ov (ov_len es22 rfl) rfl (mv_ rfl (wl_ov (ov_len es22 rfl) rfl (wl_ov (ov_neq rfl rfl) rfl ?_))))))))
 refine wl_set 10 (v' := .bool false) rfl (congrArg Value.bool (by simp)) ?_
 refine nn_ (cf_ rfl (gw_skip (nx_then (gw_seq (sr_ (mv_ rfl (wl_ov (ov_len es22 rfl) rfl (mv_ rfl (nn_ (gw_block ?_))))))))))
 refine gw_loop (γ := Nat) (fun (k : Nat) => k ≤ n) (fun (k : Nat) => [(0, .slice A1 n c1), (1, .slice A2 n c2), (12, .int .i64 ((n : Nat) : Int)), (13, .int .i64 ((k : Nat) : Int))]) (fun (k : Nat) => fun _ => True) (fun (k : Nat) => []) (fun (k : Nat) => []) (fun (k : Nat) => [SlOld itEnc1 1 3 w.heap.size none A1 n l, SlOld itEnc1 1 3 w.heap.size none A2 n l]) (fun (k : Nat) => n - k) 0 (Nat.zero_le _) ⟨rfl, rfl, rfl, rfl, trivial⟩ (fun _ hm => hm.pick [] [] [0, 1] rfl rfl) ?_
 intro k hinv
 replace hinv : k ≤ n := hinv
 refine sr_ (wl_ov (ov_lss rfl rfl) rfl (nn_ (gw_seq ?_)))
 refine gw_cond rfl (fun hh => ?_) (fun hh => ?_)
 ·have hk : ((k : Nat) : Int) < ((n : Nat) : Int) := by simpa using hh
  clear hh
  refine gw_skip (nx_then (gw_seq (gw_block (sr_ ?_))))
  obtain ⟨b1, o1, hA, _, _⟩ := h1.get (by omega)
  subst hA
  obtain ⟨b2, o2, hA, _, _⟩ := h2.get (by omega)
  subst hA
  obtain ⟨x, hx⟩ : ∃ x, l[k]? = some x := ⟨_, List.getElem?_eq_getElem (by omega)⟩
  refine mv_ rfl (sg_ rfl (nn_ (gw_seq ?_)))
  refine gd (fun wz => (SlOld itEnc1 1 3 w.heap.size none (some ⟨b1, o1, none⟩) n l) wz ∧ (SlOld itEnc1 1 3 w.heap.size none (some ⟨b2, o2, none⟩) n l) wz ∧ True) mixed (fun _ hm => ⟨hm.fa 0, hm.fa 1, trivial⟩) fun z => ?_
  refine wt 0 9 1 rfl z (ov_move rfl) ?_
  refine wt 1 9 3 rfl z (ov_move rfl) ?_
  refine wt 2 9 7 rfl z (ov_index (j := k) es22 rfl rfl (by omega)) ?_
  refine wt 3 9 15 rfl z (ov_elem1 (k := 0) (v := .int .i64 x) sc3 rfl (fun _ hm => (hm.1).1) hx rfl rfl) ?_
  refine wt 4 9 31 rfl z (ov_move rfl) ?_
  refine wt 5 9 63 rfl z (ov_move rfl) ?_
  refine wt 6 9 127 rfl z (ov_index (j := k) es22 rfl rfl (by omega)) ?_
  refine wt 7 9 255 rfl z (ov_elem1 (k := 0) (v := .int .i64 x) sc3 rfl (fun _ hm => (hm.2.1).1) hx rfl rfl) ?_
  refine wt 8 9 511 rfl z (ov_neq rfl rfl) ?_
  refine wa_set 24 (v' := .bool false) rfl (congrArg Value.bool (by simp)) ?_
  refine wa_done (by kernel_rfl) ?_
  refine nx_then (cf_ rfl (gw_skip (nx_blk_nrm (nx_then (gw_region (ad_ rfl rfl (mv_ rfl (wl_nil ?_))))))))
  exact nx_round (k + 1) (by omega) (by omega) ⟨rfl, rfl, rfl, (some_int (by omega)), trivial⟩ (fun _ hm => hm.pick [] [] [0, 1] rfl rfl)
 have hk : ¬ (((k : Nat) : Int) < ((n : Nat) : Int)) := by simpa using hh
 clear hh
 refine gw_exit ?_
 refine nx_then_exit (nx_then_exit ?_)
 refine nx_blk_here ?_
 refine nx_then (sr_ (sg_ rfl (nn_ ?_)))
 refine gw_ret ?_
 refine nx_ret1 rfl rfl fun wx hm => ?_
 exact ⟨rfl, hm.g⟩
theorem broken_bad (sl : List St) (cl : List Cs) (vl : List Vh) (pl : List Pl) (sA cA vA pA : Option Addr) (sn sc cn cc vn vc pn pc : Nat) (el : List Ev) (eA : Option Addr) (en ec : Nat) (w : World) (hs : SlT stEnc 15 140 w sA sn sl) (hc : SlT csEnc 2 159 w cA cn cl) (hv : SlT vhEnc 2 77 w vA vn vl) (hp : SlT plEnc 3 143 w pA pn pl) (hsok : ∀ x ∈ sl, StOk x) (hcok : ∀ x ∈ cl, CsOk x) (hvok : ∀ x ∈ vl, VhOk x) (hpok : ∀ x ∈ pl, PlOk x) (hsn : sn ≤ 1000) (hcn : cn ≤ 1000) (hvn : vn ≤ 1000) (hpn : pn ≤ 1000) (hl : SlT evEnc 5 92 w eA en el) (heok : ∀ x ∈ el, EvOk x) (hen : en ≤ 100000) (h0 : evsE sl cl vl pl el ≠ 0) :
  Calls Tryz.prog 71 #[.agg #[.slice sA sn sc, .slice cA cn cc, .slice vA vn vc, .slice pA pn pc], .slice eA en ec] w (fun e w' => e = .returned (.tuple #[.slice none 0 0, .int .i64 (evsE sl cl vl pl el)]) ∧ w.grownBy w' none) := by
 refine gw_enter ⟨15, w, none, []⟩ Tryz.func71 rfl Tryz.ntmps71 rfl (mem0 (X := [SlOld stEnc 15 140 w.heap.size none sA sn sl, SlOld csEnc 2 159 w.heap.size none cA cn cl, SlOld vhEnc 2 77 w.heap.size none vA vn vl, SlOld plEnc 3 143 w.heap.size none pA pn pl, SlOld evEnc 5 92 w.heap.size none eA en el]) (allF_cons hs.old (allF_cons hc.old (allF_cons hv.old (allF_cons hp.old (allF_cons hl.old allF_nil))))) (allL_cons SlOld.lasts (allL_cons SlOld.lasts (allL_cons SlOld.lasts (allL_cons SlOld.lasts (allL_cons SlOld.lasts allL_nil)))))) ?_
 refine sr_ ?_
 obtain ⟨FE, hFE⟩ : ∃ z, z = evsE sl cl vl pl el := ⟨_, rfl⟩
 rw [← hFE] at h0
 rw [← hFE]
 refine wl_box rfl rfl rfl fun g1 => ?_
 refine sg_ rfl (sg_ rfl (nn_ (gw_seq (sr_ ?_))))
 refine wl_ov (ov_loads rz31 rfl (fun _ hm => hm.blkI 0 rfl) rfl rfl) rfl ?_
 refine mv_ rfl ?_
 refine wl_callv (v := .int .i64 FE) rfl cb56 rfl rfl (fun wx hm => (by rw [hFE]; exact check2_any sl cl vl pl sA cA vA pA sn sc cn cc vn vc pn pc el eA en ec wx (hm.fact 0 rfl).1 (hm.fact 1 rfl).1 (hm.fact 2 rfl).1 (hm.fact 3 rfl).1 hsok hcok hvok hpok hsn hcn hvn hpn (hm.fact 4 rfl).1 heok hen)) ?_
 refine sg_ rfl (nn_ (sr_ (mv_ rfl (wl_ov (ov_neq rfl rfl) rfl (nn_ ?_)))))
 refine gw_cond rfl (fun hh => ?_) (fun hh => ?_)
 ·have h1 : ¬ (FE = 0) := by simpa using hh
  clear hh
  refine sr_ (mv_ rfl (sg_ rfl (sg_ rfl (nn_ ?_))))
  refine gw_ret ?_
  refine nx_then_ret ?_
  refine nx_ret2 rfl rfl rfl fun wx hm => ?_
  exact ⟨rfl, hm.g⟩
 have h1 : FE = 0 := by simpa using hh
 clear hh
 refine gw_skip (nx_then (sr_ ?_))
 exact absurd (by simpa using h1) h0
theorem broken_right (sl : List St) (cl : List Cs) (vl : List Vh) (pl : List Pl) (sA cA vA pA : Option Addr) (sn sc cn cc vn vc pn pc : Nat) (el : List Ev) (eA : Option Addr) (en ec : Nat) (w : World) (hs : SlT stEnc 15 140 w sA sn sl) (hc : SlT csEnc 2 159 w cA cn cl) (hv : SlT vhEnc 2 77 w vA vn vl) (hp : SlT plEnc 3 143 w pA pn pl) (hsok : ∀ x ∈ sl, StOk x) (hcok : ∀ x ∈ cl, CsOk x) (hvok : ∀ x ∈ vl, VhOk x) (hpok : ∀ x ∈ pl, PlOk x) (hsn : sn ≤ 1000) (hcn : cn ≤ 1000) (hvn : vn ≤ 1000) (hpn : pn ≤ 1000) (hl : SlT evEnc 5 92 w eA en el) (heok : ∀ x ∈ el, EvOk x) (hen : en ≤ 100000) (h0 : evsE sl cl vl pl el = 0) :
  Calls Tryz.prog 71 #[.agg #[.slice sA sn sc, .slice cA cn cc, .slice vA vn vc, .slice pA pn pc], .slice eA en ec] w (fun e w' => ∃ (A : Option Addr) (k c : Nat), e = .returned (.tuple #[.slice A k c, .int .i64 0]) ∧ SlT itEnc1 1 3 w' A k (brokenP el) ∧ k ≤ en ∧ w.grownBy w' none) := by
 refine gw_enter ⟨15, w, none, []⟩ Tryz.func71 rfl Tryz.ntmps71 rfl (mem0 (X := [SlOld stEnc 15 140 w.heap.size none sA sn sl, SlOld csEnc 2 159 w.heap.size none cA cn cl, SlOld vhEnc 2 77 w.heap.size none vA vn vl, SlOld plEnc 3 143 w.heap.size none pA pn pl, SlOld evEnc 5 92 w.heap.size none eA en el]) (allF_cons hs.old (allF_cons hc.old (allF_cons hv.old (allF_cons hp.old (allF_cons hl.old allF_nil))))) (allL_cons SlOld.lasts (allL_cons SlOld.lasts (allL_cons SlOld.lasts (allL_cons SlOld.lasts (allL_cons SlOld.lasts allL_nil)))))) ?_
 refine sr_ ?_
 obtain ⟨FE, hFE⟩ : ∃ z, z = evsE sl cl vl pl el := ⟨_, rfl⟩
 rw [← hFE] at h0
 refine wl_box rfl rfl rfl fun g1 => ?_
 refine sg_ rfl (sg_ rfl (nn_ (gw_seq (sr_ ?_))))
 refine wl_ov (ov_loads rz31 rfl (fun _ hm => hm.blkI 0 rfl) rfl rfl) rfl ?_
 refine mv_ rfl ?_
 refine wl_callv (v := .int .i64 FE) rfl cb56 rfl rfl (fun wx hm => (by rw [hFE]; exact check2_any sl cl vl pl sA cA vA pA sn sc cn cc vn vc pn pc el eA en ec wx (hm.fact 0 rfl).1 (hm.fact 1 rfl).1 (hm.fact 2 rfl).1 (hm.fact 3 rfl).1 hsok hcok hvok hpok hsn hcn hvn hpn (hm.fact 4 rfl).1 heok hen)) ?_
 refine sg_ rfl (nn_ (sr_ (mv_ rfl (wl_ov (ov_neq rfl rfl) rfl (nn_ ?_)))))
 refine gw_cond rfl (fun hh => ?_) (fun hh => ?_)
 ·have h1 : ¬ (FE = 0) := by simpa using hh
  clear hh
  refine sr_ ?_
  exact absurd h0 (by simpa using h1)
 have h1 : FE = 0 := by simpa using hh
 clear hh
 refine gw_skip (nx_then (sr_ (mv_ rfl ?_)))
 refine wl_callgo (γ := Option Addr × Nat × Nat) (val := (fun g => .slice g.1 g.2.1 g.2.2)) (φ := (fun g => (brokenP el).length = g.2.1 ∧ g.2.1 ≤ en)) (fun g => ⟨.slice g.1 g.2.1 g.2.2, 3, 1, g.2.1, (brokenP el).flatMap itEnc1⟩) rfl cb160 rfl rfl (fun wx hm => (broken_any el eA en ec wx (hm.fact 4 rfl).1 hen).mono fun _ _ ⟨A, k, c, he, ho, h1, h2, hg⟩ => ⟨(A, k, c), he, ⟨h1, h2⟩, ho, hg⟩) ?_
 rintro ⟨A, k, c⟩ hbp
 dsimp only at hbp ⊢
 refine sg_ rfl (sg_ rfl (nn_ ?_))
 refine gw_ret ?_
 refine nx_ret2 rfl rfl rfl fun wx hm => ?_
 exact ⟨A, k, c, rfl, SlT.ofOwn it_len1 (hm.ownI 0 rfl) hbp.1, hbp.2, hm.g⟩
def stOfE (sl : List St) (cl : List Cs) (vl : List Vh) (pl : List Pl) (el : List Ev) (k : ByteArray) (mt : Int) : Int := firstE [evsE sl cl vl pl el, whenE (decide (ixP (vhP k) vl 0 < 0)) 8, momentE mt]
theorem stateOf_any (sl : List St) (cl : List Cs) (vl : List Vh) (pl : List Pl) (sA cA vA pA : Option Addr) (sn sc cn cc vn vc pn pc : Nat) (el : List Ev) (eA : Option Addr) (en ec : Nat) (k : ByteArray) (mt : Int) (w : World) (hs : SlT stEnc 15 140 w sA sn sl) (hc : SlT csEnc 2 159 w cA cn cl) (hv : SlT vhEnc 2 77 w vA vn vl) (hp : SlT plEnc 3 143 w pA pn pl) (hsok : ∀ x ∈ sl, StOk x) (hcok : ∀ x ∈ cl, CsOk x) (hvok : ∀ x ∈ vl, VhOk x) (hpok : ∀ x ∈ pl, PlOk x) (hsn : sn ≤ 1000) (hcn : cn ≤ 1000) (hvn : vn ≤ 1000) (hpn : pn ≤ 1000) (hl : SlT evEnc 5 92 w eA en el) (heok : ∀ x ∈ el, EvOk x) (hen : en ≤ 100000) :
  Calls Tryz.prog 72 #[.agg #[.slice sA sn sc, .slice cA cn cc, .slice vA vn vc, .slice pA pn pc], .slice eA en ec, .string k, .int .i64 mt] w (fun e w' => ∃ S : Sa, e = .returned (.tuple #[.agg #[.int .i64 S.st, .string S.sta, .int .i64 S.since], .int .i64 (stOfE sl cl vl pl el k mt)]) ∧ (stOfE sl cl vl pl el k mt = 0 → S = ((statesM el mt) k).getD sa0) ∧ (stOfE sl cl vl pl el k mt ≠ 0 → S = sa0) ∧ w.grownBy w' none) := by
 refine gw_enter ⟨37, w, none, []⟩ Tryz.func72 rfl Tryz.ntmps72 rfl (mem0 (X := [SlOld stEnc 15 140 w.heap.size none sA sn sl, SlOld csEnc 2 159 w.heap.size none cA cn cl, SlOld vhEnc 2 77 w.heap.size none vA vn vl, SlOld plEnc 3 143 w.heap.size none pA pn pl, SlOld evEnc 5 92 w.heap.size none eA en el]) (allF_cons hs.old (allF_cons hc.old (allF_cons hv.old (allF_cons hp.old (allF_cons hl.old allF_nil))))) (allL_cons SlOld.lasts (allL_cons SlOld.lasts (allL_cons SlOld.lasts (allL_cons SlOld.lasts (allL_cons SlOld.lasts allL_nil)))))) ?_
 refine sr_ ?_
 obtain ⟨FE, hFE⟩ : ∃ z, z = evsE sl cl vl pl el := ⟨_, rfl⟩
 obtain ⟨TE, hTE⟩ : ∃ z, z = stOfE sl cl vl pl el k mt := ⟨_, rfl⟩
 rw [← hTE]
 have hT0 : TE = firstE [FE, whenE (decide (ixP (vhP k) vl 0 < 0)) 8, momentE mt] := by rw [hTE, hFE]; rfl
 refine wl_box rfl rfl rfl fun g1 => ?_
 refine wl_alloc zc132 rfl fun g2 => ?_
 refine sg_ rfl (nn_ (gw_seq (sr_ ?_)))
 refine wl_ov (ov_loads rz31 rfl (fun _ hm => hm.blkI 1 rfl) rfl rfl) rfl ?_
 refine mv_ rfl ?_
 refine wl_callv (v := .int .i64 FE) rfl cb56 rfl rfl (fun wx hm => (by rw [hFE]; exact check2_any sl cl vl pl sA cA vA pA sn sc cn cc vn vc pn pc el eA en ec wx (hm.fact 0 rfl).1 (hm.fact 1 rfl).1 (hm.fact 2 rfl).1 (hm.fact 3 rfl).1 hsok hcok hvok hpok hsn hcn hvn hpn (hm.fact 4 rfl).1 heok hen)) ?_
 refine sg_ rfl (nn_ (sr_ (mv_ rfl (wl_ov (ov_neq rfl rfl) rfl (nn_ ?_)))))
 refine gw_cond rfl (fun hh => ?_) (fun hh => ?_)
 ·have h1 : ¬ (FE = 0) := by simpa using hh
  clear hh
  refine sr_ ?_
  have h2 : FE ≠ 0 := by simpa using h1
  have h3 : TE = FE := by rw [hT0]; exact fe_hd h2
  refine wl_ov (ov_build (cs := [.int .i64 0, .string ⟨#[]⟩, .int .i64 0]) rfl (by kernel_rfl)) rfl ?_
  refine mv_ rfl ?_
  refine wl_stores (cs' := [.int .i64 0, .string ⟨#[]⟩, .int .i64 0]) 0 rz132 rfl rfl rfl rfl rfl rfl rfl rfl ?_
  refine sg_ rfl (nn_ ?_)
  refine gw_ret ?_
  refine nx_then_ret ?_
  refine nx_retct 0 rfl rz132 rfl rfl rfl rfl fun wx hm => ?_
  exact ⟨sa0, by rw [h3]; rfl, fun h => absurd h (by rw [h3]; exact h2), fun _ => rfl, hm.g⟩
 have h1 : FE = 0 := by simpa using hh
 clear hh
 refine gw_skip (nx_then (gw_seq (sr_ ?_)))
 have h2 : FE = 0 := by simpa using h1
 have hrise : Rise vl := fleet_rise (evs_ok (hFE.symm.trans h2)).1
 have hT1 : TE = firstE [whenE (decide (ixP (vhP k) vl 0 < 0)) 8, momentE mt] := by rw [hT0, h2]; exact fe_tl
 refine wl_ov (ov_loads rz31 rfl (fun _ hm => hm.blkI 1 rfl) rfl rfl) rfl ?_
 refine mv_ rfl ?_
 refine wl_callv rfl cb80 rfl rfl (fun wx hm => (vehicleAt_any vl sA cA vA pA sn sc cn cc vn vc pn pc k wx (hm.fact 2 rfl).1 (by omega) hrise)) ?_
 refine wl_ov (ov_lss rfl rfl) rfl ?_
 refine wl_callw rfl cb79 rfl rfl (fun wx hm => (when_any _ _ wx)) ?_
 refine mv_ rfl ?_
 refine wl_callw rfl cb81 rfl rfl (fun wx hm => (moment_any _ wx)) ?_
 refine wl_buildSlice (e := 35) (cs := [.int .i64 (whenE (decide (ixP (vhP k) vl 0 < 0)) 8), .int .i64 (momentE mt)]) rfl (by kernel_rfl) rfl fun g3 => ?_
 refine wl_callw rfl cb78 rfl rfl (fun wx hm => (first_any [whenE (decide (ixP (vhP k) vl 0 < 0)) 8, momentE mt] _ _ _ wx (hm.blkI 0 rfl) (by simp))) ?_
 refine sg_ rfl (nn_ (sr_ (mv_ rfl (wl_ov (ov_neq rfl rfl) rfl (nn_ ?_)))))
 refine gw_cond rfl (fun hh => ?_) (fun hh => ?_)
 ·have h3 : ¬ (firstE [whenE (decide (ixP (vhP k) vl 0 < 0)) 8, momentE mt] = 0) := by simpa using hh
  clear hh
  refine sr_ ?_
  have h4 : TE ≠ 0 := by rw [hT1]; simpa using h3
  refine wl_ov (ov_build (cs := [.int .i64 0, .string ⟨#[]⟩, .int .i64 0]) rfl (by kernel_rfl)) rfl ?_
  refine mv_ rfl ?_
  refine wl_stores (cs' := [.int .i64 0, .string ⟨#[]⟩, .int .i64 0]) 1 rz132 rfl rfl rfl rfl rfl rfl rfl rfl ?_
  refine sg_ rfl (nn_ ?_)
  refine gw_ret ?_
  refine nx_then_ret ?_
  refine nx_retct 1 rfl rz132 rfl rfl rfl rfl fun wx hm => ?_
  exact ⟨sa0, by rw [hT1]; rfl, fun h => absurd h h4, fun _ => rfl, hm.g⟩
 have h3 : firstE [whenE (decide (ixP (vhP k) vl 0 < 0)) 8, momentE mt] = 0 := by simpa using hh
 clear hh
 refine gw_skip (nx_then (sr_ ?_))
 have h4 : TE = 0 := by rw [hT1]; simpa using h3
 refine mv_ rfl (mv_ rfl ?_)
 refine wl_callx (γ := Nat) (val := (fun g => .map (some g))) (φ := (fun g => True)) (Y := (fun g => fun wy => MapF encS 0 g (statesM el mt) wy)) rfl cb121 rfl rfl (fun wx hm => (states_any el eA en ec mt wx (hm.fact 4 rfl).1 hen).mono fun _ _ ⟨g, he, h1, hg⟩ => ⟨g, he, trivial, hg, h1⟩) (fun _ => MapF.lasts2) ?_
 rintro m1 hphi
 clear hphi
 refine mv_ rfl ?_
 refine wl_ov (ov_lookF (enc := encS) (k := 9) (e := 132) sa0 (by kernel_rfl) (by kernel_rfl) (by kernel_rfl) rfl rfl (fun _ hm => (hm.fact 0 rfl))) rfl ?_
 refine wl_stores (cs' := [.int .i64 ((((statesM el mt) k).getD sa0).st), .string ((((statesM el mt) k).getD sa0).sta), .int .i64 ((((statesM el mt) k).getD sa0).since)]) 1 rz132 rfl rfl rfl rfl rfl rfl rfl rfl ?_
 refine sg_ rfl (nn_ ?_)
 refine gw_ret ?_
 refine nx_retct 1 rfl rz132 rfl rfl rfl rfl fun wx hm => ?_
 exact ⟨((statesM el mt) k).getD sa0, by rw [h4], fun _ => rfl, fun h => absurd h4 h, hm.g⟩
theorem it_one1 : ∀ (x : Int), ∀ v ∈ itEnc1 x, v.oneCell' = true := fun x v hv => by
  unfold itEnc1 at hv
  rw [List.mem_singleton.1 hv]; rfl
def brokensV (el : List Ev) (vl : List Vh) : List Int := vl.flatMap fun v => brokenV el v.key
theorem brokens_at {el : List Ev} {vl : List Vh} {i : Nat} {x : Vh} (h : vl[i]? = some x) : brokensV el (vl.take (i + 1)) = brokensV el (vl.take i) ++ brokenV el x.key := by
  unfold brokensV
  rw [List.take_add_one, h, Option.toList_some, List.flatMap_append]
  simp
theorem brokenOf_any (vl : List Vh) (sA cA vA pA : Option Addr) (sn sc cn cc vn vc pn pc : Nat) (el : List Ev) (eA : Option Addr) (en ec : Nat) (w : World) (hv : SlT vhEnc 2 77 w vA vn vl) (hl : SlT evEnc 5 92 w eA en el) (hen : en ≤ 100) (hvn : vn ≤ 100) :
  Calls Tryz.prog 74 #[.agg #[.slice sA sn sc, .slice cA cn cc, .slice vA vn vc, .slice pA pn pc], .slice eA en ec] w (fun e w' => ∃ (A : Option Addr) (k c : Nat), e = .returned (.slice A k c) ∧ SlT itEnc1 1 3 w' A k (sortI (brokensV el vl)) ∧ w.grownBy w' none) := by
 refine gw_enter ⟨31, w, none, []⟩ Tryz.func74 rfl Tryz.ntmps74 rfl (mem0 (X := [SlOld vhEnc 2 77 w.heap.size none vA vn vl, SlOld evEnc 5 92 w.heap.size none eA en el]) (allF_cons hv.old (allF_cons hl.old allF_nil)) (allL_cons SlOld.lasts (allL_cons SlOld.lasts allL_nil))) ?_
 refine sr_ ?_
 have hlen := hv.len
 refine wl_nilOwn 3 1 ?_
 refine wl_box rfl rfl rfl fun g1 => ?_
 refine sg_ rfl (nn_ (sr_ (sg_ rfl (nn_ (gw_seq (sr_ (fd_ fo31_2 rfl rfl (lk_ sc28 0 rfl rfl rfl (wl_ov (ov_len es28 rfl) rfl ?_)))))))))
 refine mv_ rfl (nn_ (gw_block ?_))
 refine gw_loop (γ := Nat × Nat × Option Addr × Nat) (fun g => g.1 ≤ vn ∧ g.2.1 ≤ g.1 * 100 ∧ (brokensV el (vl.take g.1)).length = g.2.1) (fun g => [(1, .slice eA en ec), (4, .slice none 0 0), (5, .slice g.2.2.1 g.2.1 g.2.2.2), (11, .slice vA vn vc), (12, .int .i64 ((vn : Nat) : Int)), (13, .int .i64 ((g.1 : Nat) : Int))]) (fun g => fun _ => True) (fun g => [(g1, 31, [.slice sA sn sc, .slice cA cn cc, .slice vA vn vc, .slice pA pn pc])]) (fun g => [⟨.slice g.2.2.1 g.2.1 g.2.2.2, 3, 1, g.2.1, (brokensV el (vl.take g.1)).flatMap itEnc1⟩]) (fun g => [SlOld vhEnc 2 77 w.heap.size none vA vn vl, SlOld evEnc 5 92 w.heap.size none eA en el]) (fun g => vn - g.1) (0, 0, none, 0) ⟨Nat.zero_le _, Nat.zero_le _, rfl⟩ ⟨rfl, rfl, rfl, rfl, rfl, rfl, trivial⟩ (fun _ hm => hm.pick [0] [0] [0, 1] rfl rfl) ?_
 rintro ⟨i, k, oA, oc⟩ hinv
 replace hinv : i ≤ vn ∧ k ≤ i * 100 ∧ (brokensV el (vl.take i)).length = k := hinv
 dsimp only
 refine sr_ ?_
 obtain ⟨hi0, hki, hol⟩ := hinv
 refine wl_ov (ov_lss rfl rfl) rfl (nn_ (gw_seq ?_))
 refine gw_cond rfl (fun hh => ?_) (fun hh => ?_)
 ·have hi : ((i : Nat) : Int) < ((vn : Nat) : Int) := by simpa using hh
  clear hh
  refine gw_skip (nx_then (gw_seq (gw_block (sr_ ?_))))
  obtain ⟨b, off, hA, _, _⟩ := hv.get (by omega)
  subst hA
  obtain ⟨x, hx⟩ : ∃ x, vl[i]? = some x := ⟨_, List.getElem?_eq_getElem (by omega)⟩
  obtain ⟨vk, vc2⟩ := x
  have hat := brokens_at (el := el) hx
  dsimp only at hat
  refine wl_ov (ov_index (j := i) es28 rfl rfl (by omega)) rfl ?_
  refine wl_ov (ov_elem (vs := [.string vk, .string vc2]) rz77 rfl (fun _ hm => (hm.fact 0 rfl).1) hx rfl rfl) rfl ?_
  refine wl_alloc zc77 rfl fun g2 => ?_
  refine wl_stores (cs' := [.string vk, .string vc2]) 0 rz77 rfl rfl rfl rfl rfl rfl rfl rfl ?_
  refine nn_ (sr_ (mv_ rfl (fd_ fo77_0 rfl rfl (lk_ sc9 0 rfl rfl rfl ?_))))
  refine wl_callgo (γ := Option Addr × Nat × Nat × Option Addr × Nat × Nat) (val := (fun g => .tuple #[.slice g.1 g.2.1 g.2.2.1, .slice g.2.2.2.1 g.2.2.2.2.1 g.2.2.2.2.2])) (φ := (fun g => (brokenV el vk).length = g.2.2.2.2.1 ∧ g.2.2.2.2.1 ≤ en)) (fun g => ⟨.slice g.2.2.2.1 g.2.2.2.2.1 g.2.2.2.2.2, 3, 1, g.2.2.2.2.1, (brokenV el vk).flatMap itEnc1⟩) rfl cb107 rfl rfl (fun wx hm => (stages_any el eA en ec vk wx (hm.fact 1 rfl).1 (by omega)).mono fun _ _ ⟨A1, n1, c1, A2, n2, c2, he, ho1, hz1, ho2, hz2, hb1, hb2, hg⟩ => ⟨(A1, n1, c1, A2, n2, c2), he, ⟨hz2, hb2⟩, ho2, hg⟩) ?_
  rintro ⟨A1, n1, c1, A2, n2, c2⟩ hb2
  dsimp only at hb2 ⊢
  refine mv_ rfl (wl_ov (ov_extract rfl rfl) rfl (wl_ov (ov_extract rfl rfl) rfl (sg_ rfl (sg_ rfl (nn_ (gw_region (mv_ rfl (mv_ rfl ?_))))))))
  refine wl_appendO 1 0 ap22 rfl rfl rfl rfl (flat_one itEnc1 it_one1 _) (by omega) (by unfold maxLen; omega) rfl rfl fun v2 hv => ?_
  refine wl_look (R := ∃ A cc, v2 = .slice A (k + n2) cc) (fun wx hm => own_slice (hm.ownI 1 rfl)) ?_
  rintro ⟨A3, c3, rfl⟩
  have hxs : (brokensV el (vl.take i)).flatMap itEnc1 ++ (brokenV el vk).flatMap itEnc1 = (brokensV el (vl.take (i + 1))).flatMap itEnc1 := by rw [hat]; simp
  rw [hxs]
  refine sg_ rfl (wl_nil (nx_blk_nrm (nx_then (gw_region (ad_ rfl rfl (mv_ rfl (wl_nil ?_)))))))
  exact nx_round (i + 1, k + n2, A3, c3) ⟨by dsimp only; omega, by dsimp only; omega, by dsimp only; rw [hat, List.length_append, hol, hb2.1]⟩ (by dsimp only; omega) ⟨rfl, rfl, rfl, rfl, rfl, (some_int (by omega)), trivial⟩ (fun _ hm => hm.pick [1] [1] [0, 1] rfl rfl)
 have hi : ¬ (((i : Nat) : Int) < ((vn : Nat) : Int)) := by simpa using hh
 clear hh
 refine gw_exit ?_
 refine nx_then_exit (nx_then_exit ?_)
 refine nx_blk_here ?_
 refine nx_then (sr_ ?_)
 have hall : vl.take i = vl := List.take_of_length_le (by omega)
 rw [hall] at hol
 rw [hall]
 refine mv_ rfl ?_
 by_cases hk0 : k = 0
 ·subst hk0
  have hnil : brokensV el vl = [] := List.length_eq_zero_iff.1 hol
  refine wl_callv rfl cb161 rfl rfl (fun wx hm => (sort0_int oA oc wx)) ?_
  refine nn_ (sr_ (mv_ rfl (sg_ rfl (nn_ ?_))))
  refine gw_ret ?_
  refine nx_ret1 rfl rfl fun wx hm => ?_
  exact ⟨oA, 0, oc, rfl, by rw [show sortI (brokensV el vl) = [] by rw [hnil]; simp [sortI]]; exact SlT.nil_ _ _, hm.g⟩
 refine wl_look (R := ∃ g, oA = some ⟨g, 0, none⟩) (fun wx hm => own_addr (hm.ownI 0 rfl) (by omega)) ?_
 rintro ⟨g5, rfl⟩
 refine wl_callr (v := .tuple #[]) (xs' := (sortI (brokensV el vl)).flatMap itEnc1) 0 rfl rfl rfl cb161 rfl rfl (fun wx hm => (sort_own (brokensV el vl) g5 k oc _ wx (hm.ownI 0 rfl) hol (by omega))) ?_
 refine nn_ (sr_ (mv_ rfl (sg_ rfl (nn_ ?_))))
 refine gw_ret ?_
 refine nx_ret1 rfl rfl fun wx hm => ?_
 exact ⟨_, k, oc, rfl, SlT.ofOwn it_len1 (hm.ownI 0 rfl) (by rw [sortI_len]; exact hol), hm.g⟩
end Go.Proofs.YtjecbkgjabnmoaaGreatDoor
namespace Go.Proofs.YtjecbkgjabnmoaaGreatDoor
open Go.RowKit
theorem logStates_walk (a0 : Option Addr) (len0 cap0 : Nat) (z0 : List Int) (w : World) (hR : RowIn w a0 len0 cap0 z0) :
  Calls Tryz.prog 10 #[.slice a0 len0 cap0] w fun e w' => e = .returned (.bool true) ∧ Below w.heap.size w w' := by
 refine gw_enter ⟨104, w, none, []⟩ Tryz.func10 rfl Tryz.ntmps10 rfl (mem0 (X := []) allF_nil allL_nil) ?_
 refine sr_ (sg_ rfl (nn_ (sr_ (mv_ rfl ?_))))
 refine wl_ov (ov_build (cs := [.slice a0 len0 cap0, .int .i64 0]) rfl (by kernel_rfl)) rfl ?_
 refine wl_box rfl rfl rfl fun sb => ?_
 refine sg_ rfl (nn_ (sr_ (mv_ rfl (mv_ rfl ?_))))
 refine wl_law [140, 159, 77, 143, 92] hR 0 rfl fun w1 B hg1 hsb => ?_
 refine wl_got (γ := Int) (val := fun v => .int .i64 v) (φ := fun v => 0 ≤ v ∧ (v ≤ 14 ∨ v = 0)) rfl cb28 rfl rfl rfl rfl (fun wx hm => (range_any _ _ wx B sb _ hm.k (by omega) (by omega) (by omega) (by omega) (by omega))) fun v1 hv1 => ?_
 obtain ⟨q, hq⟩ := Int.eq_ofNat_of_zero_le (show 0 ≤ v1 by omega)
 have hq20 : q ≤ 20 := by omega
 subst hq
 refine wl_calls (γ := Option Addr × Option Addr × Option Addr × Option Addr × Nat × Nat × Nat × Nat × Nat × Nat × Nat × List St × List Cs × List Vh × List Pl × Option Addr × Nat × Nat × List Ev) (val := (fun g => .tuple #[.agg #[.slice g.1 g.2.2.2.2.1 g.2.2.2.2.2.1, .slice g.2.1 4 g.2.2.2.2.2.2.1, .slice g.2.2.1 g.2.2.2.2.2.2.2.1 g.2.2.2.2.2.2.2.2.1, .slice g.2.2.2.1 g.2.2.2.2.2.2.2.2.2.1 g.2.2.2.2.2.2.2.2.2.2.1], .slice g.2.2.2.2.2.2.2.2.2.2.2.2.2.2.2.1 g.2.2.2.2.2.2.2.2.2.2.2.2.2.2.2.2.1 g.2.2.2.2.2.2.2.2.2.2.2.2.2.2.2.2.2.1, .int .i64 (evsE g.2.2.2.2.2.2.2.2.2.2.2.1 g.2.2.2.2.2.2.2.2.2.2.2.2.1 g.2.2.2.2.2.2.2.2.2.2.2.2.2.1 g.2.2.2.2.2.2.2.2.2.2.2.2.2.2.1 g.2.2.2.2.2.2.2.2.2.2.2.2.2.2.2.2.2.2)])) (φ := (fun g => (FlOk g.2.2.2.2.2.2.2.2.2.2.2.1 g.2.2.2.2.2.2.2.2.2.2.2.2.1 g.2.2.2.2.2.2.2.2.2.2.2.2.2.1 g.2.2.2.2.2.2.2.2.2.2.2.2.2.2.1 g.2.2.2.2.1 g.2.2.2.2.2.2.2.1 g.2.2.2.2.2.2.2.2.2.1 ∧ ShapeA g.2.2.2.1 g.2.2.2.2.2.2.2.2.2.1 g.2.2.2.2.2.2.2.2.2.2.1 ∧ g.2.2.2.2.2.2.2.2.2.1 ≤ g.2.2.2.2.2.2.2.2.2.2.1) ∧ (g.2.2.2.2.2.2.2.2.2.2.2.2.2.2.2.2.2.2.length = g.2.2.2.2.2.2.2.2.2.2.2.2.2.2.2.2.1 ∧ (∀ x ∈ g.2.2.2.2.2.2.2.2.2.2.2.2.2.2.2.2.2.2, EvOk x) ∧ g.2.2.2.2.2.2.2.2.2.2.2.2.2.2.2.2.1 ≤ q) ∧ ShapeA g.2.2.2.2.2.2.2.2.2.2.2.2.2.2.2.1 g.2.2.2.2.2.2.2.2.2.2.2.2.2.2.2.2.1 g.2.2.2.2.2.2.2.2.2.2.2.2.2.2.2.2.2.1 ∧ g.2.2.2.2.2.2.2.2.2.2.2.2.2.2.2.2.1 ≤ g.2.2.2.2.2.2.2.2.2.2.2.2.2.2.2.2.2.1)) (Y := (fun g => fun wy => SlT stEnc 15 140 wy g.1 g.2.2.2.2.1 g.2.2.2.2.2.2.2.2.2.2.2.1 ∧ SlT csEnc 2 159 wy g.2.1 4 g.2.2.2.2.2.2.2.2.2.2.2.2.1 ∧ SlT vhEnc 2 77 wy g.2.2.1 g.2.2.2.2.2.2.2.1 g.2.2.2.2.2.2.2.2.2.2.2.2.2.1 ∧ SlT plEnc 3 143 wy g.2.2.2.1 g.2.2.2.2.2.2.2.2.2.1 g.2.2.2.2.2.2.2.2.2.2.2.2.2.2.1 ∧ SlT evEnc 5 92 wy g.2.2.2.2.2.2.2.2.2.2.2.2.2.2.2.1 g.2.2.2.2.2.2.2.2.2.2.2.2.2.2.2.2.1 g.2.2.2.2.2.2.2.2.2.2.2.2.2.2.2.2.2.2)) (m' := 0 + 2000) rfl cb27 rfl rfl rfl rfl (fun wx hm => (scene_any q wx B sb _ hm.k (by omega) (by omega)).mono fun _ _ ⟨sA, cA, vA, pA, sn, sc, cc, vn, vc, pn, pc, sl, cl, vl, pl, eA, en, ec, el, he, hok, hel, hS, hg, ho, h1, h2, h3, h4⟩ => ⟨(sA, cA, vA, pA, sn, sc, cc, vn, vc, pn, pc, sl, cl, vl, pl, eA, en, ec, el), he, ⟨hok, hel, own_shape ho, own_cap ho⟩, hS.more (by omega), hg, h1, h2, h3, h4, SlT.ofOwn ev_len ho hel.1⟩) (fun _ => (SlT.lasts2 rfl).and_ ((SlT.lasts2 rfl).and_ ((SlT.lasts2 rfl).and_ ((SlT.lasts2 rfl).and_ (SlT.lasts2 rfl))))) ?_
 rintro ⟨sA, cA, vA, pA, sn, sc, cc, vn, vc, pn, pc, sl, cl, vl, pl, eA, en, ec, el⟩ hsc
 dsimp only at hsc ⊢
 obtain ⟨⟨⟨⟨hsok, hsn10⟩, hcok, ⟨hvB, hvn10⟩, hpB, hpn10⟩, hsh, hpnc⟩, ⟨hell, heok, henq⟩, hesh, henc⟩ := hsc
 have hvok : ∀ x ∈ vl, VhOk x := fun x hx => vhB_ok (hvB x hx)
 have hpok : ∀ x ∈ pl, PlOk x := fun x hx => plB_ok (hpB x hx)
 refine mv_ rfl (wl_ov (ov_extract rfl rfl) rfl (wl_ov (ov_extract rfl rfl) rfl (wl_ov (ov_extract rfl rfl) rfl ?_)))
 refine wl_alloc zc31 rfl fun g2 => ?_
 refine wl_stores (cs' := [.slice sA sn sc, .slice cA 4 cc, .slice vA vn vc, .slice pA pn pc]) 0 rz31 rfl rfl rfl rfl rfl rfl rfl rfl ?_
 refine sg_ rfl (sg_ rfl (nn_ (sr_ (mv_ rfl ?_))))
 refine wl_calls (γ := ByteArray) (val := (fun g => .string g)) (φ := (fun g => g.size ≤ 100)) (Y := (fun g => fun _ => True)) (m' := 0 + 2000 + 1) rfl cb12 rfl rfl rfl rfl (fun wx hm => (gvehicleKey_any wx B sb _ hm.k (by omega)).mono fun _ _ ⟨v, he, hv, hS, hg⟩ => ⟨v, he, hv, hS, hg, trivial⟩) (fun _ => Lasts2.true_) ?_
 rintro kv hkv
 refine mv_ rfl ?_
 refine wl_calls (γ := Int) (val := (fun g => .int .i64 g)) (φ := (fun g => -1 ≤ g ∧ g ≤ 5761440)) (Y := (fun g => fun _ => True)) (m' := 0 + 2000 + 1 + 1) rfl cb45 rfl rfl rfl rfl (fun wx hm => (gmoment_any wx B sb _ hm.k (by omega)).mono fun _ _ ⟨v, he, h1, h2, hS, hg⟩ => ⟨v, he, ⟨h1, h2⟩, hS, hg, trivial⟩) (fun _ => Lasts2.true_) ?_
 rintro mt hmt
 refine sg_ rfl (sg_ rfl (nn_ (sr_ ?_)))
 refine wl_ov (ov_loads rz31 rfl (fun _ hm => hm.blkI 0 rfl) rfl rfl) rfl ?_
 refine mv_ rfl ?_
 refine wl_nest none [3] fun w2 hm_w2 => ⟨_, _, _, _, mem0 (X := [BlkOld w2.heap.size none g2 31 [.slice sA sn sc, .slice cA 4 cc, .slice vA vn vc, .slice pA pn pc], SlOld stEnc 15 140 w2.heap.size none sA sn sl, SlOld csEnc 2 159 w2.heap.size none cA 4 cl, SlOld vhEnc 2 77 w2.heap.size none vA vn vl, SlOld plEnc 3 143 w2.heap.size none pA pn pl, SlOld evEnc 5 92 w2.heap.size none eA en el]) (allF_cons (hm_w2.blkI 0 rfl).old (allF_cons (SlT.old (hm_w2.fact 2 rfl).1) (allF_cons (SlT.old (hm_w2.fact 2 rfl).2.1) (allF_cons (SlT.old (hm_w2.fact 2 rfl).2.2.1) (allF_cons (SlT.old (hm_w2.fact 2 rfl).2.2.2.1) (allF_cons (SlT.old (hm_w2.fact 2 rfl).2.2.2.2) allF_nil)))))) (allL_cons BlkOld.lasts (allL_cons SlOld.lasts (allL_cons SlOld.lasts (allL_cons SlOld.lasts (allL_cons SlOld.lasts (allL_cons SlOld.lasts allL_nil)))))), ?_⟩
 obtain ⟨FE, hFE⟩ : ∃ z, z = evsE sl cl vl pl el := ⟨_, rfl⟩
 obtain ⟨E1, hE1⟩ : ∃ z, z = stOfE sl cl vl pl el kv mt := ⟨_, rfl⟩
 have hone : E1 = firstE [FE, whenE (decide (ixP (vhP kv) vl 0 < 0)) 8, momentE mt] := by rw [hE1, hFE]; rfl
 rw [← hFE]
 by_cases h1 : FE = 0
 ·subst h1
  obtain ⟨hf0, hl0⟩ := evs_ok hFE.symm
  have hrise : Rise vl := fleet_rise hf0
  obtain ⟨hsort, hfine, _⟩ := log_ok hl0
  by_cases h2 : E1 = 0
  ·subst h2
   have hmt0 : 0 ≤ mt := by
    have h := fe_all (hone.symm) (momentE mt) (by simp)
    unfold momentE at h
    cases hi : inB mt 0 5761439 with
    | true => exact (inB_iff.1 hi).1
    | false => rw [hi] at h; cases h
   obtain ⟨Q, hQ⟩ : ∃ z, z = stateR el kv mt := ⟨_, rfl⟩
   obtain ⟨q0, q1, q2⟩ := Q
   have hq := hQ.symm
   have hst : ((statesM el mt) kv).getD sa0 = ⟨q0, q1, q2⟩ := (statesM_eq hsort hmt0).trans hq
   refine wl_callx (γ := Option Addr × Nat × Nat) (val := (fun g => .tuple #[.slice g.1 g.2.1 g.2.2, .int .i64 0])) (φ := (fun g => g.2.1 ≤ en)) (Y := (fun g => fun wy => SlT itEnc1 1 3 wy g.1 g.2.1 (brokenP el))) rfl cb71 rfl rfl (fun wx hm => (broken_right sl cl vl pl sA cA vA pA sn sc 4 cc vn vc pn pc el eA en ec wx (hm.fact 1 rfl).1 (hm.fact 2 rfl).1 (hm.fact 3 rfl).1 (hm.fact 4 rfl).1 hsok hcok hvok hpok (by omega) (by omega) (by omega) (by omega) (hm.fact 5 rfl).1 heok (by omega) hFE.symm).mono fun _ _ ⟨A, k, c, he, h1, hk, hg⟩ => ⟨(A, k, c), he, hk, hg, h1⟩) (fun _ => SlT.lasts2 rfl) ?_
   rintro ⟨bA, bk, bc⟩ hbk
   dsimp only at hbk ⊢
   refine mv_ rfl (wl_ov (ov_extract rfl rfl) rfl (wl_ov (ov_extract rfl rfl) rfl (sg_ rfl (sg_ rfl (nn_ (sr_ ?_))))))
   refine wl_ov (ov_loads (vs := [.slice sA sn sc, .slice cA 4 cc, .slice vA vn vc, .slice pA pn pc]) rz31 rfl (fun _ hm => (hm.fact 1 rfl).2) rfl rfl) rfl ?_
   refine mv_ rfl (mv_ rfl (mv_ rfl ?_))
   refine wl_callv (v := .tuple #[.agg #[.int .i64 q0, .string q1, .int .i64 q2], .int .i64 0]) rfl cb72 rfl rfl (fun wx hm => (by have h := stateOf_any sl cl vl pl sA cA vA pA sn sc 4 cc vn vc pn pc el eA en ec kv mt wx (hm.fact 2 rfl).1 (hm.fact 3 rfl).1 (hm.fact 4 rfl).1 (hm.fact 5 rfl).1 hsok hcok hvok hpok (by omega) (by omega) (by omega) (by omega) (hm.fact 6 rfl).1 heok (by omega); rw [← hE1] at h; refine h.mono ?_; rintro e w3 ⟨S, rfl, h3, _, hg⟩; rw [h3 rfl, hst]; exact ⟨rfl, hg⟩)) ?_
   refine mv_ rfl (wl_ov (ov_extract rfl rfl) rfl (wl_ov (ov_extract rfl rfl) rfl ?_))
   refine wl_alloc zc132 rfl fun g9 => ?_
   refine wl_stores (cs' := [.int .i64 q0, .string q1, .int .i64 q2]) 0 rz132 rfl rfl rfl rfl rfl rfl rfl rfl ?_
   refine sg_ rfl (nn_ (sr_ (mv_ rfl ?_)))
   refine wl_ov (ov_loads (vs := [.slice sA sn sc, .slice cA 4 cc, .slice vA vn vc, .slice pA pn pc]) rz31 rfl (fun _ hm => (hm.fact 1 rfl).2) rfl rfl) rfl ?_
   refine mv_ rfl ?_
   refine wl_callv rfl cb20 rfl rfl (fun wx hm => (rVehicleAt_any vl sA cA vA pA sn sc 4 cc vn vc pn pc kv wx (hm.fact 4 rfl).1 (by omega))) ?_
   refine wl_ov (ov_lss rfl rfl) rfl ?_
   refine wl_callw rfl cb19 rfl rfl (fun wx hm => (rwhen_any _ _ wx)) ?_
   refine mv_ rfl ?_
   refine wl_callv rfl cb21 rfl rfl (fun wx hm => (momentFault_any _ wx)) ?_
   refine wl_buildSlice (e := 35) (cs := [.int .i64 0, .int .i64 (whenE (decide (ixP (vhP kv) vl 0 < 0)) 8), .int .i64 (momentE mt)]) rfl (by kernel_rfl) rfl fun g10 => ?_
   refine wl_callw (v := .int .i64 0) rfl cb18 rfl rfl (fun wx hm => (by have h := errs_any [0, whenE (decide (ixP (vhP kv) vl 0 < 0)) 8, momentE mt] g10 3 _ wx (hm.blkI 0 rfl) (by simp); rw [← hone] at h; exact h)) ?_
   refine sg_ rfl (nn_ (gw_seq (sr_ (mv_ rfl (mv_ rfl (wl_ov (ov_neq rfl rfl) rfl ?_))))))
   refine wl_set 55 (v' := .bool false) rfl (congrArg Value.bool (by decide)) ?_
   refine mv_ rfl (wl_guard_on rfl rfl rfl (mv_ rfl (wl_guard_on rfl rfl rfl (mv_ rfl (wl_guard_on rfl rfl rfl (wl_ov (ov_neq rfl rfl) rfl ?_))))))
   refine wl_set 59 (v' := .bool false) rfl (congrArg Value.bool (by decide)) ?_
   refine pf_ rfl rfl (mv_ rfl (wl_guard_on rfl rfl rfl (mv_ rfl (wl_guard_on rfl rfl rfl (wl_ov (ov_neq rfl rfl) rfl ?_)))))
   refine wl_set 63 (v' := .bool false) rfl (congrArg Value.bool (by decide)) ?_
   refine wl_guard_on rfl rfl rfl (mv_ rfl (goff rfl rfl rfl (goff rfl rfl rfl (goff rfl rfl rfl (wl_guard_on rfl rfl rfl (pf_ rfl rfl (pf_ rfl rfl (mv_ rfl (wl_guard_on rfl rfl rfl (mv_ rfl (wl_guard_on rfl rfl rfl (wl_ov (ov_eql rfl rfl) rfl ?_))))))))))))
   refine wl_set 72 (v' := .bool true) rfl (congrArg Value.bool (by decide)) ?_
   refine wl_guard_on rfl rfl rfl (mv_ rfl (wl_guard_on rfl rfl rfl (mv_ rfl (wl_guard_on rfl rfl rfl ?_))))
   refine wl_ov (ov_loads (vs := [.slice sA sn sc, .slice cA 4 cc, .slice vA vn vc, .slice pA pn pc]) rz31 rfl (fun _ hm => (hm.fact 1 rfl).2) rfl rfl) rfl ?_
   refine wl_guard_on rfl rfl rfl (mv_ rfl (wl_guard_on rfl rfl rfl ?_))
   refine wl_callx (γ := Option Addr × Nat × Nat) (val := (fun g => .slice g.1 g.2.1 g.2.2)) (φ := (fun g => True)) (Y := (fun g => fun wy => SlT itEnc1 1 3 wy g.1 g.2.1 (sortI (brokensV el vl)))) rfl cb74 rfl rfl (fun wx hm => (brokenOf_any vl sA cA vA pA sn sc 4 cc vn vc pn pc el eA en ec wx (hm.fact 4 rfl).1 (hm.fact 6 rfl).1 (by omega) (by omega)).mono fun _ _ ⟨A, k, c, he, h1, hg⟩ => ⟨(A, k, c), he, trivial, hg, h1⟩) (fun _ => SlT.lasts2 rfl) ?_
   rintro ⟨dA, dk, dc⟩ hphi
   dsimp only
   clear hphi
   refine wl_guard_on rfl rfl rfl ?_
   refine wl_look (R := bk = dk) (fun wx hm => by have h3 := ((hm.fact 1 rfl)).len; have h4 := ((hm.fact 0 rfl)).len; rw [show sortI (brokensV el vl) = brokenP el from broken_eq hfine hrise] at h4; omega) ?_
   intro hbd
   subst hbd
   refine wl_callv rfl cb73 rfl rfl (fun wx hm => (equal_ints (brokenP el) bA dA bk bc dc wx (hm.fact 1 rfl) (by have h := (hm.fact 0 rfl); rw [show sortI (brokensV el vl) = brokenP el from broken_eq hfine hrise] at h; exact h) (by omega))) ?_
   refine wl_guard_on rfl rfl rfl (wl_ov (ov_un_not rfl) rfl ?_)
   refine wl_set 79 (v' := .bool false) rfl (congrArg Value.bool (by decide)) ?_
   refine wl_guard_on rfl rfl rfl (pt_ rfl rfl (pf_ rfl rfl (nn_ (cf_ rfl (gw_skip (nx_then (gw_seq ?_)))))))
   refine gd (fun wz => Blk wz g10 35 [.int .i64 0, .int .i64 (whenE (decide (ixP (vhP kv) vl 0 < 0)) 8), .int .i64 (momentE mt)] ∧ Blk wz g9 132 [.int .i64 q0, .string q1, .int .i64 q2] ∧ (fun wy => SlT itEnc1 1 3 wy dA bk (sortI (brokensV el vl))) wz ∧ (fun wy => SlT itEnc1 1 3 wy bA bk (brokenP el)) wz ∧ (BlkOld w2.heap.size none g2 31 [.slice sA sn sc, .slice cA 4 cc, .slice vA vn vc, .slice pA pn pc]) wz ∧ (SlOld stEnc 15 140 w2.heap.size none sA sn sl) wz ∧ (SlOld csEnc 2 159 w2.heap.size none cA 4 cl) wz ∧ (SlOld vhEnc 2 77 w2.heap.size none vA vn vl) wz ∧ (SlOld plEnc 3 143 w2.heap.size none pA pn pl) wz ∧ (SlOld evEnc 5 92 w2.heap.size none eA en el) wz ∧ True) mixed (fun _ hm => ⟨hm.bl 0, hm.bl 1, hm.fa 0, hm.fa 1, hm.fa 2, hm.fa 3, hm.fa 4, hm.fa 5, hm.fa 6, hm.fa 7, trivial⟩) fun z => ?_
   refine wt 0 23 1 rfl z (ov_move rfl) ?_
   refine wt 1 23 3 rfl z (ov_eql rfl rfl) ?_
   refine wa_set 83 (v' := .bool true) rfl (congrArg Value.bool (by decide)) ?_
   refine wt 2 23 7 rfl z (ov_move rfl) ?_
   refine wto 3 23 15 rfl rfl rfl z (ov_loads rz132 rfl (fun _ hm => hm.2.1) rfl rfl) ?_
   refine wto 4 23 31 rfl rfl rfl z (ov_move rfl) ?_
   refine wto 5 23 63 rfl rfl rfl z (ov_move rfl) ?_
   refine wto 6 23 127 rfl rfl rfl z (ov_move rfl) ?_
   refine wa1 7 rfl ?_
   refine wl_guard_on rfl rfl rfl ?_
   refine wl_callv (v := .agg #[.int .i64 q0, .string q1, .int .i64 q2]) rfl cb75 rfl rfl (fun wx hm => (by have h := rStateAt_any el eA en ec kv mt wx (hm.fact 7 rfl).1 (by omega); rw [hq] at h; exact h)) ?_
   refine wl_nil ?_
   refine nw 23 255 (fun _ hm => ⟨hm.bl 0, hm.bl 1, hm.fa 0, hm.fa 1, hm.fa 2, hm.fa 3, hm.fa 4, hm.fa 5, hm.fa 6, hm.fa 7, trivial⟩) fun z => ?_
   refine wto 8 23 511 rfl rfl rfl z (ov_bin rfl rfl (cmp_agg guard_state (fun wx => same_state_eql q0 q1 q2 wx))) ?_
   refine wt 9 23 1023 rfl z (ov_pick_t rfl rfl) ?_
   refine wt 10 23 2047 rfl z (ov_move rfl) ?_
   refine wtf 11 23 4095 rfl rfl rfl z ?_
   refine wtf 12 23 8191 rfl rfl rfl z ?_
   refine wtf 13 23 16383 rfl rfl rfl z ?_
   refine wtu 14 23 32767 rfl rfl rfl z ?_
   refine wtu 15 23 65535 rfl rfl rfl z ?_
   refine wtu 16 23 131071 rfl rfl rfl z ?_
   refine wtf 17 23 262143 rfl rfl rfl z ?_
   refine wt 18 23 524287 rfl z (ov_pick_t rfl rfl) ?_
   refine wt 19 23 1048575 rfl z (ov_move rfl) ?_
   refine wa1 20 rfl ?_
   refine wl_guard_on rfl rfl rfl ?_
   refine wl_callv rfl cb26 rfl rfl (fun wx hm => (lots_any wx)) ?_
   refine wl_nil ?_
   refine nw 23 2097151 (fun _ hm => ⟨hm.bl 0, hm.bl 1, hm.fa 0, hm.fa 1, hm.fa 2, hm.fa 3, hm.fa 4, hm.fa 5, hm.fa 6, hm.fa 7, trivial⟩) fun z => ?_
   refine wt 21 23 4194303 rfl z (ov_pick_t rfl rfl) ?_
   refine wt 22 23 8388607 rfl z (ov_assign rfl) ?_
   refine wa_done (by kernel_rfl) ?_
   refine nx_then ?_
   refine gw_ret ?_
   refine nx_ret1 rfl rfl fun wx hm => ?_
   exact ⟨rfl, law_end hg1 hsb (grow_trans hm_w2.g (grow_weak hm.g))⟩
  refine wl_callx (γ := Option Addr × Nat × Nat) (val := (fun g => .tuple #[.slice g.1 g.2.1 g.2.2, .int .i64 0])) (φ := (fun g => g.2.1 ≤ en)) (Y := (fun g => fun wy => SlT itEnc1 1 3 wy g.1 g.2.1 (brokenP el))) rfl cb71 rfl rfl (fun wx hm => (broken_right sl cl vl pl sA cA vA pA sn sc 4 cc vn vc pn pc el eA en ec wx (hm.fact 1 rfl).1 (hm.fact 2 rfl).1 (hm.fact 3 rfl).1 (hm.fact 4 rfl).1 hsok hcok hvok hpok (by omega) (by omega) (by omega) (by omega) (hm.fact 5 rfl).1 heok (by omega) hFE.symm).mono fun _ _ ⟨A, k, c, he, h1, hk, hg⟩ => ⟨(A, k, c), he, hk, hg, h1⟩) (fun _ => SlT.lasts2 rfl) ?_
  rintro ⟨bA, bk, bc⟩ hbk
  dsimp only at hbk ⊢
  refine mv_ rfl (wl_ov (ov_extract rfl rfl) rfl (wl_ov (ov_extract rfl rfl) rfl (sg_ rfl (sg_ rfl (nn_ (sr_ ?_))))))
  refine wl_ov (ov_loads (vs := [.slice sA sn sc, .slice cA 4 cc, .slice vA vn vc, .slice pA pn pc]) rz31 rfl (fun _ hm => (hm.fact 1 rfl).2) rfl rfl) rfl ?_
  refine mv_ rfl (mv_ rfl (mv_ rfl ?_))
  refine wl_callv (v := .tuple #[.agg #[.int .i64 0, .string ⟨#[]⟩, .int .i64 0], .int .i64 E1]) rfl cb72 rfl rfl (fun wx hm => (by have h := stateOf_any sl cl vl pl sA cA vA pA sn sc 4 cc vn vc pn pc el eA en ec kv mt wx (hm.fact 2 rfl).1 (hm.fact 3 rfl).1 (hm.fact 4 rfl).1 (hm.fact 5 rfl).1 hsok hcok hvok hpok (by omega) (by omega) (by omega) (by omega) (hm.fact 6 rfl).1 heok (by omega); rw [← hE1] at h; refine h.mono ?_; rintro e w3 ⟨S, rfl, _, h3, hg⟩; rw [h3 h2]; exact ⟨rfl, hg⟩)) ?_
  refine mv_ rfl (wl_ov (ov_extract rfl rfl) rfl (wl_ov (ov_extract rfl rfl) rfl ?_))
  refine wl_alloc zc132 rfl fun g7 => ?_
  refine wl_stores (cs' := [.int .i64 0, .string ⟨#[]⟩, .int .i64 0]) 0 rz132 rfl rfl rfl rfl rfl rfl rfl rfl ?_
  refine sg_ rfl (nn_ (sr_ (mv_ rfl ?_)))
  refine wl_ov (ov_loads (vs := [.slice sA sn sc, .slice cA 4 cc, .slice vA vn vc, .slice pA pn pc]) rz31 rfl (fun _ hm => (hm.fact 1 rfl).2) rfl rfl) rfl ?_
  refine mv_ rfl ?_
  refine wl_callv rfl cb20 rfl rfl (fun wx hm => (rVehicleAt_any vl sA cA vA pA sn sc 4 cc vn vc pn pc kv wx (hm.fact 4 rfl).1 (by omega))) ?_
  refine wl_ov (ov_lss rfl rfl) rfl ?_
  refine wl_callw rfl cb19 rfl rfl (fun wx hm => (rwhen_any _ _ wx)) ?_
  refine mv_ rfl ?_
  refine wl_callv rfl cb21 rfl rfl (fun wx hm => (momentFault_any _ wx)) ?_
  refine wl_buildSlice (e := 35) (cs := [.int .i64 0, .int .i64 (whenE (decide (ixP (vhP kv) vl 0 < 0)) 8), .int .i64 (momentE mt)]) rfl (by kernel_rfl) rfl fun g8 => ?_
  refine wl_callw (v := .int .i64 E1) rfl cb18 rfl rfl (fun wx hm => (by have h := errs_any [0, whenE (decide (ixP (vhP kv) vl 0 < 0)) 8, momentE mt] g8 3 _ wx (hm.blkI 0 rfl) (by simp); rw [← hone] at h; exact h)) ?_
  refine sg_ rfl (nn_ (gw_seq (sr_ (mv_ rfl (mv_ rfl (wl_ov (ov_neq rfl rfl) rfl ?_))))))
  refine wl_set 55 (v' := .bool false) rfl (congrArg Value.bool (by decide)) ?_
  refine mv_ rfl (wl_guard_on rfl rfl rfl (mv_ rfl (wl_guard_on rfl rfl rfl (mv_ rfl (wl_guard_on rfl rfl rfl (wl_ov (ov_neq rfl rfl) rfl ?_))))))
  refine wl_set 59 (v' := .bool false) rfl (congrArg Value.bool (by simp)) ?_
  refine pf_ rfl rfl (mv_ rfl (wl_guard_on rfl rfl rfl (mv_ rfl (wl_guard_on rfl rfl rfl (wl_ov (ov_neq rfl rfl) rfl ?_)))))
  refine wl_set 63 (v' := .bool false) rfl (congrArg Value.bool (by decide)) ?_
  refine wl_guard_on rfl rfl rfl (mv_ rfl (goff rfl rfl rfl (goff rfl rfl rfl (goff rfl rfl rfl (wl_guard_on rfl rfl rfl (pf_ rfl rfl (pf_ rfl rfl (mv_ rfl (wl_guard_on rfl rfl rfl (mv_ rfl (wl_guard_on rfl rfl rfl (wl_ov (ov_eql rfl rfl) rfl ?_))))))))))))
  refine wl_set 72 (v' := .bool true) rfl (congrArg Value.bool (by decide)) ?_
  refine wl_guard_on rfl rfl rfl (mv_ rfl (wl_guard_on rfl rfl rfl (mv_ rfl (wl_guard_on rfl rfl rfl ?_))))
  refine wl_ov (ov_loads (vs := [.slice sA sn sc, .slice cA 4 cc, .slice vA vn vc, .slice pA pn pc]) rz31 rfl (fun _ hm => (hm.fact 1 rfl).2) rfl rfl) rfl ?_
  refine wl_guard_on rfl rfl rfl (mv_ rfl (wl_guard_on rfl rfl rfl ?_))
  refine wl_callx (γ := Option Addr × Nat × Nat) (val := (fun g => .slice g.1 g.2.1 g.2.2)) (φ := (fun g => True)) (Y := (fun g => fun wy => SlT itEnc1 1 3 wy g.1 g.2.1 (sortI (brokensV el vl)))) rfl cb74 rfl rfl (fun wx hm => (brokenOf_any vl sA cA vA pA sn sc 4 cc vn vc pn pc el eA en ec wx (hm.fact 4 rfl).1 (hm.fact 6 rfl).1 (by omega) (by omega)).mono fun _ _ ⟨A, k, c, he, h1, hg⟩ => ⟨(A, k, c), he, trivial, hg, h1⟩) (fun _ => SlT.lasts2 rfl) ?_
  rintro ⟨dA, dk, dc⟩ hphi
  dsimp only
  clear hphi
  refine wl_guard_on rfl rfl rfl ?_
  refine wl_look (R := bk = dk) (fun wx hm => by have h3 := ((hm.fact 1 rfl)).len; have h4 := ((hm.fact 0 rfl)).len; rw [show sortI (brokensV el vl) = brokenP el from broken_eq hfine hrise] at h4; omega) ?_
  intro hbd
  subst hbd
  refine wl_callv rfl cb73 rfl rfl (fun wx hm => (equal_ints (brokenP el) bA dA bk bc dc wx (hm.fact 1 rfl) (by have h := (hm.fact 0 rfl); rw [show sortI (brokensV el vl) = brokenP el from broken_eq hfine hrise] at h; exact h) (by omega))) ?_
  refine wl_guard_on rfl rfl rfl (wl_ov (ov_un_not rfl) rfl ?_)
  refine wl_set 79 (v' := .bool false) rfl (congrArg Value.bool (by decide)) ?_
  refine wl_guard_on rfl rfl rfl (pt_ rfl rfl (pf_ rfl rfl (nn_ (cf_ rfl (gw_skip (nx_then (gw_seq ?_)))))))
  refine gd (fun wz => Blk wz g8 35 [.int .i64 0, .int .i64 (whenE (decide (ixP (vhP kv) vl 0 < 0)) 8), .int .i64 (momentE mt)] ∧ Blk wz g7 132 [.int .i64 0, .string ⟨#[]⟩, .int .i64 0] ∧ (fun wy => SlT itEnc1 1 3 wy dA bk (sortI (brokensV el vl))) wz ∧ (fun wy => SlT itEnc1 1 3 wy bA bk (brokenP el)) wz ∧ (BlkOld w2.heap.size none g2 31 [.slice sA sn sc, .slice cA 4 cc, .slice vA vn vc, .slice pA pn pc]) wz ∧ (SlOld stEnc 15 140 w2.heap.size none sA sn sl) wz ∧ (SlOld csEnc 2 159 w2.heap.size none cA 4 cl) wz ∧ (SlOld vhEnc 2 77 w2.heap.size none vA vn vl) wz ∧ (SlOld plEnc 3 143 w2.heap.size none pA pn pl) wz ∧ (SlOld evEnc 5 92 w2.heap.size none eA en el) wz ∧ True) mixed (fun _ hm => ⟨hm.bl 0, hm.bl 1, hm.fa 0, hm.fa 1, hm.fa 2, hm.fa 3, hm.fa 4, hm.fa 5, hm.fa 6, hm.fa 7, trivial⟩) fun z => ?_
  refine wt 0 23 1 rfl z (ov_move rfl) ?_
  refine wt 1 23 3 rfl z (ov_eql rfl rfl) ?_
  refine wa_set 83 (v' := .bool false) rfl (congrArg Value.bool (decide_eq_false h2)) ?_
  refine wt 2 23 7 rfl z (ov_move rfl) ?_
  refine wtf 3 23 15 rfl rfl rfl z ?_
  refine wtf 4 23 31 rfl rfl rfl z ?_
  refine wtf 5 23 63 rfl rfl rfl z ?_
  refine wtf 6 23 127 rfl rfl rfl z ?_
  refine wtf 7 23 255 rfl rfl rfl z ?_
  refine wtf 8 23 511 rfl rfl rfl z ?_
  refine wt 9 23 1023 rfl z (ov_pick_f rfl rfl) ?_
  refine wt 10 23 2047 rfl z (ov_move rfl) ?_
  refine wto 11 23 4095 rfl rfl rfl z (ov_move rfl) ?_
  refine wto 12 23 8191 rfl rfl rfl z (ov_neq rfl rfl) ?_
  refine wa_set 94 (v' := .bool true) rfl (congrArg Value.bool (by rw [decide_eq_false h2]; rfl)) ?_
  refine wto 13 23 16383 rfl rfl rfl z (ov_move rfl) ?_
  refine wto 14 23 32767 rfl rfl rfl z (ov_loads rz132 rfl (fun _ hm => hm.2.1) rfl rfl) ?_
  refine wto 15 23 65535 rfl rfl rfl z (ov_build (cs := [.int .i64 0, .string ⟨#[]⟩, .int .i64 0]) rfl (by kernel_rfl)) ?_
  refine wto 16 23 131071 rfl rfl rfl z (ov_bin rfl rfl (cmp_agg guard_state (fun wx => same_state_eql 0 (⟨#[]⟩) 0 wx))) ?_
  refine wto 17 23 262143 rfl rfl rfl z (ov_pick_t rfl rfl) ?_
  refine wt 18 23 524287 rfl z (ov_pick_f rfl rfl) ?_
  refine wt 19 23 1048575 rfl z (ov_move rfl) ?_
  refine wa1 20 rfl ?_
  refine wl_guard_on rfl rfl rfl ?_
  refine wl_callv rfl cb26 rfl rfl (fun wx hm => (lots_any wx)) ?_
  refine wl_nil ?_
  refine nw 23 2097151 (fun _ hm => ⟨hm.bl 0, hm.bl 1, hm.fa 0, hm.fa 1, hm.fa 2, hm.fa 3, hm.fa 4, hm.fa 5, hm.fa 6, hm.fa 7, trivial⟩) fun z => ?_
  refine wt 21 23 4194303 rfl z (ov_pick_t rfl rfl) ?_
  refine wt 22 23 8388607 rfl z (ov_assign rfl) ?_
  refine wa_done (by kernel_rfl) ?_
  refine nx_then ?_
  refine gw_ret ?_
  refine nx_ret1 rfl rfl fun wx hm => ?_
  exact ⟨rfl, law_end hg1 hsb (grow_trans hm_w2.g (grow_weak hm.g))⟩
 have h2 : E1 ≠ 0 := by rw [hone, fe_hd h1]; exact h1
 refine wl_callv (v := .tuple #[.slice none 0 0, .int .i64 FE]) rfl cb71 rfl rfl (fun wx hm => (by have h := broken_bad sl cl vl pl sA cA vA pA sn sc 4 cc vn vc pn pc el eA en ec wx (hm.fact 1 rfl).1 (hm.fact 2 rfl).1 (hm.fact 3 rfl).1 (hm.fact 4 rfl).1 hsok hcok hvok hpok (by omega) (by omega) (by omega) (by omega) (hm.fact 5 rfl).1 heok (by omega) (by rw [← hFE]; exact h1); rw [← hFE] at h; exact h)) ?_
 refine mv_ rfl (wl_ov (ov_extract rfl rfl) rfl (wl_ov (ov_extract rfl rfl) rfl (sg_ rfl (sg_ rfl (nn_ (sr_ ?_))))))
 refine wl_ov (ov_loads (vs := [.slice sA sn sc, .slice cA 4 cc, .slice vA vn vc, .slice pA pn pc]) rz31 rfl (fun _ hm => (hm.fact 0 rfl).2) rfl rfl) rfl ?_
 refine mv_ rfl (mv_ rfl (mv_ rfl ?_))
 refine wl_callv (v := .tuple #[.agg #[.int .i64 0, .string ⟨#[]⟩, .int .i64 0], .int .i64 E1]) rfl cb72 rfl rfl (fun wx hm => (by have h := stateOf_any sl cl vl pl sA cA vA pA sn sc 4 cc vn vc pn pc el eA en ec kv mt wx (hm.fact 1 rfl).1 (hm.fact 2 rfl).1 (hm.fact 3 rfl).1 (hm.fact 4 rfl).1 hsok hcok hvok hpok (by omega) (by omega) (by omega) (by omega) (hm.fact 5 rfl).1 heok (by omega); rw [← hE1] at h; refine h.mono ?_; rintro e w3 ⟨S, rfl, _, h3, hg⟩; rw [h3 h2]; exact ⟨rfl, hg⟩)) ?_
 refine mv_ rfl (wl_ov (ov_extract rfl rfl) rfl (wl_ov (ov_extract rfl rfl) rfl ?_))
 refine wl_alloc zc132 rfl fun g5 => ?_
 refine wl_stores (cs' := [.int .i64 0, .string ⟨#[]⟩, .int .i64 0]) 0 rz132 rfl rfl rfl rfl rfl rfl rfl rfl ?_
 refine sg_ rfl (nn_ (sr_ (mv_ rfl ?_)))
 refine wl_ov (ov_loads (vs := [.slice sA sn sc, .slice cA 4 cc, .slice vA vn vc, .slice pA pn pc]) rz31 rfl (fun _ hm => (hm.fact 0 rfl).2) rfl rfl) rfl ?_
 refine mv_ rfl ?_
 refine wl_callv rfl cb20 rfl rfl (fun wx hm => (rVehicleAt_any vl sA cA vA pA sn sc 4 cc vn vc pn pc kv wx (hm.fact 3 rfl).1 (by omega))) ?_
 refine wl_ov (ov_lss rfl rfl) rfl ?_
 refine wl_callw rfl cb19 rfl rfl (fun wx hm => (rwhen_any _ _ wx)) ?_
 refine mv_ rfl ?_
 refine wl_callv rfl cb21 rfl rfl (fun wx hm => (momentFault_any _ wx)) ?_
 refine wl_buildSlice (e := 35) (cs := [.int .i64 FE, .int .i64 (whenE (decide (ixP (vhP kv) vl 0 < 0)) 8), .int .i64 (momentE mt)]) rfl (by kernel_rfl) rfl fun g6 => ?_
 refine wl_callw (v := .int .i64 E1) rfl cb18 rfl rfl (fun wx hm => (by have h := errs_any [FE, whenE (decide (ixP (vhP kv) vl 0 < 0)) 8, momentE mt] g6 3 _ wx (hm.blkI 0 rfl) (by simp); rw [← hone] at h; exact h)) ?_
 refine sg_ rfl (nn_ (gw_seq (sr_ (mv_ rfl (mv_ rfl (wl_ov (ov_neq rfl rfl) rfl ?_))))))
 refine wl_set 55 (v' := .bool false) rfl (congrArg Value.bool (by simp)) ?_
 refine mv_ rfl (wl_guard_on rfl rfl rfl (mv_ rfl (wl_guard_on rfl rfl rfl (mv_ rfl (wl_guard_on rfl rfl rfl (wl_ov (ov_neq rfl rfl) rfl ?_))))))
 refine wl_set 59 (v' := .bool false) rfl (congrArg Value.bool (by simp)) ?_
 refine pf_ rfl rfl (mv_ rfl (wl_guard_on rfl rfl rfl (mv_ rfl (wl_guard_on rfl rfl rfl (wl_ov (ov_neq rfl rfl) rfl ?_)))))
 refine wl_set 63 (v' := .bool true) rfl (congrArg Value.bool (by rw [decide_eq_false h1]; rfl)) ?_
 refine wl_guard_on rfl rfl rfl (mv_ rfl (wl_guard_on rfl rfl rfl (mv_ rfl (wl_guard_on rfl rfl rfl (wl_ov (ov_len es22 rfl) rfl ?_)))))
 refine wl_set 66 (v' := .int .i64 0) rfl rfl ?_
 refine wl_guard_on rfl rfl rfl ?_
 refine wl_ov (ov_gtr rfl rfl) rfl ?_
 refine wl_set 67 (v' := .bool false) rfl (congrArg Value.bool (by decide)) ?_
 refine wl_guard_on rfl rfl rfl (pt_ rfl rfl (pf_ rfl rfl (mv_ rfl (wl_guard_on rfl rfl rfl (mv_ rfl (wl_guard_on rfl rfl rfl (wl_ov (ov_eql rfl rfl) rfl ?_)))))))
 refine wl_set 72 (v' := .bool false) rfl (congrArg Value.bool (decide_eq_false h1)) ?_
 refine wl_guard_on rfl rfl rfl (mv_ rfl (goff rfl rfl rfl (goff rfl rfl rfl (goff rfl rfl rfl (goff rfl rfl rfl (goff rfl rfl rfl (goff rfl rfl rfl (wl_guard_on rfl rfl rfl (pf_ rfl rfl (pf_ rfl rfl (nn_ (cf_ rfl ?_))))))))))))
 refine gw_skip (nx_then (gw_seq ?_))
 refine gd (fun wz => Blk wz g6 35 [.int .i64 FE, .int .i64 (whenE (decide (ixP (vhP kv) vl 0 < 0)) 8), .int .i64 (momentE mt)] ∧ Blk wz g5 132 [.int .i64 0, .string ⟨#[]⟩, .int .i64 0] ∧ (BlkOld w2.heap.size none g2 31 [.slice sA sn sc, .slice cA 4 cc, .slice vA vn vc, .slice pA pn pc]) wz ∧ (SlOld stEnc 15 140 w2.heap.size none sA sn sl) wz ∧ (SlOld csEnc 2 159 w2.heap.size none cA 4 cl) wz ∧ (SlOld vhEnc 2 77 w2.heap.size none vA vn vl) wz ∧ (SlOld plEnc 3 143 w2.heap.size none pA pn pl) wz ∧ (SlOld evEnc 5 92 w2.heap.size none eA en el) wz ∧ True) mixed (fun _ hm => ⟨hm.bl 0, hm.bl 1, hm.fa 0, hm.fa 1, hm.fa 2, hm.fa 3, hm.fa 4, hm.fa 5, trivial⟩) fun z => ?_
 refine wt 0 23 1 rfl z (ov_move rfl) ?_
 refine wt 1 23 3 rfl z (ov_eql rfl rfl) ?_
 refine wa_set 83 (v' := .bool false) rfl (congrArg Value.bool (decide_eq_false h2)) ?_
 refine wt 2 23 7 rfl z (ov_move rfl) ?_
 refine wtf 3 23 15 rfl rfl rfl z ?_
 refine wtf 4 23 31 rfl rfl rfl z ?_
 refine wtf 5 23 63 rfl rfl rfl z ?_
 refine wtf 6 23 127 rfl rfl rfl z ?_
 refine wtf 7 23 255 rfl rfl rfl z ?_
 refine wtf 8 23 511 rfl rfl rfl z ?_
 refine wt 9 23 1023 rfl z (ov_pick_f rfl rfl) ?_
 refine wt 10 23 2047 rfl z (ov_move rfl) ?_
 refine wto 11 23 4095 rfl rfl rfl z (ov_move rfl) ?_
 refine wto 12 23 8191 rfl rfl rfl z (ov_neq rfl rfl) ?_
 refine wa_set 94 (v' := .bool true) rfl (congrArg Value.bool (by rw [decide_eq_false h2]; rfl)) ?_
 refine wto 13 23 16383 rfl rfl rfl z (ov_move rfl) ?_
 refine wto 14 23 32767 rfl rfl rfl z (ov_loads rz132 rfl (fun _ hm => hm.2.1) rfl rfl) ?_
 refine wto 15 23 65535 rfl rfl rfl z (ov_build (cs := [.int .i64 0, .string ⟨#[]⟩, .int .i64 0]) rfl (by kernel_rfl)) ?_
 refine wto 16 23 131071 rfl rfl rfl z (ov_bin rfl rfl (cmp_agg guard_state (fun wx => same_state_eql 0 (⟨#[]⟩) 0 wx))) ?_
 refine wto 17 23 262143 rfl rfl rfl z (ov_pick_t rfl rfl) ?_
 refine wt 18 23 524287 rfl z (ov_pick_f rfl rfl) ?_
 refine wt 19 23 1048575 rfl z (ov_move rfl) ?_
 refine wa1 20 rfl ?_
 refine wl_guard_on rfl rfl rfl ?_
 refine wl_callv rfl cb26 rfl rfl (fun wx hm => (lots_any wx)) ?_
 refine wl_nil ?_
 refine nw 23 2097151 (fun _ hm => ⟨hm.bl 0, hm.bl 1, hm.fa 0, hm.fa 1, hm.fa 2, hm.fa 3, hm.fa 4, hm.fa 5, trivial⟩) fun z => ?_
 refine wt 21 23 4194303 rfl z (ov_pick_t rfl rfl) ?_
 refine wt 22 23 8388607 rfl z (ov_assign rfl) ?_
 refine wa_done (by kernel_rfl) ?_
 refine nx_then ?_
 refine gw_ret ?_
 refine nx_ret1 rfl rfl fun wx hm => ?_
 exact ⟨rfl, law_end hg1 hsb (grow_trans hm_w2.g (grow_weak hm.g))⟩
end Go.Proofs.YtjecbkgjabnmoaaGreatDoor
