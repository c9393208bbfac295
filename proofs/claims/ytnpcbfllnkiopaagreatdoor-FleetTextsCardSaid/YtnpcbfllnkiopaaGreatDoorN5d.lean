/- Several texts as one: Fx Fz Gf Gm Gw Gx Gst Lop LopA LopB Win LopC Sq Sn Sr Gg Gy Clr Cq Gz Wo -/
import Derived.Test.YtnpcbfllnkiopaaGreatDoorN5c
import Derived.Test.YtnpcbfllnkiopaaGreatDoorN5a
import Derived.Test.YtnpcbfllnkiopaaGreatDoorN5b
import Derived.Deep.LoopGhost
import Derived.StillTailTactics
import Derived.OneCell
set_option maxRecDepth 100000
set_option maxHeartbeats 4000000
namespace Go.Proofs.YtnpcbfllnkiopaaGreatDoor
open Go.RowKit
def sgV3 (n : Int) : Int := if n < 0 then -1 else if 0 < n then 1 else 0
theorem ord_fr {a b : Pl} (h : ¬ a.fr = b.fr) : sgV3 (a.fr - b.fr) = plOrd a b := by
  unfold sgV3 plOrd cmpI
  by_cases h1 : a.fr < b.fr
  · simp [firstE, h1, show a.fr - b.fr < 0 by omega]
  · have h2 : b.fr < a.fr := by omega
    simp [firstE, h1, h2, show ¬ a.fr - b.fr < 0 by omega]
theorem ord_eq {a b : Pl} (h : a.fr = b.fr) : firstE [cmpS a.veh b.veh, cmpS a.plate b.plate] = plOrd a b := by
  unfold plOrd cmpI
  rw [if_neg (by omega), if_neg (by omega)]
  simp [firstE]
theorem ord_le {a b : Pl} (h : ¬ 0 ≤ plOrd a b) : a.fr ≤ b.fr := by
  refine Classical.byContradiction fun hn => h ?_
  unfold plOrd cmpI
  rw [if_neg (by omega), if_pos (by omega)]
  simp [firstE]
def PSort (l : List Pl) : Prop := l.Pairwise fun q r => q.fr ≤ r.fr
theorem psort_snoc {l : List Pl} {p : Pl} (h : PSort l) (hl : ∀ q, l.getLast? = some q → q.fr ≤ p.fr) : PSort (l ++ [p]) := by
  unfold PSort at *
  rw [List.pairwise_append]
  refine ⟨h, List.pairwise_singleton _ _, fun q hq r hr => ?_⟩
  rw [List.mem_singleton.1 hr]
  cases hg : l.getLast? with
  | none =>
    rw [List.getLast?_eq_none_iff.1 hg] at hq; cases hq
  | some z =>
    have hz := hl z hg
    rcases List.getLast?_eq_some_iff.1 hg with ⟨ys, rfl⟩
    rw [List.pairwise_append] at h
    rcases List.mem_append.1 hq with h1 | h1
    · have := h.2.2 q h1 z (by simp); omega
    · rw [List.mem_singleton.1 h1]; exact hz
theorem psort_at {l : List Pl} (h : PSort l) {i j : Nat} {x y : Pl} (hij : i ≤ j) (hx : l[i]? = some x) (hy : l[j]? = some y) : x.fr ≤ y.fr := by
  rcases Nat.eq_or_lt_of_le hij with rfl | h1
  · rw [hx] at hy; cases hy; exact Int.le_refl _
  · obtain ⟨hi, rfl⟩ := List.getElem?_eq_some_iff.1 hx
    obtain ⟨hj, rfl⟩ := List.getElem?_eq_some_iff.1 hy
    exact List.pairwise_iff_getElem.1 h i j hi hj h1
theorem plG_at {vs : List Vh} {l : List Pl} {i : Nat} {p : Pl} (h : l[i]? = some p) : plG vs (l.take i) (l.drop i) = if plE vs (l.take i) p = 0 then plG vs (l.take (i + 1)) (l.drop (i + 1)) else plE vs (l.take i) p := by
  obtain ⟨hi, rfl⟩ := List.getElem?_eq_some_iff.1 h
  rw [List.drop_eq_getElem_cons hi, List.take_succ_eq_append_getElem hi]
  rfl
theorem last_take {l : List Pl} {i : Nat} (hi : i ≤ l.length) : (l.take i).getLast? = if i = 0 then none else l[i - 1]? := by
  rw [List.getLast?_eq_getElem?, List.length_take, Nat.min_eq_left hi]
  by_cases h : i = 0
  · subst h; simp
  · rw [if_neg h, List.getElem?_take, if_pos (by omega)]
theorem plE_one {vs : List Vh} {pre : List Pl} {p : Pl} (h1 : inB p.fr 0 5761439 = false) : plE vs pre p = 1 := by unfold plE; rw [h1]; rfl
theorem plE_two {vs : List Vh} {pre : List Pl} {p : Pl} (h1 : inB p.fr 0 5761439 = true) (h2 : ixP (vhP p.veh) vs 0 < 0) : plE vs pre p = 8 := by unfold plE; rw [h1, if_neg (by decide), if_pos h2]
theorem plE_three {vs : List Vh} {pre : List Pl} {p : Pl} (h1 : inB p.fr 0 5761439 = true) (h2 : ¬ ixP (vhP p.veh) vs 0 < 0) (h3 : plateB p.plate = false) : plE vs pre p = 3 := by unfold plE; rw [h1, if_neg (by decide), if_neg h2, h3]; rfl
def plO (pre : List Pl) (p : Pl) : Bool := match pre.getLast? with | none => false | some q => decide (0 ≤ plOrd q p)
theorem plE_four {vs : List Vh} {pre : List Pl} {p : Pl} (h1 : inB p.fr 0 5761439 = true) (h2 : ¬ ixP (vhP p.veh) vs 0 < 0) (h3 : plateB p.plate = true) : plE vs pre p = if plO pre p = true then 7 else if pre.any (plTwin p) = true then 6 else 0 := by
  unfold plE
  rw [h1, if_neg (by decide), if_neg h2, h3, if_neg (by decide)]; rfl
theorem plO_zero {l : List Pl} {p : Pl} : plO (l.take 0) p = false := rfl
theorem plO_pos {l : List Pl} {i : Nat} {p q : Pl} (hi : i < l.length) (h0 : ¬ i = 0) (hq : l[i - 1]? = some q) : plO (l.take i) p = decide (0 ≤ plOrd q p) := by
  unfold plO
  rw [last_take (by omega), if_neg h0, hq]
theorem twin_none {l : List Pl} {i j : Nat} {p : Pl} (hs : PSort (l.take i)) (hi : i ≤ l.length) (hj : j ≤ i) (hlast : ∀ q, l[i - 1]? = some q → ¬ i = 0 → q.fr ≤ p.fr) (hno : ∀ t, j ≤ t → t < i → ∀ x, l[t]? = some x → plTwin p x = false) (hend : j = 0 ∨ ∃ x, l[j - 1]? = some x ∧ x.fr ≠ p.fr) : (l.take i).any (plTwin p) = false := by
  rw [List.any_eq_false]
  intro x hx
  obtain ⟨t, ht⟩ := List.getElem?_of_mem hx
  have hti : t < i := by
    have := (List.getElem?_eq_some_iff.1 ht).1
    rw [List.length_take] at this; omega
  have hlt : l[t]? = some x := by rw [List.getElem?_take, if_pos hti] at ht; exact ht
  rcases Nat.lt_or_ge t j with h1 | h1
  · rcases hend with rfl | ⟨y, hy, hne⟩
    · omega
    · have hyt : (l.take i)[j - 1]? = some y := by rw [List.getElem?_take, if_pos (by omega)]; exact hy
      have h2 := psort_at hs (show t ≤ j - 1 by omega) ht hyt
      obtain ⟨z, hz⟩ : ∃ z, l[i - 1]? = some z := ⟨_, List.getElem?_eq_getElem (by omega)⟩
      have hzt : (l.take i)[i - 1]? = some z := by rw [List.getElem?_take, if_pos (by omega)]; exact hz
      have h3 := psort_at hs (show j - 1 ≤ i - 1 by omega) hyt hzt
      have h4 := hlast z hz (by omega)
      have h5 : ¬ x.fr = p.fr := by omega
      unfold plTwin
      rw [decide_eq_false h5]; simp
  · rw [hno t h1 hti x hlt]; decide
theorem sign3_any (n : Int) (w : World) : Calls Tryz.prog 178 #[.int .i64 n] w (GotE w (sgV3 n)) := by
 refine gw_enter ⟨9, w, none, []⟩ Tryz.func178 rfl Tryz.ntmps178 rfl (mem0 (X := []) allF_nil allL_nil) ?_
 refine sr_ (sg_ rfl (nn_ (gw_seq (gw_block (sr_ (mv_ rfl (wl_ov (ov_lss rfl rfl) rfl (sg_ rfl (nn_ ?_)))))))))
 refine gw_cond rfl (fun hh => ?_) (fun hh => ?_)
 ·have h0 : n < 0 := by simpa using hh
  clear hh
  refine sr_ (sg_ rfl ?_)
  refine wl_set 2 (v' := .int .i64 (-1)) rfl rfl ?_
  refine nn_ ?_
  refine gw_ret ?_
  refine nx_blk_ret (nx_then_ret ?_)
  refine nx_ret1 rfl rfl fun wx hm => ?_
  exact ⟨ret_int (by unfold sgV3; simp [h0]), hm.g⟩
 have h0 : ¬ (n < 0) := by simpa using hh
 clear hh
 refine sr_ (mv_ rfl ?_)
 refine wl_ov (ov_gtr rfl rfl) rfl ?_
 refine sg_ rfl (nn_ ?_)
 refine gw_cond rfl (fun hh => ?_) (fun hh => ?_)
 ·have h1 : 0 < n := by simpa using hh
  clear hh
  refine sr_ (sg_ rfl (nn_ ?_))
  refine gw_ret ?_
  refine nx_blk_ret (nx_then_ret ?_)
  refine nx_ret1 rfl rfl fun wx hm => ?_
  exact ⟨ret_int (by unfold sgV3; simp [h0, h1]), hm.g⟩
 have h1 : ¬ (0 < n) := by simpa using hh
 clear hh
 refine gw_skip (nx_blk_nrm (nx_then (sr_ (sg_ rfl (nn_ ?_)))))
 refine gw_ret ?_
 refine nx_ret1 rfl rfl fun wx hm => ?_
 exact ⟨ret_int (by unfold sgV3; simp [h0, h1]), hm.g⟩
theorem plateOrder_any (af : Int) (av ap : ByteArray) (bf : Int) (bv bp : ByteArray) (w : World) (hA : -4000000000000000000 ≤ af ∧ af ≤ 4000000000000000000) (hB : -4000000000000000000 ≤ bf ∧ bf ≤ 4000000000000000000) :
  Calls Tryz.prog 117 #[.agg #[.int .i64 af, .string av, .string ap], .agg #[.int .i64 bf, .string bv, .string bp]] w (GotE w (plOrd ⟨af, av, ap⟩ ⟨bf, bv, bp⟩)) := by
 refine gw_enter ⟨27, w, none, []⟩ Tryz.func117 rfl Tryz.ntmps117 rfl (mem0 (X := []) allF_nil allL_nil) ?_
 refine sr_ ?_
 refine wl_box rfl rfl rfl fun g1 => ?_
 refine wl_box rfl rfl rfl fun g2 => ?_
 refine sg_ rfl (nn_ (gw_seq (sr_ (fd_ fo161_0 rfl rfl (lk_ sc3 1 rfl rfl rfl (fd_ fo161_0 rfl rfl (lk_ sc3 0 rfl rfl rfl (wl_ov (ov_neq rfl rfl) rfl (nn_ ?_)))))))))
 refine gw_cond rfl (fun hh => ?_) (fun hh => ?_)
 ·have h1 : ¬ (af = bf) := by simpa using hh
  clear hh
  refine sr_ ?_
  have h2 : ¬ af = bf := by simpa using h1
  have hs1 : -9223372036854775808 ≤ af - bf := by omega
  have hs2 : af - bf ≤ 9223372036854775807 := by omega
  refine fd_ fo161_0 rfl rfl (lk_ sc3 1 rfl rfl rfl (fd_ fo161_0 rfl rfl (lk_ sc3 0 rfl rfl rfl ?_)))
  refine wl_ov (ov_sub rfl rfl hs1 hs2) rfl ?_
  refine wl_callv rfl cb178 rfl rfl (fun wx hm => (sign3_any _ wx)) ?_
  refine sg_ rfl (nn_ ?_)
  refine gw_ret ?_
  refine nx_then_ret ?_
  refine nx_ret1 rfl rfl fun wx hm => ?_
  exact ⟨ret_int (ord_fr (a := ⟨af, av, ap⟩) (b := ⟨bf, bv, bp⟩) h2), hm.g⟩
 have h1 : af = bf := by simpa using hh
 clear hh
 refine gw_skip (nx_then (sr_ (fd_ fo161_1 rfl rfl (lk_ sc9 1 rfl rfl rfl (fd_ fo161_2 rfl rfl (lk_ sc9 1 rfl rfl rfl ?_))))))
 refine wl_buildSlice (e := 9) (cs := [.string av, .string ap]) rfl (by kernel_rfl) rfl fun g3 => ?_
 refine fd_ fo161_1 rfl rfl (lk_ sc9 1 rfl rfl rfl (fd_ fo161_2 rfl rfl (lk_ sc9 1 rfl rfl rfl ?_)))
 refine wl_buildSlice (e := 9) (cs := [.string bv, .string bp]) rfl (by kernel_rfl) rfl fun g4 => ?_
 refine wl_callv rfl cb202 rfl rfl (fun wx hm => (compare2_any g3 g4 av ap bv bp wx (hm.blkI 1 rfl) (hm.blkI 0 rfl))) ?_
 refine sg_ rfl (nn_ ?_)
 refine gw_ret ?_
 refine nx_ret1 rfl rfl fun wx hm => ?_
 exact ⟨ret_int (ord_eq (a := ⟨af, av, ap⟩) (b := ⟨bf, bv, bp⟩) (by simpa using h1)), hm.g⟩
theorem or_three (g : Nat) (a b c : Int) (w : World) (h : Blk w g 3 [.int .i64 a, .int .i64 b, .int .i64 c]) :
  Calls Tryz.prog 83 #[.slice (some ⟨g, 0, none⟩) 3 3] w (GotE w (firstE [a, b, c])) := by
 refine gw_enter ⟨18, w, none, []⟩ Tryz.func83 rfl Tryz.ntmps83 rfl (mem0 (X := [BlkOld w.heap.size none g 3 [.int .i64 a, .int .i64 b, .int .i64 c]]) (allF_cons h.old allF_nil) (allL_cons BlkOld.lasts allL_nil)) ?_
 refine sr_ (sg_ rfl (nn_ (sr_ (sg_ rfl (nn_ (gw_seq (sr_ (mv_ rfl ?_))))))))
 refine wl_ov (ov_len es22 rfl) rfl ?_
 refine wl_set 7 (v' := .int .i64 3) rfl rfl ?_
 refine mv_ rfl (nn_ (gw_block ?_))
 refine gw_rounds 4 ?_
 refine gr_next ?_
 refine sr_ (wl_ov (ov_lss rfl rfl) rfl ?_)
 refine wl_set 9 (v' := .bool true) rfl (congrArg Value.bool (by decide)) ?_
 refine nn_ (gw_seq (ct_ rfl (gw_skip (nx_then (gw_seq (gw_block (sr_ ?_)))))))
 refine wl_ov (ov_index (j := 0) es22 rfl rfl (by decide)) rfl ?_
 refine wl_ov (ov_load (v := .int .i64 a) sc3 rfl (fun _ hm => (hm.fact 0 rfl).2) rfl) rfl ?_
 refine sg_ rfl (nn_ (sr_ (mv_ rfl (mv_ rfl (wl_ov (ov_neq rfl rfl) rfl (nn_ ?_))))))
 refine gw_cond rfl (fun hh => ?_) (fun hh => ?_)
 ·have h1 : ¬ (a = 0) := by simpa using hh
  clear hh
  refine sr_ (mv_ rfl (sg_ rfl (nn_ ?_)))
  refine gw_ret ?_
  refine nx_blk_ret (nx_then_ret (nx_then_ret (nx_blk_ret (nx_then_ret ?_))))
  refine nx_ret1 rfl rfl fun wx hm => ?_
  exact ⟨ret_int (by simp [firstE, h1]), hm.g⟩
 have h1 : a = 0 := by simpa using hh
 clear hh
 refine gw_skip (nx_blk_nrm (nx_then (gw_region (ad_ rfl rfl ?_))))
 refine wl_set 16 (v' := .int .i64 1) rfl rfl ?_
 refine mv_ rfl (wl_nil ?_)
 refine nx_next ?_
 refine gr_next ?_
 refine sr_ (wl_ov (ov_lss rfl rfl) rfl ?_)
 refine wl_set 9 (v' := .bool true) rfl (congrArg Value.bool (by decide)) ?_
 refine nn_ (gw_seq (ct_ rfl (gw_skip (nx_then (gw_seq (gw_block (sr_ ?_)))))))
 refine wl_ov (ov_index (j := 1) es22 rfl rfl (by decide)) rfl ?_
 refine wl_ov (ov_load (v := .int .i64 b) sc3 rfl (fun _ hm => (hm.fact 0 rfl).2) rfl) rfl ?_
 refine sg_ rfl (nn_ (sr_ (mv_ rfl (mv_ rfl (wl_ov (ov_neq rfl rfl) rfl (nn_ ?_))))))
 refine gw_cond rfl (fun hh => ?_) (fun hh => ?_)
 ·have h2 : ¬ (b = 0) := by simpa using hh
  clear hh
  refine sr_ (mv_ rfl (sg_ rfl (nn_ ?_)))
  refine gw_ret ?_
  refine nx_blk_ret (nx_then_ret (nx_then_ret (nx_blk_ret (nx_then_ret ?_))))
  refine nx_ret1 rfl rfl fun wx hm => ?_
  exact ⟨ret_int (by simp [firstE, h1, h2]), hm.g⟩
 have h2 : b = 0 := by simpa using hh
 clear hh
 refine gw_skip (nx_blk_nrm (nx_then (gw_region (ad_ rfl rfl ?_))))
 refine wl_set 16 (v' := .int .i64 2) rfl rfl ?_
 refine mv_ rfl (wl_nil ?_)
 refine nx_next ?_
 refine gr_next ?_
 refine sr_ (wl_ov (ov_lss rfl rfl) rfl ?_)
 refine wl_set 9 (v' := .bool true) rfl (congrArg Value.bool (by decide)) ?_
 refine nn_ (gw_seq (ct_ rfl (gw_skip (nx_then (gw_seq (gw_block (sr_ ?_)))))))
 refine wl_ov (ov_index (j := 2) es22 rfl rfl (by decide)) rfl ?_
 refine wl_ov (ov_load (v := .int .i64 c) sc3 rfl (fun _ hm => (hm.fact 0 rfl).2) rfl) rfl ?_
 refine sg_ rfl (nn_ (sr_ (mv_ rfl (mv_ rfl (wl_ov (ov_neq rfl rfl) rfl (nn_ ?_))))))
 refine gw_cond rfl (fun hh => ?_) (fun hh => ?_)
 ·have h3 : ¬ (c = 0) := by simpa using hh
  clear hh
  refine sr_ (mv_ rfl (sg_ rfl (nn_ ?_)))
  refine gw_ret ?_
  refine nx_blk_ret (nx_then_ret (nx_then_ret (nx_blk_ret (nx_then_ret ?_))))
  refine nx_ret1 rfl rfl fun wx hm => ?_
  exact ⟨ret_int (by simp [firstE, h1, h2, h3]), hm.g⟩
 have h3 : c = 0 := by simpa using hh
 clear hh
 refine gw_skip (nx_blk_nrm (nx_then (gw_region (ad_ rfl rfl ?_))))
 refine wl_set 16 (v' := .int .i64 3) rfl rfl ?_
 refine mv_ rfl (wl_nil ?_)
 refine nx_next ?_
 refine gr_next ?_
 refine sr_ (wl_ov (ov_lss rfl rfl) rfl ?_)
 refine wl_set 9 (v' := .bool false) rfl (congrArg Value.bool (by decide)) ?_
 refine nn_ (gw_seq (cf_ rfl ?_))
 refine gw_exit ?_
 refine nx_then_exit (nx_then_exit ?_)
 refine nx_blk_here ?_
 refine nx_then (sr_ (mv_ rfl (sg_ rfl (nn_ ?_))))
 refine gw_ret ?_
 refine nx_ret1 rfl rfl fun wx hm => ?_
 exact ⟨ret_int (by simp [firstE, h1, h2, h3]), hm.g⟩
end Go.Proofs.YtnpcbfllnkiopaaGreatDoor
namespace Go.Proofs.YtnpcbfllnkiopaaGreatDoor
open Go.RowKit
theorem ord_last {l : List Pl} {i : Nat} {p : Pl} (hi : i < l.length) (hO : plO (l.take i) p = false) : ∀ q, l[i - 1]? = some q → ¬ i = 0 → q.fr ≤ p.fr := fun q hq h0 => by
  rw [plO_pos hi h0 hq] at hO
  exact ord_le (of_decide_eq_false hO)
theorem psort_next {l : List Pl} {i : Nat} {p : Pl} (hs : PSort (l.take i)) (hp : l[i]? = some p) (hO : plO (l.take i) p = false) : PSort (l.take (i + 1)) := by
  have hi := (List.getElem?_eq_some_iff.1 hp).1
  rw [List.take_add_one, hp]
  refine psort_snoc hs fun q hq => ?_
  rw [last_take (by omega)] at hq
  split at hq
  · cases hq
  · rename_i h0
    exact ord_last hi hO q hq h0
theorem plates_end {vs : List Vh} {l : List Pl} {i : Nat} (h : l.length ≤ i) (hh : platesE vs l = plG vs (l.take i) (l.drop i)) : platesE vs l = 0 := by
  rw [hh, List.drop_eq_nil_of_le h]; rfl
theorem checkPlates_any (vl : List Vh) (pl : List Pl) (sA cA vA pA : Option Addr) (sn sc cn cc vn vc pn pc : Nat) (w : World) (hv : SlT vhEnc 2 158 w vA vn vl) (hp : SlT plEnc 3 161 w pA pn pl) (hvn : vn ≤ 1000000) (hpn : pn ≤ 1000000) (hr : Rise vl) (hpok : ∀ x ∈ pl, PlOk x) :
  Calls Tryz.prog 190 #[.agg #[.slice sA sn sc, .slice cA cn cc, .slice vA vn vc, .slice pA pn pc]] w (GotE w (platesE vl pl)) := by
 refine gw_enter ⟨97, w, none, []⟩ Tryz.func190 rfl Tryz.ntmps190 rfl (mem0 (X := [SlOld vhEnc 2 158 w.heap.size none vA vn vl, SlOld plEnc 3 161 w.heap.size none pA pn pl]) (allF_cons hv.old (allF_cons hp.old allF_nil)) (allL_cons SlOld.lasts (allL_cons SlOld.lasts allL_nil))) ?_
 refine sr_ ?_
 have hlen := hp.len
 refine wl_box rfl rfl rfl fun g1 => ?_
 refine sg_ rfl (nn_ (gw_seq (sr_ (fd_ fo66_3 rfl rfl (lk_ sc64 0 rfl rfl rfl (wl_ov (ov_len es64 rfl) rfl ?_))))))
 refine wl_ov (ov_gtr rfl rfl) rfl ?_
 refine nn_ ?_
 refine gw_cond rfl (fun hh => ?_) (fun hh => ?_)
 ·have h1 : 1000 < ((pn : Nat) : Int) := by simpa using hh
  clear hh
  refine sr_ (sg_ rfl (nn_ ?_))
  refine gw_ret ?_
  refine nx_then_ret ?_
  refine nx_ret1 rfl rfl fun wx hm => ?_
  exact ⟨ret_int (by unfold platesE; rw [if_pos (by omega)]), hm.g⟩
 have h1 : ¬ (1000 < ((pn : Nat) : Int)) := by simpa using hh
 clear hh
 refine gw_skip (nx_then (gw_seq (sr_ (fd_ fo66_3 rfl rfl (lk_ sc64 0 rfl rfl rfl (wl_ov (ov_len es64 rfl) rfl (mv_ rfl (nn_ (gw_block ?_)))))))))
 refine gw_loop (γ := Nat) (fun (i : Nat) => i ≤ pn ∧ platesE vl pl = plG vl (pl.take i) (pl.drop i) ∧ PSort (pl.take i)) (fun (i : Nat) => [(1, .pointer (some ⟨g1, 0, none⟩)), (13, .slice pA pn pc), (14, .int .i64 ((pn : Nat) : Int)), (15, .int .i64 ((i : Nat) : Int))]) (fun (i : Nat) => fun _ => True) (fun (i : Nat) => [(g1, 66, [.slice sA sn sc, .slice cA cn cc, .slice vA vn vc, .slice pA pn pc])]) (fun (i : Nat) => []) (fun (i : Nat) => [SlOld vhEnc 2 158 w.heap.size none vA vn vl, SlOld plEnc 3 161 w.heap.size none pA pn pl]) (fun (i : Nat) => pn - i) 0 ⟨Nat.zero_le _, by unfold platesE; rw [if_neg (by omega)]; rfl, List.Pairwise.nil⟩ ⟨rfl, rfl, rfl, rfl, trivial⟩ (fun _ hm => hm.pick [0] [] [0, 1] rfl rfl) ?_
 intro i hinv
 replace hinv : i ≤ pn ∧ platesE vl pl = plG vl (pl.take i) (pl.drop i) ∧ PSort (pl.take i) := hinv
 refine sr_ ?_
 obtain ⟨hi0, hpe, hps⟩ := hinv
 refine wl_ov (ov_lss rfl rfl) rfl (nn_ (gw_seq ?_))
 refine gw_cond rfl (fun hh => ?_) (fun hh => ?_)
 ·have hi : ((i : Nat) : Int) < ((pn : Nat) : Int) := by simpa using hh
  clear hh
  refine gw_skip (nx_then (gw_seq (gw_block (sr_ ?_))))
  obtain ⟨bp, op, hA, _, _⟩ := hp.get (by omega)
  subst hA
  obtain ⟨x, hx⟩ : ∃ x, pl[i]? = some x := ⟨_, List.getElem?_eq_getElem (by omega)⟩
  obtain ⟨pf, pv, pp⟩ := x
  have hat := plG_at (vs := vl) hx
  obtain ⟨hpf, hpv, hpp⟩ := hpok _ (List.mem_of_getElem? hx)
  have hpv : pv.size ≤ 1000000 := hpv
  have hpp : pp.size ≤ 1000000 := hpp
  have hil : i < pl.length := by omega
  refine mv_ rfl ?_
  refine wl_ov (ov_index (j := i) es64 rfl rfl (by omega)) rfl ?_
  refine wl_ov (ov_elem (vs := [.int .i64 pf, .string pv, .string pp]) rz161 rfl (fun _ hm => (hm.fact 1 rfl).1) hx rfl rfl) rfl ?_
  refine wl_alloc zc161 rfl fun g2 => ?_
  refine sg_ rfl ?_
  refine wl_stores (cs' := [.int .i64 pf, .string pv, .string pp]) 0 rz161 rfl rfl rfl rfl rfl rfl rfl rfl ?_
  refine nn_ (gw_seq (gw_block (sr_ (fd_ fo161_0 rfl rfl (lk_ sc3 0 rfl rfl rfl ?_)))))
  refine wl_callv rfl cb193 rfl rfl (fun wx hm => ((isMoment_any _ wx).mono fun _ _ ⟨he, hw⟩ => ⟨he, hw ▸ World.grownBy.refl _ _⟩)) ?_
  refine wl_ov (ov_un_not rfl) rfl (sg_ rfl (nn_ ?_))
  refine gw_cond rfl (fun hh => ?_) (fun hh => ?_)
  ·have h2 : (inB pf 0 5761439) = false := by simpa using hh
   clear hh
   refine sr_ (sg_ rfl (nn_ ?_))
   refine gw_ret ?_
   refine nx_blk_ret (nx_then_ret (nx_blk_ret (nx_then_ret (nx_then_ret (nx_blk_ret (nx_then_ret ?_))))))
   have hE : plE vl (pl.take i) ⟨pf, pv, pp⟩ = 1 := plE_one (by simpa using h2)
   refine nx_ret1 rfl rfl fun wx hm => ?_
   exact ⟨ret_int (by rw [hpe, hat, if_neg (by rw [hE]; decide), hE]), hm.g⟩
  have h2 : (inB pf 0 5761439) = true := by simpa using hh
  clear hh
  refine sr_ ?_
  refine wl_ov (ov_loads rz66 rfl (fun _ hm => hm.blkI 1 rfl) rfl rfl) rfl ?_
  refine fd_ fo161_1 rfl rfl (lk_ sc9 0 rfl rfl rfl ?_)
  refine wl_callv rfl cb194 rfl rfl (fun wx hm => (vehicleAt_any vl sA cA vA (some ⟨bp, op, none⟩) sn sc cn cc vn vc pn pc pv wx (hm.fact 0 rfl).1 hvn hr)) ?_
  refine wl_ov (ov_lss rfl rfl) rfl (sg_ rfl (nn_ ?_))
  refine gw_cond rfl (fun hh => ?_) (fun hh => ?_)
  ·have h3 : ixP (vhP pv) vl 0 < 0 := by simpa using hh
   clear hh
   refine sr_ (sg_ rfl (nn_ ?_))
   refine gw_ret ?_
   refine nx_blk_ret (nx_then_ret (nx_blk_ret (nx_then_ret (nx_then_ret (nx_blk_ret (nx_then_ret ?_))))))
   have hE : plE vl (pl.take i) ⟨pf, pv, pp⟩ = 8 := plE_two (by simpa using h2) h3
   refine nx_ret1 rfl rfl fun wx hm => ?_
   exact ⟨ret_int (by rw [hpe, hat, if_neg (by rw [hE]; decide), hE]), hm.g⟩
  have h3 : ¬ (ixP (vhP pv) vl 0 < 0) := by simpa using hh
  clear hh
  refine sr_ (fd_ fo161_2 rfl rfl (lk_ sc9 0 rfl rfl rfl ?_))
  refine wl_callv rfl cb255 rfl rfl (fun wx hm => ((isPlate_any pp wx (by omega)).mono fun _ _ ⟨he, hw⟩ => ⟨he, hw ▸ World.grownBy.refl _ _⟩)) ?_
  refine wl_ov (ov_un_not rfl) rfl (sg_ rfl (nn_ ?_))
  refine gw_cond rfl (fun hh => ?_) (fun hh => ?_)
  ·have h4 : (plateB pp) = false := by simpa using hh
   clear hh
   refine sr_ (sg_ rfl (nn_ ?_))
   refine gw_ret ?_
   refine nx_blk_ret (nx_then_ret (nx_blk_ret (nx_then_ret (nx_then_ret (nx_blk_ret (nx_then_ret ?_))))))
   have hE : plE vl (pl.take i) ⟨pf, pv, pp⟩ = 3 := plE_three (by simpa using h2) h3 (by simpa using h4)
   refine nx_ret1 rfl rfl fun wx hm => ?_
   exact ⟨ret_int (by rw [hpe, hat, if_neg (by rw [hE]; decide), hE]), hm.g⟩
  have h4 : (plateB pp) = true := by simpa using hh
  clear hh
  refine gw_skip (nx_blk_nrm (nx_then ?_))
  have hfour := plE_four (vs := vl) (pre := pl.take i) (p := ⟨pf, pv, pp⟩) (by simpa using h2) h3 (by simpa using h4)
  refine gw_cut (γ := Unit) (I := (fun (uu : Unit) => plO (pl.take i) ⟨pf, pv, pp⟩ = false)) (S' := (fun (uu : Unit) => [(1, .pointer (some ⟨g1, 0, none⟩)), (3, .int .i64 ((i : Nat) : Int)), (4, .pointer (some ⟨g2, 0, none⟩)), (13, .slice (some ⟨bp, op, none⟩) pn pc), (14, .int .i64 ((pn : Nat) : Int)), (15, .int .i64 ((i : Nat) : Int))])) (K' := (fun (uu : Unit) => fun _ => True)) (L' := (fun (uu : Unit) => [(g2, 161, [.int .i64 pf, .string pv, .string pp]), (g1, 66, [.slice sA sn sc, .slice cA cn cc, .slice vA vn vc, .slice (some ⟨bp, op, none⟩) pn pc])])) (O' := (fun (uu : Unit) => [])) (X' := (fun (uu : Unit) => [SlOld vhEnc 2 158 w.heap.size none vA vn vl, SlOld plEnc 3 161 w.heap.size none (some ⟨bp, op, none⟩) pn pl])) ?_ ?_
  ·refine sr_ (mv_ rfl ?_)
   refine wl_ov (ov_gtr rfl rfl) rfl ?_
   refine nn_ ?_
   refine gw_cond rfl (fun hh => ?_) (fun hh => ?_)
   ·have h5 : 0 < ((i : Nat) : Int) := by simpa using hh
    clear hh
    refine sr_ ?_
    have hi1 : i - 1 < pn := by omega
    have h0 : ¬ i = 0 := by omega
    obtain ⟨q, hq⟩ : ∃ x, pl[i - 1]? = some x := ⟨_, List.getElem?_eq_getElem (by omega)⟩
    obtain ⟨qf, qv, qp⟩ := q
    have hO := plO_pos (p := ⟨pf, pv, pp⟩) hil h0 hq
    refine fd_ fo66_3 rfl rfl (lk_ sc64 1 rfl rfl rfl (mv_ rfl ?_))
    refine wl_ov (ov_sub rfl rfl (by omega) (by omega)) rfl ?_
    refine wl_set 41 (v' := .int .i64 (((i - 1) : Nat) : Int)) rfl (congrArg (Value.int .i64) (by omega)) ?_
    refine wl_ov (ov_index (j := (i - 1)) es64 rfl rfl (by omega)) rfl ?_
    refine wl_ov (ov_elem (vs := [.int .i64 qf, .string qv, .string qp]) rz161 rfl (fun _ hm => (hm.fact 1 rfl).1) hq rfl rfl) rfl ?_
    refine wl_alloc zc161 rfl fun g3 => ?_
    refine wl_stores (cs' := [.int .i64 qf, .string qv, .string qp]) 0 rz161 rfl rfl rfl rfl rfl rfl rfl rfl ?_
    refine nn_ (gw_seq ?_)
    refine gd (fun wz => Blk wz g3 161 [.int .i64 qf, .string qv, .string qp] ∧ Blk wz g2 161 [.int .i64 pf, .string pv, .string pp] ∧ Blk wz g1 66 [.slice sA sn sc, .slice cA cn cc, .slice vA vn vc, .slice (some ⟨bp, op, none⟩) pn pc] ∧ (SlOld vhEnc 2 158 w.heap.size none vA vn vl) wz ∧ (SlOld plEnc 3 161 w.heap.size none (some ⟨bp, op, none⟩) pn pl) wz ∧ True) mixed (fun _ hm => ⟨hm.bl 0, hm.bl 1, hm.bl 2, hm.fa 0, hm.fa 1, trivial⟩) fun z => ?_
    refine wt 0 18 1 rfl z (ov_field fo161_0 rfl rfl) ?_
    refine wt 1 18 3 rfl z (ov_load sc3 rfl (fun _ hm => hm.1) rfl) ?_
    refine wt 2 18 7 rfl z (ov_field fo161_0 rfl rfl) ?_
    refine wt 3 18 15 rfl z (ov_load sc3 rfl (fun _ hm => hm.2.1) rfl) ?_
    refine wt 5 18 47 rfl z (ov_field fo161_1 rfl rfl) ?_
    refine wt 6 18 111 rfl z (ov_load sc9 rfl (fun _ hm => hm.1) rfl) ?_
    refine wt 7 18 239 rfl z (ov_field fo161_1 rfl rfl) ?_
    refine wt 8 18 495 rfl z (ov_load sc9 rfl (fun _ hm => hm.2.1) rfl) ?_
    refine wt 10 18 1519 rfl z (ov_field fo161_2 rfl rfl) ?_
    refine wt 11 18 3567 rfl z (ov_load sc9 rfl (fun _ hm => hm.1) rfl) ?_
    refine wt 12 18 7663 rfl z (ov_field fo161_2 rfl rfl) ?_
    refine wt 13 18 15855 rfl z (ov_load sc9 rfl (fun _ hm => hm.2.1) rfl) ?_
    refine wa1 4 rfl ?_
    refine wl_callv rfl cb84 rfl rfl (fun wx hm => (cmp_int _ _ wx)) ?_
    refine wl_nil ?_
    refine nw 18 15871 (fun _ hm => ⟨hm.bl 0, hm.bl 1, hm.bl 2, hm.fa 0, hm.fa 1, trivial⟩) fun z => ?_
    refine wa1 9 rfl ?_
    refine wl_callv rfl cb85 rfl rfl (fun wx hm => (cmp_string _ _ wx)) ?_
    refine wl_nil ?_
    refine nw 18 16383 (fun _ hm => ⟨hm.bl 0, hm.bl 1, hm.bl 2, hm.fa 0, hm.fa 1, trivial⟩) fun z => ?_
    refine wa1 14 rfl ?_
    refine wl_callv rfl cb85 rfl rfl (fun wx hm => (cmp_string _ _ wx)) ?_
    refine wl_nil ?_
    refine nw 18 32767 (fun _ hm => ⟨hm.bl 0, hm.bl 1, hm.bl 2, hm.fa 0, hm.fa 1, trivial⟩) fun z => ?_
    refine wa1 15 rfl ?_
    refine wl_buildSlice (e := 3) (cs := [.int .i64 (cmpI qf pf), .int .i64 (cmpS qv pv), .int .i64 (cmpS qp pp)]) rfl (by kernel_rfl) rfl fun g4 => ?_
    refine wl_nil ?_
    refine nw 18 65535 (fun _ hm => ⟨hm.bl 1, hm.bl 2, hm.bl 3, hm.fa 0, hm.fa 1, trivial⟩) fun z => ?_
    refine wa1 16 rfl ?_
    refine wl_callv rfl cb83 rfl rfl (fun wx hm => (or_three g4 _ _ _ wx (hm.blkI 0 rfl))) ?_
    refine wl_nil ?_
    refine nw 18 131071 (fun _ hm => ⟨hm.bl 1, hm.bl 2, hm.bl 3, hm.fa 0, hm.fa 1, trivial⟩) fun z => ?_
    refine wt 17 18 262143 rfl z (ov_geq rfl rfl) ?_
    refine wa_done (by kernel_rfl) ?_
    refine nx_then ?_
    refine gw_cond rfl (fun hh => ?_) (fun hh => ?_)
    ·have h6 : 0 ≤ firstE [cmpI qf pf, cmpS qv pv, cmpS qp pp] := by simpa using hh
     clear hh
     refine sr_ ?_
     have hO2 : plO (pl.take i) ⟨pf, pv, pp⟩ = true := by rw [hO]; exact decide_eq_true h6
     refine sg_ rfl (nn_ ?_)
     refine gw_ret ?_
     refine nx_then_ret (nx_blk_ret (nx_then_ret (nx_then_ret (nx_blk_ret (nx_then_ret ?_)))))
     have hE : plE vl (pl.take i) ⟨pf, pv, pp⟩ = 7 := by rw [hfour, if_pos hO2]
     refine nx_ret1 rfl rfl fun wx hm => ?_
     exact ⟨ret_int (by rw [hpe, hat, if_neg (by rw [hE]; decide), hE]), hm.g⟩
    have h6 : ¬ (0 ≤ firstE [cmpI qf pf, cmpS qv pv, cmpS qp pp]) := by simpa using hh
    clear hh
    refine gw_skip ?_
    have hO2 : plO (pl.take i) ⟨pf, pv, pp⟩ = false := by rw [hO]; exact decide_eq_false h6
    exact nx_meet () hO2 ⟨rfl, rfl, rfl, rfl, rfl, rfl, trivial⟩ (fun _ hm => hm.pick [2, 3] [] [0, 1] rfl rfl)
   have h5 : ¬ (0 < ((i : Nat) : Int)) := by simpa using hh
   clear hh
   refine gw_skip ?_
   obtain rfl : i = 0 := by omega
   exact nx_meet () plO_zero ⟨rfl, rfl, rfl, rfl, rfl, rfl, trivial⟩ (fun _ hm => hm.pick [0, 1] [] [0, 1] rfl rfl)
  intro uu hinv
  replace hinv : plO (pl.take i) ⟨pf, pv, pp⟩ = false := hinv
  refine sr_ ?_
  have hO : plO (pl.take i) ⟨pf, pv, pp⟩ = false := hinv
  have hlast := ord_last hil hO
  refine mv_ rfl ?_
  refine wl_ov (ov_sub rfl rfl (by omega) (by omega)) rfl ?_
  refine sg_ rfl (nn_ (gw_block ?_))
  refine gw_loop (γ := Nat) (fun (j : Nat) => j ≤ i ∧ ∀ t, j ≤ t → t < i → ∀ x, pl[t]? = some x → plTwin ⟨pf, pv, pp⟩ x = false) (fun (j : Nat) => [(1, .pointer (some ⟨g1, 0, none⟩)), (4, .pointer (some ⟨g2, 0, none⟩)), (6, .int .i64 (((j : Nat) : Int) - 1)), (13, .slice (some ⟨bp, op, none⟩) pn pc), (14, .int .i64 ((pn : Nat) : Int)), (15, .int .i64 ((i : Nat) : Int))]) (fun (j : Nat) => fun _ => True) (fun (j : Nat) => [(g2, 161, [.int .i64 pf, .string pv, .string pp]), (g1, 66, [.slice sA sn sc, .slice cA cn cc, .slice vA vn vc, .slice (some ⟨bp, op, none⟩) pn pc])]) (fun (j : Nat) => []) (fun (j : Nat) => [SlOld vhEnc 2 158 w.heap.size none vA vn vl, SlOld plEnc 3 161 w.heap.size none (some ⟨bp, op, none⟩) pn pl]) (fun (j : Nat) => j) i ⟨Nat.le_refl _, fun t h1 h2 => by omega⟩ ⟨rfl, rfl, rfl, rfl, rfl, rfl, trivial⟩ (fun _ hm => hm.pick [0, 1] [] [0, 1] rfl rfl) ?_
  intro j hinv
  replace hinv : j ≤ i ∧ ∀ t, j ≤ t → t < i → ∀ x, pl[t]? = some x → plTwin ⟨pf, pv, pp⟩ x = false := hinv
  refine gw_seq (gw_seq ?_)
  obtain ⟨hji, hno⟩ := hinv
  rcases j with _ | j
  ·refine gd (fun wz => Blk wz g2 161 [.int .i64 pf, .string pv, .string pp] ∧ Blk wz g1 66 [.slice sA sn sc, .slice cA cn cc, .slice vA vn vc, .slice (some ⟨bp, op, none⟩) pn pc] ∧ (SlOld vhEnc 2 158 w.heap.size none vA vn vl) wz ∧ (SlOld plEnc 3 161 w.heap.size none (some ⟨bp, op, none⟩) pn pl) wz ∧ True) mixed (fun _ hm => ⟨hm.bl 0, hm.bl 1, hm.fa 0, hm.fa 1, trivial⟩) fun z => ?_
   refine wt 0 13 1 rfl z (ov_move rfl) ?_
   refine wa_set 64 (v' := .int .i64 (-1)) rfl rfl ?_
   refine wt 1 13 3 rfl z (ov_geq rfl rfl) ?_
   refine wa_set 65 (v' := .bool false) rfl (congrArg Value.bool (by decide)) ?_
   refine wt 2 13 7 rfl z (ov_move rfl) ?_
   refine wtf 3 13 15 rfl rfl rfl z ?_
   refine wtf 4 13 31 rfl rfl rfl z ?_
   refine wtf 5 13 63 rfl rfl rfl z ?_
   refine wtf 6 13 127 rfl rfl rfl z ?_
   refine wtf 7 13 255 rfl rfl rfl z ?_
   refine wtf 8 13 511 rfl rfl rfl z ?_
   refine wtf 9 13 1023 rfl rfl rfl z ?_
   refine wtf 10 13 2047 rfl rfl rfl z ?_
   refine wtf 11 13 4095 rfl rfl rfl z ?_
   refine wt 12 13 8191 rfl z (ov_pick_f rfl rfl) ?_
   refine wa_done (by kernel_rfl) ?_
   refine nx_then (cf_ rfl ?_)
   refine gw_exit ?_
   refine nx_then_exit (nx_then_exit ?_)
   refine nx_blk_here ?_
   refine nx_blk_nrm (nx_then (gw_region (ad_ rfl rfl (mv_ rfl (wl_nil ?_)))))
   have hany := twin_none (p := ⟨pf, pv, pp⟩) hps (by omega) (by omega) hlast hno (.inl rfl)
   have hE : plE vl (pl.take i) ⟨pf, pv, pp⟩ = 0 := by rw [hfour, if_neg (by rw [hO]; decide), if_neg (by rw [hany]; decide)]
   exact nx_round (i + 1) ⟨by omega, by rw [hpe, hat, if_pos hE], psort_next hps hx hO⟩ (by omega) ⟨rfl, rfl, rfl, (some_int (by omega)), trivial⟩ (fun _ hm => hm.pick [1] [] [0, 1] rfl rfl)
  obtain ⟨tx, ht⟩ : ∃ x, pl[j]? = some x := ⟨_, List.getElem?_eq_getElem (by omega)⟩
  obtain ⟨tf, tv, tp⟩ := tx
  refine gd (fun wz => Blk wz g2 161 [.int .i64 pf, .string pv, .string pp] ∧ Blk wz g1 66 [.slice sA sn sc, .slice cA cn cc, .slice vA vn vc, .slice (some ⟨bp, op, none⟩) pn pc] ∧ (SlOld vhEnc 2 158 w.heap.size none vA vn vl) wz ∧ (SlOld plEnc 3 161 w.heap.size none (some ⟨bp, op, none⟩) pn pl) wz ∧ True) mixed (fun _ hm => ⟨hm.bl 0, hm.bl 1, hm.fa 0, hm.fa 1, trivial⟩) fun z => ?_
  refine wt 0 13 1 rfl z (ov_move rfl) ?_
  refine wa_set 64 (v' := .int .i64 ((j : Nat) : Int)) rfl (congrArg (Value.int .i64) (by omega)) ?_
  refine wt 1 13 3 rfl z (ov_geq rfl rfl) ?_
  refine wa_set 65 (v' := .bool true) rfl (congrArg Value.bool (decide_eq_true (by omega))) ?_
  refine wt 2 13 7 rfl z (ov_move rfl) ?_
  refine wto 3 13 15 rfl rfl rfl z (ov_field fo66_3 rfl rfl) ?_
  refine wto 4 13 31 rfl rfl rfl z (ov_load sc64 rfl (fun _ hm => hm.2.1) rfl) ?_
  refine wto 5 13 63 rfl rfl rfl z (ov_move rfl) ?_
  refine wa_set 69 (v' := .int .i64 ((j : Nat) : Int)) rfl (congrArg (Value.int .i64) (by omega)) ?_
  refine wto 6 13 127 rfl rfl rfl z (ov_index (j := j) es64 rfl rfl (by omega)) ?_
  refine wto 7 13 255 rfl rfl rfl z (ov_field fo161_0 rfl rfl) ?_
  refine wto 8 13 511 rfl rfl rfl z (ov_elem1 (k := 0) (v := .int .i64 tf) sc3 rfl (fun _ hm => (hm.2.2.2.1).1) ht rfl rfl) ?_
  refine wto 9 13 1023 rfl rfl rfl z (ov_field fo161_0 rfl rfl) ?_
  refine wto 10 13 2047 rfl rfl rfl z (ov_load sc3 rfl (fun _ hm => hm.1) rfl) ?_
  refine wto 11 13 4095 rfl rfl rfl z (ov_eql rfl rfl) ?_
  refine wt 12 13 8191 rfl z (ov_pick_t rfl rfl) ?_
  refine wa_done (by kernel_rfl) ?_
  refine nx_then ?_
  refine gw_cond rfl (fun hh => ?_) (fun hh => ?_)
  ·have h7 : tf = pf := by simpa using hh
   clear hh
   refine gw_skip (nx_then (gw_seq (gw_block (sr_ (fd_ fo66_3 rfl rfl (lk_ sc64 1 rfl rfl rfl (mv_ rfl ?_)))))))
   refine wl_set 81 (v' := .int .i64 ((j : Nat) : Int)) rfl (congrArg (Value.int .i64) (by omega)) ?_
   refine wl_ov (ov_index (j := j) es64 rfl rfl (by omega)) rfl ?_
   refine wl_ov (ov_elem (vs := [.int .i64 tf, .string tv, .string tp]) rz161 rfl (fun _ hm => (hm.fact 1 rfl).1) ht rfl rfl) rfl ?_
   refine wl_alloc zc161 rfl fun g5 => ?_
   refine wl_stores (cs' := [.int .i64 tf, .string tv, .string tp]) 0 rz161 rfl rfl rfl rfl rfl rfl rfl rfl ?_
   refine nn_ (sr_ (fd_ fo161_1 rfl rfl (lk_ sc9 0 rfl rfl rfl (fd_ fo161_1 rfl rfl (lk_ sc9 1 rfl rfl rfl (wl_ov (ov_seql rfl rfl) rfl (mv_ rfl ?_)))))))
   rcases Bool.eq_false_or_eq_true (tv.toList == pv.toList) with h8 | h8
   ·refine wl_set 89 rfl (congrArg Value.bool h8) ?_
    have htw : plTwin ⟨pf, pv, pp⟩ ⟨tf, tv, tp⟩ = true := by unfold plTwin; rw [decide_eq_true (show (⟨tf, tv, tp⟩ : Pl).fr = (⟨pf, pv, pp⟩ : Pl).fr from h7), h8]; rfl
    refine goff rfl rfl rfl (goff rfl rfl rfl (goff rfl rfl rfl (goff rfl rfl rfl (goff rfl rfl rfl (pt_ rfl rfl (nn_ (ct_ rfl (sr_ (sg_ rfl (nn_ ?_))))))))))
    refine gw_ret ?_
    refine nx_blk_ret (nx_then_ret (nx_then_ret (nx_blk_ret (nx_blk_ret (nx_then_ret (nx_then_ret (nx_blk_ret (nx_then_ret ?_))))))))
    have hany : (pl.take i).any (plTwin ⟨pf, pv, pp⟩) = true := List.any_eq_true.2 ⟨_, List.mem_of_getElem? (i := j) (by rw [List.getElem?_take, if_pos (by omega)]; exact ht), htw⟩
    have hE : plE vl (pl.take i) ⟨pf, pv, pp⟩ = 6 := by rw [hfour, if_neg (by rw [hO]; decide), if_pos hany]
    refine nx_ret1 rfl rfl fun wx hm => ?_
    exact ⟨ret_int (by rw [hpe, hat, if_neg (by rw [hE]; decide), hE]), hm.g⟩
   refine wl_set 89 rfl (congrArg Value.bool h8) ?_
   refine wl_guard_on rfl rfl rfl (fd_ fo161_2 rfl rfl (wl_guard_on rfl rfl rfl (lk_ sc9 0 rfl rfl rfl (wl_guard_on rfl rfl rfl (fd_ fo161_2 rfl rfl (wl_guard_on rfl rfl rfl (lk_ sc9 1 rfl rfl rfl (wl_guard_on rfl rfl rfl (wl_ov (ov_seql rfl rfl) rfl (pf_ rfl rfl (nn_ ?_)))))))))))
   refine gw_cond rfl (fun hh => ?_) (fun hh => ?_)
   ·have h9 : (tp.toList == pp.toList) = true := by simpa using hh
    clear hh
    refine sr_ ?_
    have htw : plTwin ⟨pf, pv, pp⟩ ⟨tf, tv, tp⟩ = true := by unfold plTwin; rw [decide_eq_true (show (⟨tf, tv, tp⟩ : Pl).fr = (⟨pf, pv, pp⟩ : Pl).fr from h7), h8, h9]; rfl
    refine sg_ rfl (nn_ ?_)
    refine gw_ret ?_
    refine nx_blk_ret (nx_then_ret (nx_then_ret (nx_blk_ret (nx_blk_ret (nx_then_ret (nx_then_ret (nx_blk_ret (nx_then_ret ?_))))))))
    have hany : (pl.take i).any (plTwin ⟨pf, pv, pp⟩) = true := List.any_eq_true.2 ⟨_, List.mem_of_getElem? (i := j) (by rw [List.getElem?_take, if_pos (by omega)]; exact ht), htw⟩
    have hE : plE vl (pl.take i) ⟨pf, pv, pp⟩ = 6 := by rw [hfour, if_neg (by rw [hO]; decide), if_pos hany]
    refine nx_ret1 rfl rfl fun wx hm => ?_
    exact ⟨ret_int (by rw [hpe, hat, if_neg (by rw [hE]; decide), hE]), hm.g⟩
   have h9 : (tp.toList == pp.toList) = false := by simpa using hh
   clear hh
   refine gw_skip (nx_blk_nrm (nx_then (gw_region ?_)))
   have htw : plTwin ⟨pf, pv, pp⟩ ⟨tf, tv, tp⟩ = false := by unfold plTwin; rw [decide_eq_true (show (⟨tf, tv, tp⟩ : Pl).fr = (⟨pf, pv, pp⟩ : Pl).fr from h7), h8, h9]; rfl
   refine mv_ rfl ?_
   refine wl_set 77 (v' := .int .i64 ((j : Nat) : Int)) rfl (congrArg (Value.int .i64) (by omega)) ?_
   refine wl_ov (ov_sub rfl rfl (by omega) (by omega)) rfl ?_
   refine sg_ rfl (wl_nil ?_)
   exact nx_round j ⟨by omega, fun t h1 h2 y hy => by
    rcases Nat.eq_or_lt_of_le h1 with rfl | h3
    ·rw [ht] at hy; cases hy; exact htw
    exact hno t h3 h2 y hy⟩ (by omega) ⟨rfl, rfl, rfl, rfl, rfl, rfl, trivial⟩ (fun _ hm => hm.pick [1, 2] [] [0, 1] rfl rfl)
  have h7 : ¬ (tf = pf) := by simpa using hh
  clear hh
  refine gw_exit ?_
  refine nx_then_exit (nx_then_exit ?_)
  refine nx_blk_here ?_
  refine nx_blk_nrm (nx_then (gw_region (ad_ rfl rfl (mv_ rfl (wl_nil ?_)))))
  have hany := twin_none (p := ⟨pf, pv, pp⟩) hps (by omega) (by omega) hlast hno (.inr ⟨_, ht, h7⟩)
  have hE : plE vl (pl.take i) ⟨pf, pv, pp⟩ = 0 := by rw [hfour, if_neg (by rw [hO]; decide), if_neg (by rw [hany]; decide)]
  exact nx_round (i + 1) ⟨by omega, by rw [hpe, hat, if_pos hE], psort_next hps hx hO⟩ (by omega) ⟨rfl, rfl, rfl, (some_int (by omega)), trivial⟩ (fun _ hm => hm.pick [1] [] [0, 1] rfl rfl)
 have hi : ¬ (((i : Nat) : Int) < ((pn : Nat) : Int)) := by simpa using hh
 clear hh
 refine gw_exit ?_
 refine nx_then_exit (nx_then_exit ?_)
 refine nx_blk_here ?_
 refine nx_then (sr_ (sg_ rfl (nn_ ?_)))
 refine gw_ret ?_
 refine nx_ret1 rfl rfl fun wx hm => ?_
 exact ⟨ret_int (by rw [plates_end (by omega) hpe]), hm.g⟩
end Go.Proofs.YtnpcbfllnkiopaaGreatDoor
namespace Go.Proofs.YtnpcbfllnkiopaaGreatDoor
open Go.RowKit
theorem fleet_head {sl : List St} {cl : List Cs} {vl : List Vh} {pl : List Pl} {vn : Nat} (hl : vl.length = vn) (h : firstE [stationsE sl, classesE cl, whenE (decide ((500 : Int) < ((vn : Nat) : Int))) 2] ≠ 0) : fleetE sl cl vl pl = firstE [stationsE sl, classesE cl, whenE (decide ((500 : Int) < ((vn : Nat) : Int))) 2] := by
  unfold fleetE
  by_cases h1 : stationsE sl = 0
  · by_cases h2 : classesE cl = 0
    · by_cases h3 : (500 : Int) < ((vn : Nat) : Int)
      · have h4 : vehsE cl vl = 2 := by unfold vehsE; rw [if_pos (by omega)]
        rw [h1, h2, h4, decide_eq_true h3]; rfl
      · rw [h1, h2, decide_eq_false h3] at h
        exact absurd rfl h
    · simp [firstE, h1, h2]
  · simp [firstE, h1]
theorem fleet_tail {sl : List St} {cl : List Cs} {vl : List Vh} {pl : List Pl} {vn : Nat} (hl : vl.length = vn) (h : firstE [stationsE sl, classesE cl, whenE (decide ((500 : Int) < ((vn : Nat) : Int))) 2] = 0) : stationsE sl = 0 ∧ classesE cl = 0 ∧ vn ≤ 500 ∧ fleetE sl cl vl pl = firstE [scanE (vhE cl) none vl, platesE vl pl] := by
  have hz := fe_all h
  have h1 := hz (stationsE sl) (by simp)
  have h2 := hz (classesE cl) (by simp)
  have h3 := hz (whenE (decide ((500 : Int) < ((vn : Nat) : Int))) 2) (by simp)
  have h4 : ¬ (500 : Int) < ((vn : Nat) : Int) := fun h => by rw [decide_eq_true h] at h3; cases h3
  refine ⟨h1, h2, by omega, ?_⟩
  unfold fleetE vehsE
  rw [h1, h2, if_neg (by omega)]; rfl
theorem fe_left {a b : Int} (h : a ≠ 0) : firstE [a, b] = a := by simp [firstE, h]
theorem fe_right {b : Int} : firstE [0, b] = b := by
  by_cases h : b = 0
  · subst h; rfl
  · simp [firstE, h]
theorem vhE_one {cl : List Cs} {p : Option Vh} {b : Vh} (h : keyB b.key = false) : vhE cl p b = 5 := by unfold vhE; rw [h]; rfl
theorem vhE_two {cl : List Cs} {p : Option Vh} {b : Vh} (h : keyB b.key = true) (h2 : leVh p b = true) : vhE cl p b = 7 := by unfold vhE; rw [h, h2]; rfl
theorem vhE_three {cl : List Cs} {p : Option Vh} {b : Vh} (h : keyB b.key = true) (h2 : leVh p b = false) : vhE cl p b = if ixP (csP b.cls) cl 0 < 0 then 8 else 0 := by unfold vhE; rw [h, h2]; rfl
theorem checkFleet_any (sl : List St) (cl : List Cs) (vl : List Vh) (pl : List Pl) (sA cA vA pA : Option Addr) (sn sc cn cc vn vc pn pc : Nat) (w : World) (hs : SlT stEnc 15 168 w sA sn sl) (hc : SlT csEnc 2 170 w cA cn cl) (hv : SlT vhEnc 2 158 w vA vn vl) (hp : SlT plEnc 3 161 w pA pn pl) (hsok : ∀ x ∈ sl, StOk x) (hcok : ∀ x ∈ cl, CsOk x) (hvok : ∀ x ∈ vl, VhOk x) (hpok : ∀ x ∈ pl, PlOk x) (hsn : sn ≤ 1000000) (hcn : cn ≤ 1000000) (hvn : vn ≤ 1000000) (hpn : pn ≤ 1000000) :
  Calls Tryz.prog 105 #[.agg #[.slice sA sn sc, .slice cA cn cc, .slice vA vn vc, .slice pA pn pc]] w (GotE w (fleetE sl cl vl pl)) := by
 refine gw_enter ⟨60, w, none, []⟩ Tryz.func105 rfl Tryz.ntmps105 rfl (mem0 (X := [SlOld stEnc 15 168 w.heap.size none sA sn sl, SlOld csEnc 2 170 w.heap.size none cA cn cl, SlOld vhEnc 2 158 w.heap.size none vA vn vl, SlOld plEnc 3 161 w.heap.size none pA pn pl]) (allF_cons hs.old (allF_cons hc.old (allF_cons hv.old (allF_cons hp.old allF_nil)))) (allL_cons SlOld.lasts (allL_cons SlOld.lasts (allL_cons SlOld.lasts (allL_cons SlOld.lasts allL_nil))))) ?_
 refine sr_ ?_
 have hlen := hv.len
 obtain ⟨SE, hSE⟩ : ∃ z, z = stationsE sl := ⟨_, rfl⟩
 obtain ⟨CE, hCE⟩ : ∃ z, z = classesE cl := ⟨_, rfl⟩
 obtain ⟨FE, hFE⟩ : ∃ z, z = firstE [stationsE sl, classesE cl, whenE (decide ((500 : Int) < ((vn : Nat) : Int))) 2] := ⟨_, rfl⟩
 have hFE2 : FE = firstE [SE, CE, whenE (decide ((500 : Int) < ((vn : Nat) : Int))) 2] := by rw [hFE, hSE, hCE]
 refine wl_box rfl rfl rfl fun g1 => ?_
 refine sg_ rfl (nn_ (gw_seq ?_))
 refine gw_cut (γ := Unit) (I := (fun (uu : Unit) => True)) (S' := (fun (uu : Unit) => [(1, .pointer (some ⟨g1, 0, none⟩)), (2, .int .i64 0), (3, .int .i64 FE)])) (K' := (fun (uu : Unit) => fun _ => True)) (L' := (fun (uu : Unit) => [(g1, 66, [.slice sA sn sc, .slice cA cn cc, .slice vA vn vc, .slice pA pn pc])])) (O' := (fun (uu : Unit) => [])) (X' := (fun (uu : Unit) => [SlOld stEnc 15 168 w.heap.size none sA sn sl, SlOld csEnc 2 170 w.heap.size none cA cn cl, SlOld vhEnc 2 158 w.heap.size none vA vn vl, SlOld plEnc 3 161 w.heap.size none pA pn pl])) ?_ ?_
 ·refine gd (fun wz => Blk wz g1 66 [.slice sA sn sc, .slice cA cn cc, .slice vA vn vc, .slice pA pn pc] ∧ (SlOld stEnc 15 168 w.heap.size none sA sn sl) wz ∧ (SlOld csEnc 2 170 w.heap.size none cA cn cl) wz ∧ (SlOld vhEnc 2 158 w.heap.size none vA vn vl) wz ∧ (SlOld plEnc 3 161 w.heap.size none pA pn pl) wz ∧ True) mixed (fun _ hm => ⟨hm.bl 0, hm.fa 0, hm.fa 1, hm.fa 2, hm.fa 3, trivial⟩) fun z => ?_
  refine wt 0 14 1 rfl z (ov_field fo66_0 rfl rfl) ?_
  refine wt 1 14 3 rfl z (ov_load sc61 rfl (fun _ hm => hm.1) rfl) ?_
  refine wt 3 14 11 rfl z (ov_field fo66_1 rfl rfl) ?_
  refine wt 4 14 27 rfl z (ov_load sc62 rfl (fun _ hm => hm.1) rfl) ?_
  refine wt 6 14 91 rfl z (ov_field fo66_2 rfl rfl) ?_
  refine wt 7 14 219 rfl z (ov_load sc63 rfl (fun _ hm => hm.1) rfl) ?_
  refine wt 8 14 475 rfl z (ov_len es63 rfl) ?_
  refine wt 9 14 987 rfl z (ov_gtr rfl rfl) ?_
  refine wa1 2 rfl ?_
  refine wl_callv (v := .int .i64 SE) rfl cb187 rfl rfl (fun wx hm => (by rw [hSE]; exact checkStations_any sl sA sn sc wx (hm.fact 0 rfl).1 hsok (by omega))) ?_
  refine wl_nil ?_
  refine nw 14 991 (fun _ hm => ⟨hm.bl 0, hm.fa 0, hm.fa 1, hm.fa 2, hm.fa 3, trivial⟩) fun z => ?_
  refine wa1 5 rfl ?_
  refine wl_callv (v := .int .i64 CE) rfl cb188 rfl rfl (fun wx hm => (by rw [hCE]; exact checkClasses_any cl cA cn cc wx (hm.fact 1 rfl).1 hcok (by omega))) ?_
  refine wl_nil ?_
  refine nw 14 1023 (fun _ hm => ⟨hm.bl 0, hm.fa 0, hm.fa 1, hm.fa 2, hm.fa 3, trivial⟩) fun z => ?_
  refine wa1 10 rfl ?_
  refine wl_callw rfl cb106 rfl rfl (fun wx hm => (when_any _ _ wx)) ?_
  refine wl_nil ?_
  refine nw 14 2047 (fun _ hm => ⟨hm.bl 0, hm.fa 0, hm.fa 1, hm.fa 2, hm.fa 3, trivial⟩) fun z => ?_
  refine wa1 11 rfl ?_
  refine wl_buildSlice (e := 28) (cs := [.int .i64 SE, .int .i64 CE, .int .i64 (whenE (decide (500 < ((vn : Nat) : Int))) 2)]) rfl (by kernel_rfl) rfl fun g2 => ?_
  refine wl_nil ?_
  refine nw 14 4095 (fun _ hm => ⟨hm.bl 1, hm.fa 0, hm.fa 1, hm.fa 2, hm.fa 3, trivial⟩) fun z => ?_
  refine wa1 12 rfl ?_
  refine wl_callw rfl cb104 rfl rfl (fun wx hm => (first_any [SE, CE, whenE (decide (500 < ((vn : Nat) : Int))) 2] _ _ _ wx (hm.blkI 0 rfl) (by simp))) ?_
  refine wl_nil ?_
  refine nw 14 8191 (fun _ hm => ⟨hm.bl 1, hm.fa 0, hm.fa 1, hm.fa 2, hm.fa 3, trivial⟩) fun z => ?_
  refine wt 13 14 16383 rfl z (ov_assign rfl) ?_
  refine wa_done (by kernel_rfl) ?_
  exact nx_meet () trivial ⟨rfl, rfl, (some_int hFE2.symm), trivial⟩ (fun _ hm => hm.pick [1] [] [0, 1, 2, 3] rfl rfl)
 intro uu hinv
 replace hinv : True := hinv
 refine sr_ (mv_ rfl (wl_ov (ov_neq rfl rfl) rfl (nn_ ?_)))
 refine gw_cond rfl (fun hh => ?_) (fun hh => ?_)
 ·have h1 : ¬ (FE = 0) := by simpa using hh
  clear hh
  refine sr_ ?_
  have h2 : FE ≠ 0 := by simpa using h1
  have h3 : fleetE sl cl vl pl = FE := by rw [hFE]; exact fleet_head hlen (by rw [← hFE]; exact h2)
  refine mv_ rfl (sg_ rfl (nn_ ?_))
  refine gw_ret ?_
  refine nx_then_ret ?_
  refine nx_ret1 rfl rfl fun wx hm => ?_
  exact ⟨ret_int (by rw [h3]), hm.g⟩
 have h1 : FE = 0 := by simpa using hh
 clear hh
 refine gw_skip (nx_then (gw_seq (sr_ ?_)))
 have h2 : FE = 0 := by simpa using h1
 obtain ⟨_, hcz, hv5, hfl⟩ := fleet_tail (sl := sl) (cl := cl) (pl := pl) hlen (hFE.symm.trans h2)
 refine fd_ fo66_2 rfl rfl (lk_ sc63 0 rfl rfl rfl (wl_ov (ov_len es63 rfl) rfl (mv_ rfl (nn_ (gw_block ?_)))))
 refine gw_loop (γ := Nat) (fun (i : Nat) => i ≤ vn ∧ scanE (vhE cl) none vl = scanE (vhE cl) (prevOf vl i) (vl.drop i)) (fun (i : Nat) => [(1, .pointer (some ⟨g1, 0, none⟩)), (23, .slice vA vn vc), (24, .int .i64 ((vn : Nat) : Int)), (25, .int .i64 ((i : Nat) : Int))]) (fun (i : Nat) => fun _ => True) (fun (i : Nat) => [(g1, 66, [.slice sA sn sc, .slice cA cn cc, .slice vA vn vc, .slice pA pn pc])]) (fun (i : Nat) => []) (fun (i : Nat) => [SlOld stEnc 15 168 w.heap.size none sA sn sl, SlOld csEnc 2 170 w.heap.size none cA cn cl, SlOld vhEnc 2 158 w.heap.size none vA vn vl, SlOld plEnc 3 161 w.heap.size none pA pn pl]) (fun (i : Nat) => vn - i) 0 ⟨Nat.zero_le _, rfl⟩ ⟨rfl, rfl, rfl, rfl, trivial⟩ (fun _ hm => hm.pick [0] [] [0, 1, 2, 3] rfl rfl) ?_
 intro i hinv
 replace hinv : i ≤ vn ∧ scanE (vhE cl) none vl = scanE (vhE cl) (prevOf vl i) (vl.drop i) := hinv
 refine sr_ ?_
 obtain ⟨hi0, hsc⟩ := hinv
 refine wl_ov (ov_lss rfl rfl) rfl (nn_ (gw_seq ?_))
 refine gw_cond rfl (fun hh => ?_) (fun hh => ?_)
 ·have hi : ((i : Nat) : Int) < ((vn : Nat) : Int) := by simpa using hh
  clear hh
  refine gw_skip (nx_then (gw_seq (gw_block (sr_ ?_))))
  obtain ⟨bv, ov, hA, _, _⟩ := hv.get (by omega)
  subst hA
  obtain ⟨x, hx⟩ : ∃ x, vl[i]? = some x := ⟨_, List.getElem?_eq_getElem (by omega)⟩
  obtain ⟨vk, vc2⟩ := x
  have hat := scanE_at (vhE cl) vl i _ hx
  obtain ⟨hvk, hvc2⟩ := hvok _ (List.mem_of_getElem? hx)
  have hvk : vk.size ≤ 1000000 := hvk
  refine mv_ rfl ?_
  refine wl_ov (ov_index (j := i) es63 rfl rfl (by omega)) rfl ?_
  refine wl_ov (ov_elem (vs := [.string vk, .string vc2]) rz158 rfl (fun _ hm => (hm.fact 2 rfl).1) hx rfl rfl) rfl ?_
  refine wl_alloc zc158 rfl fun g3 => ?_
  refine sg_ rfl ?_
  refine wl_stores (cs' := [.string vk, .string vc2]) 0 rz158 rfl rfl rfl rfl rfl rfl rfl rfl ?_
  refine nn_ (gw_block (sr_ (fd_ fo158_0 rfl rfl (lk_ sc9 0 rfl rfl rfl ?_))))
  refine wl_callw rfl cb160 rfl rfl (fun wx hm => (isKey_any _ wx (by omega))) ?_
  refine wl_ov (ov_un_not rfl) rfl (sg_ rfl (nn_ ?_))
  refine gw_cond rfl (fun hh => ?_) (fun hh => ?_)
  ·have h3 : (keyB vk) = false := by simpa using hh
   clear hh
   refine sr_ (sg_ rfl (nn_ ?_))
   refine gw_ret ?_
   refine nx_blk_ret (nx_blk_ret (nx_then_ret (nx_then_ret (nx_blk_ret (nx_then_ret ?_)))))
   have hE : vhE cl (prevOf vl i) ⟨vk, vc2⟩ = 5 := vhE_one (by simpa using h3)
   have hF : scanE (vhE cl) none vl = 5 := by rw [hsc, hat, if_neg (by rw [hE]; decide), hE]
   refine nx_ret1 rfl rfl fun wx hm => ?_
   exact ⟨ret_int (by rw [hfl, hF, fe_left (by decide)]), hm.g⟩
  have h3 : (keyB vk) = true := by simpa using hh
  clear hh
  refine gw_seq ?_
  by_cases h0 : i = 0
  ·have hle : leVh (prevOf vl i) ⟨vk, vc2⟩ = false := by rw [prevOf_zero h0]; rfl
   have h8 := vhE_three (cl := cl) (b := ⟨vk, vc2⟩) (by simpa using h3) hle
   refine gd (fun wz => Blk wz g3 158 [.string vk, .string vc2] ∧ Blk wz g1 66 [.slice sA sn sc, .slice cA cn cc, .slice (some ⟨bv, ov, none⟩) vn vc, .slice pA pn pc] ∧ (SlOld stEnc 15 168 w.heap.size none sA sn sl) wz ∧ (SlOld csEnc 2 170 w.heap.size none cA cn cl) wz ∧ (SlOld vhEnc 2 158 w.heap.size none (some ⟨bv, ov, none⟩) vn vl) wz ∧ (SlOld plEnc 3 161 w.heap.size none pA pn pl) wz ∧ True) mixed (fun _ hm => ⟨hm.bl 0, hm.bl 1, hm.fa 0, hm.fa 1, hm.fa 2, hm.fa 3, trivial⟩) fun z => ?_
   refine wt 0 15 1 rfl z (ov_move rfl) ?_
   refine wt 1 15 3 rfl z (ov_gtr rfl rfl) ?_
   refine wa_set 37 (v' := .bool false) rfl (congrArg Value.bool (decide_eq_false (by omega))) ?_
   refine wt 2 15 7 rfl z (ov_move rfl) ?_
   refine wtf 3 15 15 rfl rfl rfl z ?_
   refine wtf 4 15 31 rfl rfl rfl z ?_
   refine wtf 5 15 63 rfl rfl rfl z ?_
   refine wtf 6 15 127 rfl rfl rfl z ?_
   refine wtf 7 15 255 rfl rfl rfl z ?_
   refine wtf 8 15 511 rfl rfl rfl z ?_
   refine wtf 9 15 1023 rfl rfl rfl z ?_
   refine wtf 10 15 2047 rfl rfl rfl z ?_
   refine wtf 11 15 4095 rfl rfl rfl z ?_
   refine wtf 12 15 8191 rfl rfl rfl z ?_
   refine wt 13 15 16383 rfl z (ov_pick_f rfl rfl) ?_
   refine wt 14 15 32767 rfl z (ov_assign rfl) ?_
   refine wa_done (by kernel_rfl) ?_
   refine nx_then (cf_ rfl (sr_ (fd_ fo66_1 rfl rfl (lk_ sc62 1 rfl rfl rfl (fd_ fo158_1 rfl rfl (lk_ sc9 0 rfl rfl rfl ?_))))))
   refine wl_callv rfl cb189 rfl rfl (fun wx hm => (classAt_any cl cA cn cc vc2 wx (hm.fact 1 rfl).1 (by omega))) ?_
   refine wl_ov (ov_lss rfl rfl) rfl (sg_ rfl (nn_ ?_))
   refine gw_cond rfl (fun hh => ?_) (fun hh => ?_)
   ·have h5 : ixP (csP vc2) cl 0 < 0 := by simpa using hh
    clear hh
    refine sr_ (sg_ rfl (nn_ ?_))
    refine gw_ret ?_
    refine nx_blk_ret (nx_blk_ret (nx_then_ret (nx_then_ret (nx_blk_ret (nx_then_ret ?_)))))
    have hE : vhE cl (prevOf vl i) ⟨vk, vc2⟩ = 8 := by rw [h8, if_pos h5]
    have hF : scanE (vhE cl) none vl = 8 := by rw [hsc, hat, if_neg (by rw [hE]; decide), hE]
    refine nx_ret1 rfl rfl fun wx hm => ?_
    exact ⟨ret_int (by rw [hfl, hF, fe_left (by decide)]), hm.g⟩
   have h5 : ¬ (ixP (csP vc2) cl 0 < 0) := by simpa using hh
   clear hh
   refine gw_skip (nx_blk_nrm (nx_blk_nrm (nx_then (gw_region ?_))))
   have hE : vhE cl (prevOf vl i) ⟨vk, vc2⟩ = 0 := by rw [h8, if_neg h5]
   refine ad_ rfl rfl (mv_ rfl (wl_nil ?_))
   exact nx_round (i + 1) ⟨by omega, by rw [hsc, hat, if_pos hE]⟩ (by omega) ⟨rfl, rfl, rfl, (some_int (by omega)), trivial⟩ (fun _ hm => hm.pick [1] [] [0, 1, 2, 3] rfl rfl)
  obtain ⟨yy, hy⟩ : ∃ x, vl[i - 1]? = some x := ⟨_, List.getElem?_eq_getElem (by omega)⟩
  obtain ⟨uk, uc⟩ := yy
  refine gd (fun wz => Blk wz g3 158 [.string vk, .string vc2] ∧ Blk wz g1 66 [.slice sA sn sc, .slice cA cn cc, .slice (some ⟨bv, ov, none⟩) vn vc, .slice pA pn pc] ∧ (SlOld stEnc 15 168 w.heap.size none sA sn sl) wz ∧ (SlOld csEnc 2 170 w.heap.size none cA cn cl) wz ∧ (SlOld vhEnc 2 158 w.heap.size none (some ⟨bv, ov, none⟩) vn vl) wz ∧ (SlOld plEnc 3 161 w.heap.size none pA pn pl) wz ∧ True) mixed (fun _ hm => ⟨hm.bl 0, hm.bl 1, hm.fa 0, hm.fa 1, hm.fa 2, hm.fa 3, trivial⟩) fun z => ?_
  refine wt 0 15 1 rfl z (ov_move rfl) ?_
  refine wt 1 15 3 rfl z (ov_gtr rfl rfl) ?_
  refine wa_set 37 (v' := .bool true) rfl (congrArg Value.bool (decide_eq_true (by omega))) ?_
  refine wt 2 15 7 rfl z (ov_move rfl) ?_
  refine wto 3 15 15 rfl rfl rfl z (ov_field fo158_0 rfl rfl) ?_
  refine wto 4 15 31 rfl rfl rfl z (ov_load sc9 rfl (fun _ hm => hm.1) rfl) ?_
  refine wto 5 15 63 rfl rfl rfl z (ov_field fo66_2 rfl rfl) ?_
  refine wto 6 15 127 rfl rfl rfl z (ov_load sc63 rfl (fun _ hm => hm.2.1) rfl) ?_
  refine wto 7 15 255 rfl rfl rfl z (ov_move rfl) ?_
  refine wto 8 15 511 rfl rfl rfl z (ov_sub rfl rfl (by omega) (by omega)) ?_
  refine wa_set 44 (v' := .int .i64 (((i - 1) : Nat) : Int)) rfl (congrArg (Value.int .i64) (by omega)) ?_
  refine wto 9 15 1023 rfl rfl rfl z (ov_index (j := (i - 1)) es63 rfl rfl (by omega)) ?_
  refine wto 10 15 2047 rfl rfl rfl z (ov_field fo158_0 rfl rfl) ?_
  refine wto 11 15 4095 rfl rfl rfl z (ov_elem1 (k := 0) (v := .string uk) sc9 rfl (fun _ hm => (hm.2.2.2.2.1).1) hy rfl rfl) ?_
  refine wto 12 15 8191 rfl rfl rfl z (ov_sleq rfl rfl) ?_
  refine wt 13 15 16383 rfl z (ov_pick_t rfl rfl) ?_
  refine wt 14 15 32767 rfl z (ov_assign rfl) ?_
  refine wa_done (by kernel_rfl) ?_
  refine nx_then ?_
  refine gw_cond rfl (fun hh => ?_) (fun hh => ?_)
  ·have h4 : (Op.bytesLess vk.toList uk.toList || vk.toList == uk.toList) = true := by simpa using hh
   clear hh
   refine sr_ ?_
   have hle : leVh (prevOf vl i) ⟨vk, vc2⟩ = true := by rw [prevOf_pos h0 hy]; exact h4
   refine sg_ rfl (nn_ ?_)
   refine gw_ret ?_
   refine nx_blk_ret (nx_blk_ret (nx_then_ret (nx_then_ret (nx_blk_ret (nx_then_ret ?_)))))
   have hE : vhE cl (prevOf vl i) ⟨vk, vc2⟩ = 7 := vhE_two (by simpa using h3) hle
   have hF : scanE (vhE cl) none vl = 7 := by rw [hsc, hat, if_neg (by rw [hE]; decide), hE]
   refine nx_ret1 rfl rfl fun wx hm => ?_
   exact ⟨ret_int (by rw [hfl, hF, fe_left (by decide)]), hm.g⟩
  have h4 : (Op.bytesLess vk.toList uk.toList || vk.toList == uk.toList) = false := by simpa using hh
  clear hh
  refine sr_ ?_
  have hle : leVh (prevOf vl i) ⟨vk, vc2⟩ = false := by rw [prevOf_pos h0 hy]; exact h4
  have h8 := vhE_three (cl := cl) (b := ⟨vk, vc2⟩) (by simpa using h3) hle
  refine fd_ fo66_1 rfl rfl (lk_ sc62 1 rfl rfl rfl (fd_ fo158_1 rfl rfl (lk_ sc9 0 rfl rfl rfl ?_)))
  refine wl_callv rfl cb189 rfl rfl (fun wx hm => (classAt_any cl cA cn cc vc2 wx (hm.fact 1 rfl).1 (by omega))) ?_
  refine wl_ov (ov_lss rfl rfl) rfl (sg_ rfl (nn_ ?_))
  refine gw_cond rfl (fun hh => ?_) (fun hh => ?_)
  ·have h5 : ixP (csP vc2) cl 0 < 0 := by simpa using hh
   clear hh
   refine sr_ (sg_ rfl (nn_ ?_))
   refine gw_ret ?_
   refine nx_blk_ret (nx_blk_ret (nx_then_ret (nx_then_ret (nx_blk_ret (nx_then_ret ?_)))))
   have hE : vhE cl (prevOf vl i) ⟨vk, vc2⟩ = 8 := by rw [h8, if_pos h5]
   have hF : scanE (vhE cl) none vl = 8 := by rw [hsc, hat, if_neg (by rw [hE]; decide), hE]
   refine nx_ret1 rfl rfl fun wx hm => ?_
   exact ⟨ret_int (by rw [hfl, hF, fe_left (by decide)]), hm.g⟩
  have h5 : ¬ (ixP (csP vc2) cl 0 < 0) := by simpa using hh
  clear hh
  refine gw_skip (nx_blk_nrm (nx_blk_nrm (nx_then (gw_region ?_))))
  have hE : vhE cl (prevOf vl i) ⟨vk, vc2⟩ = 0 := by rw [h8, if_neg h5]
  refine ad_ rfl rfl (mv_ rfl (wl_nil ?_))
  exact nx_round (i + 1) ⟨by omega, by rw [hsc, hat, if_pos hE]⟩ (by omega) ⟨rfl, rfl, rfl, (some_int (by omega)), trivial⟩ (fun _ hm => hm.pick [1] [] [0, 1, 2, 3] rfl rfl)
 have hi : ¬ (((i : Nat) : Int) < ((vn : Nat) : Int)) := by simpa using hh
 clear hh
 refine gw_exit ?_
 refine nx_then_exit (nx_then_exit ?_)
 refine nx_blk_here ?_
 refine nx_then (sr_ ?_)
 have hz : scanE (vhE cl) none vl = 0 := by rw [hsc, List.drop_eq_nil_of_le (by omega)]; rfl
 have hrise : Rise vl := (rise_of hz).1
 obtain ⟨PE, hPE⟩ : ∃ z, z = platesE vl pl := ⟨_, rfl⟩
 refine wl_ov (ov_loads rz66 rfl (fun _ hm => hm.blkI 0 rfl) rfl rfl) rfl ?_
 refine wl_callv (v := .int .i64 PE) rfl cb190 rfl rfl (fun wx hm => (by rw [hPE]; exact checkPlates_any vl pl sA cA vA pA sn sc cn cc vn vc pn pc wx (hm.fact 2 rfl).1 (hm.fact 3 rfl).1 (by omega) (by omega) hrise hpok)) ?_
 refine sg_ rfl (nn_ ?_)
 refine gw_ret ?_
 refine nx_ret1 rfl rfl fun wx hm => ?_
 exact ⟨ret_int (by rw [hfl, hz, fe_right, hPE]), hm.g⟩
end Go.Proofs.YtnpcbfllnkiopaaGreatDoor
namespace Go.Proofs.YtnpcbfllnkiopaaGreatDoor
open Go.RowKit
def taken (e : List Pl) (p : Pl) : Bool := e.any fun o => decide (p.fr < o.fr) && (o.veh.toList == p.veh.toList || o.plate.toList == p.plate.toList)
end Go.Proofs.YtnpcbfllnkiopaaGreatDoor
namespace Go.Proofs.YtnpcbfllnkiopaaGreatDoor
open Go.RowKit
theorem list14 (hs : List Int) (h : hs.length = 14) : ∃ a0 a1 a2 a3 a4 a5 a6 a7 a8 a9 a10 a11 a12 a13, hs = [a0, a1, a2, a3, a4, a5, a6, a7, a8, a9, a10, a11, a12, a13] := by
  match hs, h with
  | [a0, a1, a2, a3, a4, a5, a6, a7, a8, a9, a10, a11, a12, a13], _ => exact ⟨a0, a1, a2, a3, a4, a5, a6, a7, a8, a9, a10, a11, a12, a13, rfl⟩
def hourFr (hs : List Int) (d : Int) : Int := d * 1440 + frAt hs (d % 7).toNat
def hourTo (hs : List Int) (d : Int) : Int := d * 1440 + toAt hs (d % 7).toNat
theorem stEnc_len {s : St} (h : StOk s) : (stEnc s).length = 15 := st_len _ _ h.1
end Go.Proofs.YtnpcbfllnkiopaaGreatDoor
namespace Go.Proofs.YtnpcbfllnkiopaaGreatDoor
open Go.RowKit
/-- The next opening from day d on; n days are left. -/
def nextFrom (hs : List Int) (at_ : Int) : Nat → Int → Option Int
  | 0, _ => none
  | n + 1, d => if max at_ (hourFr hs d) < hourTo hs d then some (max at_ (hourFr hs d)) else nextFrom hs at_ n (d + 1)
end Go.Proofs.YtnpcbfllnkiopaaGreatDoor
namespace Go.Proofs.YtnpcbfllnkiopaaGreatDoor
def frD (hs : List Int) (d : Int) : Int := frAt hs (d % 7).toNat
def toD (hs : List Int) (d : Int) : Int := toAt hs (d % 7).toNat
theorem hourFr_eq (hs : List Int) (d : Int) : hourFr hs d = d * 1440 + frD hs d := rfl
theorem hourTo_eq (hs : List Int) (d : Int) : hourTo hs d = d * 1440 + toD hs d := rfl
section
variable {hs : List Int} {at_ : Int}
theorem never (h : ∀ e, ¬ frD hs e < toD hs e) : ∀ (n : Nat) (d : Int), nextFrom hs at_ n d = none
  | 0, _ => rfl
  | n + 1, d => by
    have h1 := h d
    rw [nextFrom, if_neg (by rw [hourFr_eq, hourTo_eq]; omega)]
    exact never h n (d + 1)
end
end Go.Proofs.YtnpcbfllnkiopaaGreatDoor
namespace Go.Proofs.YtnpcbfllnkiopaaGreatDoor
open Go.RowKit
def Bd (x : Int) : Prop := -3000 ≤ x ∧ x ≤ 3000
theorem wd_l {a b : Int} (h : Wd a b) : Bd a := by unfold Wd at h; unfold Bd; omega
theorem wd_r {a b : Int} (h : Wd a b) : Bd b := by unfold Wd at h; unfold Bd; omega
def StB (s : St) : Prop := s.hs.length = 14 ∧ s.key.size ≤ 10 ∧ ∀ h ∈ s.hs, -3000 ≤ h ∧ h ≤ 3000
theorem stB_ok {s : St} (h : StB s) : StOk s := ⟨h.1, by have := h.2.1; omega, fun x hx => by have := h.2.2 x hx; omega⟩
theorem bd_all {h0 h1 h2 h3 h4 h5 h6 h7 h8 h9 h10 h11 h12 h13 : Int} (h : Bd h0 ∧ Bd h1 ∧ Bd h2 ∧ Bd h3 ∧ Bd h4 ∧ Bd h5 ∧ Bd h6 ∧ Bd h7 ∧ Bd h8 ∧ Bd h9 ∧ Bd h10 ∧ Bd h11 ∧ Bd h12 ∧ Bd h13) : ∀ x ∈ [h0, h1, h2, h3, h4, h5, h6, h7, h8, h9, h10, h11, h12, h13], -3000 ≤ x ∧ x ≤ 3000 := fun x hx => by
  simp only [List.mem_cons, List.not_mem_nil, or_false] at hx
  obtain ⟨b0, b1, b2, b3, b4, b5, b6, b7, b8, b9, b10, b11, b12, b13⟩ := h
  rcases hx with rfl | rfl | rfl | rfl | rfl | rfl | rfl | rfl | rfl | rfl | rfl | rfl | rfl | rfl <;> assumption
theorem stB_snoc {l : List St} {x : St} (h : ∀ y ∈ l, StB y) (hx : StB x) : ∀ y ∈ l ++ [x], StB y := fun y hy => by
  rcases List.mem_append.1 hy with hy | hy
  · exact h y hy
  · rw [List.mem_singleton.1 hy]; exact hx
theorem gstations_anyF (w : World) (B sb m : Nat) (hS : Strm 25 w B sb m) (hm : m ≤ 100000000) :
  Calls Tryz.prog 207 #[.pointer (some ⟨sb, 0, none⟩)] w (fun e w' => ∃ (A : Option Addr) (n c : Nat) (l : List St), e = .returned (.slice A n c) ∧ w'.ownsRow w.heap.size 168 15 (.slice A n c) n (l.flatMap stEnc) ∧ (l.length = n ∧ stationsE l = 0) ∧ (∀ x ∈ l, StB x) ∧ n ≤ 3 ∧ Strm 25 w' B sb (m + 100) ∧ w.grownBy w' (some sb)) := by
 refine gw_enter ⟨47, w, (some sb), []⟩ Tryz.func207 rfl Tryz.ntmps207 rfl (memS (X := []) hS allF_nil allL_nil) ?_
 refine sr_ ?_
 refine wl_nilOwn 168 15 ?_
 refine sg_ rfl (nn_ (sr_ (sg_ rfl (nn_ (gw_seq (sr_ ?_))))))
 refine wl_buildSlice (e := 9) (cs := [.string ⟨#[115, 49]⟩, .string ⟨#[115, 50]⟩, .string ⟨#[115, 51]⟩]) rfl (by kernel_rfl) rfl fun g1 => ?_
 refine wl_ov (ov_len es112 rfl) rfl ?_
 refine wl_set 10 (v' := .int .i64 3) rfl rfl ?_
 refine mv_ rfl (nn_ (gw_block ?_))
 refine gw_loop (γ := Nat × Nat × Value × List St × List Value) (fun g => g.1 ≤ 3 ∧ g.2.1 ≤ g.1 ∧ g.2.2.2.1.length = g.2.1 ∧ (∀ x ∈ g.2.2.2.1, StB x) ∧ StG g.1 g.2.2.2.1 ∧ g.2.2.2.2 = g.2.2.2.1.flatMap stEnc) (fun g => [(0, .pointer (some ⟨sb, 0, none⟩)), (2, .slice none 0 0), (3, g.2.2.1), (9, .slice (some ⟨g1, 0, none⟩) 3 3), (10, .int .i64 3), (11, .int .i64 ((g.1 : Nat) : Int))]) (fun g => fun w => Strm 25 w B sb (m + 30 * g.1)) (fun g => [(g1, 9, [.string ⟨#[115, 49]⟩, .string ⟨#[115, 50]⟩, .string ⟨#[115, 51]⟩])]) (fun g => [⟨g.2.2.1, 168, 15, g.2.1, g.2.2.2.2⟩]) (fun g => []) (fun g => 3 - g.1) (0, 0, .slice none 0 0, [], []) ⟨Nat.zero_le _, Nat.le_refl _, rfl, (fun _ h => by cases h), stG_nil, rfl⟩ ⟨rfl, rfl, rfl, rfl, rfl, rfl, trivial⟩ (fun _ hm => (hm.more rfl (by first | omega | (dsimp only; omega))).pick [0] [0] [] rfl rfl) ?_
 rintro ⟨i, k, v, l, xs⟩ hinv
 replace hinv : i ≤ 3 ∧ k ≤ i ∧ l.length = k ∧ (∀ x ∈ l, StB x) ∧ StG i l ∧ xs = l.flatMap stEnc := hinv
 dsimp only
 refine sr_ ?_
 obtain ⟨hi0, hki, hl, hok, hsg, rfl⟩ := hinv
 refine wl_ov (ov_lss rfl rfl) rfl (nn_ (gw_seq ?_))
 refine gw_cond rfl (fun hh => ?_) (fun hh => ?_)
 ·have hi : ((i : Nat) : Int) < 3 := by simpa using hh
  clear hh
  refine gw_skip (nx_then (gw_seq (gw_block (sr_ ?_))))
  obtain ⟨nm, hx⟩ : ∃ x, ([⟨#[115, 49]⟩, ⟨#[115, 50]⟩, ⟨#[115, 51]⟩] : List ByteArray)[i]? = some x := ⟨_, List.getElem?_eq_getElem (by simp; omega)⟩
  have hnm : nm.size ≤ 100 := mem_sz (List.mem_of_getElem? hx) (by decide)
  have hnm2 : nm.size ≤ 10 := by
   have := List.mem_of_getElem? hx
   simp only [List.mem_cons, List.not_mem_nil, or_false] at this
   rcases this with rfl | rfl | rfl <;> decide
  refine wl_ov (ov_index (j := i) es112 rfl rfl (by omega)) rfl ?_
  refine wl_ov (ov_elem1 (k := 0) (v := .string nm) sc9 rfl (fun _ hm => (SlT.ofBlk (l := [⟨#[115, 49]⟩, ⟨#[115, 50]⟩, ⟨#[115, 51]⟩]) sg_len (hm.blkI 0 rfl))) hx rfl rfl) rfl ?_
  refine sg_ rfl (nn_ (gw_seq (sr_ (mv_ rfl ?_))))
  refine wl_got (γ := Bool) (val := fun v => .bool v) (φ := fun v => True) rfl cb25 rfl rfl rfl rfl (fun wx hm => ((flip_any _ wx B sb _ hm.k (by omega) (by omega) (by omega)).mono fun _ _ ⟨v, he, hS, hg⟩ => ⟨v, trivial, he, hS, hg⟩)) fun f2 _ => ?_
  refine nn_ ?_
  refine gw_cond rfl (fun hh => ?_) (fun hh => ?_)
  ·have hf : f2 = true := by simpa using hh
   clear hh
   refine gw_exit ?_
   refine nx_then_exit ?_
   refine nx_blk_here ?_
   refine nx_then (gw_region (ad_ rfl rfl (mv_ rfl (wl_nil ?_))))
   exact nx_round (i + 1, k, v, l, l.flatMap stEnc) ⟨by dsimp only; omega, by dsimp only; omega, hl, hok, stG_more hsg, rfl⟩ (by dsimp only; omega) ⟨rfl, rfl, rfl, rfl, rfl, (some_int (by omega)), trivial⟩ (fun _ hm => (hm.more rfl (by first | omega | (dsimp only; omega))).pick [0] [0] [] rfl rfl)
  have hf : f2 = false := by simpa using hh
  clear hh
  refine gw_skip (nx_then (sr_ (mv_ rfl ?_)))
  refine wl_ov (ov_build (cs := [.string nm, .int .i64 0, .int .i64 0, .int .i64 0, .int .i64 0, .int .i64 0, .int .i64 0, .int .i64 0, .int .i64 0, .int .i64 0, .int .i64 0, .int .i64 0, .int .i64 0, .int .i64 0, .int .i64 0]) rfl (by kernel_rfl)) rfl ?_
  refine wl_alloc zc168 rfl fun g3 => ?_
  refine wl_stores (cs' := [.string nm, .int .i64 0, .int .i64 0, .int .i64 0, .int .i64 0, .int .i64 0, .int .i64 0, .int .i64 0, .int .i64 0, .int .i64 0, .int .i64 0, .int .i64 0, .int .i64 0, .int .i64 0, .int .i64 0]) 0 rz168 rfl rfl rfl rfl rfl rfl rfl rfl ?_
  refine nn_ (gw_seq (sr_ (mv_ rfl (nn_ (gw_block ?_)))))
  refine gw_loop (γ := Nat × Int × Int × Int × Int × Int × Int × Int × Int × Int × Int × Int × Int × Int × Int) (fun g => g.1 ≤ 7 ∧ Wd g.2.1 g.2.2.1 ∧ Wd g.2.2.2.1 g.2.2.2.2.1 ∧ Wd g.2.2.2.2.2.1 g.2.2.2.2.2.2.1 ∧ Wd g.2.2.2.2.2.2.2.1 g.2.2.2.2.2.2.2.2.1 ∧ Wd g.2.2.2.2.2.2.2.2.2.1 g.2.2.2.2.2.2.2.2.2.2.1 ∧ Wd g.2.2.2.2.2.2.2.2.2.2.2.1 g.2.2.2.2.2.2.2.2.2.2.2.2.1 ∧ Wd g.2.2.2.2.2.2.2.2.2.2.2.2.2.1 g.2.2.2.2.2.2.2.2.2.2.2.2.2.2) (fun g => [(0, .pointer (some ⟨sb, 0, none⟩)), (2, .slice none 0 0), (3, v), (6, .pointer (some ⟨g3, 0, none⟩)), (9, .slice (some ⟨g1, 0, none⟩) 3 3), (10, .int .i64 3), (11, .int .i64 ((i : Nat) : Int)), (19, .int .i64 ((g.1 : Nat) : Int))]) (fun g => fun w => Strm 25 w B sb (m + 30 * i + 1 + 3 * g.1)) (fun g => [(g3, 168, [.string nm, .int .i64 g.2.1, .int .i64 g.2.2.1, .int .i64 g.2.2.2.1, .int .i64 g.2.2.2.2.1, .int .i64 g.2.2.2.2.2.1, .int .i64 g.2.2.2.2.2.2.1, .int .i64 g.2.2.2.2.2.2.2.1, .int .i64 g.2.2.2.2.2.2.2.2.1, .int .i64 g.2.2.2.2.2.2.2.2.2.1, .int .i64 g.2.2.2.2.2.2.2.2.2.2.1, .int .i64 g.2.2.2.2.2.2.2.2.2.2.2.1, .int .i64 g.2.2.2.2.2.2.2.2.2.2.2.2.1, .int .i64 g.2.2.2.2.2.2.2.2.2.2.2.2.2.1, .int .i64 g.2.2.2.2.2.2.2.2.2.2.2.2.2.2]), (g1, 9, [.string ⟨#[115, 49]⟩, .string ⟨#[115, 50]⟩, .string ⟨#[115, 51]⟩])]) (fun g => [⟨v, 168, 15, k, l.flatMap stEnc⟩]) (fun g => []) (fun g => 7 - g.1) (0, 0, 0, 0, 0, 0, 0, 0, 0, 0, 0, 0, 0, 0, 0) ⟨Nat.zero_le _, (⟨by decide, by decide, by decide⟩ : Wd 0 0), (⟨by decide, by decide, by decide⟩ : Wd 0 0), (⟨by decide, by decide, by decide⟩ : Wd 0 0), (⟨by decide, by decide, by decide⟩ : Wd 0 0), (⟨by decide, by decide, by decide⟩ : Wd 0 0), (⟨by decide, by decide, by decide⟩ : Wd 0 0), (⟨by decide, by decide, by decide⟩ : Wd 0 0)⟩ ⟨rfl, rfl, rfl, rfl, rfl, rfl, rfl, rfl, trivial⟩ (fun _ hm => (hm.more rfl (by first | omega | (dsimp only; omega))).pick [0, 1] [0] [] rfl rfl) ?_
  rintro ⟨j, h0, h1, h2, h3, h4, h5, h6, h7, h8, h9, h10, h11, h12, h13⟩ hinv
  replace hinv : j ≤ 7 ∧ Wd h0 h1 ∧ Wd h2 h3 ∧ Wd h4 h5 ∧ Wd h6 h7 ∧ Wd h8 h9 ∧ Wd h10 h11 ∧ Wd h12 h13 := hinv
  dsimp only
  refine sr_ ?_
  obtain ⟨hj0, p0, p1, p2, p3, p4, p5, p6⟩ := hinv
  refine wl_ov (ov_lss rfl rfl) rfl (nn_ (gw_seq ?_))
  refine gw_cond rfl (fun hh => ?_) (fun hh => ?_)
  ·have hj : ((j : Nat) : Int) < 7 := by simpa using hh
   clear hh
   refine gw_skip (nx_then (gw_seq (gw_block (sr_ ?_))))
   have hjc : j = 0 ∨ j = 1 ∨ j = 2 ∨ j = 3 ∨ j = 4 ∨ j = 5 ∨ j = 6 := by omega
   rcases hjc with hjc | hjc | hjc | hjc | hjc | hjc | hjc
   ·subst hjc
    refine mv_ rfl ?_
    refine wl_set 21 (v' := .int .i64 0) rfl rfl ?_
    refine sg_ rfl (nn_ (sr_ (mv_ rfl ?_)))
    refine wl_buildSlice (e := 3) (cs := [.int .i64 0, .int .i64 0, .int .i64 480, .int .i64 600, .int .i64 1440]) rfl (by kernel_rfl) rfl fun g4 => ?_
    refine wl_got (γ := Int) (val := fun v => .int .i64 v) (φ := fun v => v ∈ ([0, 0, 480, 600, 1440] : List Int)) rfl cb34 rfl rfl rfl rfl (fun wx hm => (pick_any [0, 0, 480, 600, 1440] _ _ _ wx B sb _ hm.k (by omega) (by simp) (by simp) (hm.blkI 0 rfl) (hm.neRow 0 rfl rfl))) fun v5 hv5 => ?_
    have bv5 : 0 ≤ v5 ∧ v5 ≤ 1440 := mem_rng hv5 (by decide)
    have bv50 := bv5.1
    have bv51 := bv5.2
    clear bv5
    refine sg_ rfl (nn_ (sr_ (mv_ rfl (mv_ rfl (mv_ rfl (mv_ rfl ?_))))))
    refine wl_got (γ := Int) (val := fun v => .int .i64 v) (φ := fun v => v5 ≤ v ∧ (v ≤ 1440 ∨ v = v5)) rfl cb31 rfl rfl rfl rfl (fun wx hm => (range_any _ _ wx B sb _ hm.k (by omega) (by omega) (by omega) (by omega) (by omega))) fun v6 hv6 => ?_
    refine wl_ov (ov_build (cs := [.int .i64 v5, .int .i64 v6]) rfl (by kernel_rfl)) rfl ?_
    refine fd_ fo168_1 rfl rfl ?_
    refine wl_ov (ov_indexP (j := 0) ar166 rfl rfl (by decide) rfl) rfl ?_
    refine wl_stores (cs' := [.string nm, .int .i64 v5, .int .i64 v6, .int .i64 h2, .int .i64 h3, .int .i64 h4, .int .i64 h5, .int .i64 h6, .int .i64 h7, .int .i64 h8, .int .i64 h9, .int .i64 h10, .int .i64 h11, .int .i64 h12, .int .i64 h13]) 1 rz42 rfl rfl rfl rfl rfl rfl rfl rfl ?_
    refine nn_ (sr_ (mv_ rfl ?_))
    refine wl_got (γ := Bool) (val := fun v => .bool v) (φ := fun v => True) rfl cb25 rfl rfl rfl rfl (fun wx hm => ((flip_any _ wx B sb _ hm.k (by omega) (by omega) (by omega)).mono fun _ _ ⟨v, he, hS, hg⟩ => ⟨v, trivial, he, hS, hg⟩)) fun f7 _ => ?_
    refine nn_ ?_
    refine gw_cond rfl (fun hh => ?_) (fun hh => ?_)
    ·have hf4 : f7 = true := by simpa using hh
     clear hh
     refine gw_region (mv_ rfl (mv_ rfl (fd_ fo168_1 rfl rfl ?_)))
     refine wl_ov (ov_indexP (j := 0) ar166 rfl rfl (by decide) rfl) rfl ?_
     refine fd_ fo42_1 rfl rfl ?_
     refine wl_store 1 sc3 rfl rfl rfl rfl rfl rfl ?_
     refine wl_nil (nx_blk_nrm (nx_then (gw_region (ad_ rfl rfl ?_))))
     refine wl_set 40 (v' := .int .i64 1) rfl rfl ?_
     refine mv_ rfl (wl_nil ?_)
     exact nx_round (1, v5, v5, h2, h3, h4, h5, h6, h7, h8, h9, h10, h11, h12, h13) ⟨by dsimp only; omega, (by unfold Wd; dsimp only; omega), p1, p2, p3, p4, p5, p6⟩ (by dsimp only; omega) ⟨rfl, rfl, rfl, rfl, rfl, rfl, rfl, rfl, trivial⟩ (fun _ hm => (hm.more rfl (by first | omega | (dsimp only; omega))).pick [1, 2] [0] [] rfl rfl)
    have hf4 : f7 = false := by simpa using hh
    clear hh
    refine gw_skip (nx_blk_nrm (nx_then (gw_region (ad_ rfl rfl ?_))))
    refine wl_set 40 (v' := .int .i64 1) rfl rfl ?_
    refine mv_ rfl (wl_nil ?_)
    exact nx_round (1, v5, v6, h2, h3, h4, h5, h6, h7, h8, h9, h10, h11, h12, h13) ⟨by dsimp only; omega, (by unfold Wd; dsimp only; omega), p1, p2, p3, p4, p5, p6⟩ (by dsimp only; omega) ⟨rfl, rfl, rfl, rfl, rfl, rfl, rfl, rfl, trivial⟩ (fun _ hm => (hm.more rfl (by first | omega | (dsimp only; omega))).pick [1, 2] [0] [] rfl rfl)
   ·subst hjc
    refine mv_ rfl ?_
    refine wl_set 21 (v' := .int .i64 1) rfl rfl ?_
    refine sg_ rfl (nn_ (sr_ (mv_ rfl ?_)))
    refine wl_buildSlice (e := 3) (cs := [.int .i64 0, .int .i64 0, .int .i64 480, .int .i64 600, .int .i64 1440]) rfl (by kernel_rfl) rfl fun g8 => ?_
    refine wl_got (γ := Int) (val := fun v => .int .i64 v) (φ := fun v => v ∈ ([0, 0, 480, 600, 1440] : List Int)) rfl cb34 rfl rfl rfl rfl (fun wx hm => (pick_any [0, 0, 480, 600, 1440] _ _ _ wx B sb _ hm.k (by omega) (by simp) (by simp) (hm.blkI 0 rfl) (hm.neRow 0 rfl rfl))) fun v9 hv9 => ?_
    have bv9 : 0 ≤ v9 ∧ v9 ≤ 1440 := mem_rng hv9 (by decide)
    have bv90 := bv9.1
    have bv91 := bv9.2
    clear bv9
    refine sg_ rfl (nn_ (sr_ (mv_ rfl (mv_ rfl (mv_ rfl (mv_ rfl ?_))))))
    refine wl_got (γ := Int) (val := fun v => .int .i64 v) (φ := fun v => v9 ≤ v ∧ (v ≤ 1440 ∨ v = v9)) rfl cb31 rfl rfl rfl rfl (fun wx hm => (range_any _ _ wx B sb _ hm.k (by omega) (by omega) (by omega) (by omega) (by omega))) fun v10 hv10 => ?_
    refine wl_ov (ov_build (cs := [.int .i64 v9, .int .i64 v10]) rfl (by kernel_rfl)) rfl ?_
    refine fd_ fo168_1 rfl rfl ?_
    refine wl_ov (ov_indexP (j := 1) ar166 rfl rfl (by decide) rfl) rfl ?_
    refine wl_stores (cs' := [.string nm, .int .i64 h0, .int .i64 h1, .int .i64 v9, .int .i64 v10, .int .i64 h4, .int .i64 h5, .int .i64 h6, .int .i64 h7, .int .i64 h8, .int .i64 h9, .int .i64 h10, .int .i64 h11, .int .i64 h12, .int .i64 h13]) 1 rz42 rfl rfl rfl rfl rfl rfl rfl rfl ?_
    refine nn_ (sr_ (mv_ rfl ?_))
    refine wl_got (γ := Bool) (val := fun v => .bool v) (φ := fun v => True) rfl cb25 rfl rfl rfl rfl (fun wx hm => ((flip_any _ wx B sb _ hm.k (by omega) (by omega) (by omega)).mono fun _ _ ⟨v, he, hS, hg⟩ => ⟨v, trivial, he, hS, hg⟩)) fun f11 _ => ?_
    refine nn_ ?_
    refine gw_cond rfl (fun hh => ?_) (fun hh => ?_)
    ·have hf4 : f11 = true := by simpa using hh
     clear hh
     refine gw_region (mv_ rfl (mv_ rfl (fd_ fo168_1 rfl rfl ?_)))
     refine wl_ov (ov_indexP (j := 1) ar166 rfl rfl (by decide) rfl) rfl ?_
     refine fd_ fo42_1 rfl rfl ?_
     refine wl_store 1 sc3 rfl rfl rfl rfl rfl rfl ?_
     refine wl_nil (nx_blk_nrm (nx_then (gw_region (ad_ rfl rfl ?_))))
     refine wl_set 40 (v' := .int .i64 2) rfl rfl ?_
     refine mv_ rfl (wl_nil ?_)
     exact nx_round (2, h0, h1, v9, v9, h4, h5, h6, h7, h8, h9, h10, h11, h12, h13) ⟨by dsimp only; omega, p0, (by unfold Wd; dsimp only; omega), p2, p3, p4, p5, p6⟩ (by dsimp only; omega) ⟨rfl, rfl, rfl, rfl, rfl, rfl, rfl, rfl, trivial⟩ (fun _ hm => (hm.more rfl (by first | omega | (dsimp only; omega))).pick [1, 2] [0] [] rfl rfl)
    have hf4 : f11 = false := by simpa using hh
    clear hh
    refine gw_skip (nx_blk_nrm (nx_then (gw_region (ad_ rfl rfl ?_))))
    refine wl_set 40 (v' := .int .i64 2) rfl rfl ?_
    refine mv_ rfl (wl_nil ?_)
    exact nx_round (2, h0, h1, v9, v10, h4, h5, h6, h7, h8, h9, h10, h11, h12, h13) ⟨by dsimp only; omega, p0, (by unfold Wd; dsimp only; omega), p2, p3, p4, p5, p6⟩ (by dsimp only; omega) ⟨rfl, rfl, rfl, rfl, rfl, rfl, rfl, rfl, trivial⟩ (fun _ hm => (hm.more rfl (by first | omega | (dsimp only; omega))).pick [1, 2] [0] [] rfl rfl)
   ·subst hjc
    refine mv_ rfl ?_
    refine wl_set 21 (v' := .int .i64 2) rfl rfl ?_
    refine sg_ rfl (nn_ (sr_ (mv_ rfl ?_)))
    refine wl_buildSlice (e := 3) (cs := [.int .i64 0, .int .i64 0, .int .i64 480, .int .i64 600, .int .i64 1440]) rfl (by kernel_rfl) rfl fun g12 => ?_
    refine wl_got (γ := Int) (val := fun v => .int .i64 v) (φ := fun v => v ∈ ([0, 0, 480, 600, 1440] : List Int)) rfl cb34 rfl rfl rfl rfl (fun wx hm => (pick_any [0, 0, 480, 600, 1440] _ _ _ wx B sb _ hm.k (by omega) (by simp) (by simp) (hm.blkI 0 rfl) (hm.neRow 0 rfl rfl))) fun v13 hv13 => ?_
    have bv13 : 0 ≤ v13 ∧ v13 ≤ 1440 := mem_rng hv13 (by decide)
    have bv130 := bv13.1
    have bv131 := bv13.2
    clear bv13
    refine sg_ rfl (nn_ (sr_ (mv_ rfl (mv_ rfl (mv_ rfl (mv_ rfl ?_))))))
    refine wl_got (γ := Int) (val := fun v => .int .i64 v) (φ := fun v => v13 ≤ v ∧ (v ≤ 1440 ∨ v = v13)) rfl cb31 rfl rfl rfl rfl (fun wx hm => (range_any _ _ wx B sb _ hm.k (by omega) (by omega) (by omega) (by omega) (by omega))) fun v14 hv14 => ?_
    refine wl_ov (ov_build (cs := [.int .i64 v13, .int .i64 v14]) rfl (by kernel_rfl)) rfl ?_
    refine fd_ fo168_1 rfl rfl ?_
    refine wl_ov (ov_indexP (j := 2) ar166 rfl rfl (by decide) rfl) rfl ?_
    refine wl_stores (cs' := [.string nm, .int .i64 h0, .int .i64 h1, .int .i64 h2, .int .i64 h3, .int .i64 v13, .int .i64 v14, .int .i64 h6, .int .i64 h7, .int .i64 h8, .int .i64 h9, .int .i64 h10, .int .i64 h11, .int .i64 h12, .int .i64 h13]) 1 rz42 rfl rfl rfl rfl rfl rfl rfl rfl ?_
    refine nn_ (sr_ (mv_ rfl ?_))
    refine wl_got (γ := Bool) (val := fun v => .bool v) (φ := fun v => True) rfl cb25 rfl rfl rfl rfl (fun wx hm => ((flip_any _ wx B sb _ hm.k (by omega) (by omega) (by omega)).mono fun _ _ ⟨v, he, hS, hg⟩ => ⟨v, trivial, he, hS, hg⟩)) fun f15 _ => ?_
    refine nn_ ?_
    refine gw_cond rfl (fun hh => ?_) (fun hh => ?_)
    ·have hf4 : f15 = true := by simpa using hh
     clear hh
     refine gw_region (mv_ rfl (mv_ rfl (fd_ fo168_1 rfl rfl ?_)))
     refine wl_ov (ov_indexP (j := 2) ar166 rfl rfl (by decide) rfl) rfl ?_
     refine fd_ fo42_1 rfl rfl ?_
     refine wl_store 1 sc3 rfl rfl rfl rfl rfl rfl ?_
     refine wl_nil (nx_blk_nrm (nx_then (gw_region (ad_ rfl rfl ?_))))
     refine wl_set 40 (v' := .int .i64 3) rfl rfl ?_
     refine mv_ rfl (wl_nil ?_)
     exact nx_round (3, h0, h1, h2, h3, v13, v13, h6, h7, h8, h9, h10, h11, h12, h13) ⟨by dsimp only; omega, p0, p1, (by unfold Wd; dsimp only; omega), p3, p4, p5, p6⟩ (by dsimp only; omega) ⟨rfl, rfl, rfl, rfl, rfl, rfl, rfl, rfl, trivial⟩ (fun _ hm => (hm.more rfl (by first | omega | (dsimp only; omega))).pick [1, 2] [0] [] rfl rfl)
    have hf4 : f15 = false := by simpa using hh
    clear hh
    refine gw_skip (nx_blk_nrm (nx_then (gw_region (ad_ rfl rfl ?_))))
    refine wl_set 40 (v' := .int .i64 3) rfl rfl ?_
    refine mv_ rfl (wl_nil ?_)
    exact nx_round (3, h0, h1, h2, h3, v13, v14, h6, h7, h8, h9, h10, h11, h12, h13) ⟨by dsimp only; omega, p0, p1, (by unfold Wd; dsimp only; omega), p3, p4, p5, p6⟩ (by dsimp only; omega) ⟨rfl, rfl, rfl, rfl, rfl, rfl, rfl, rfl, trivial⟩ (fun _ hm => (hm.more rfl (by first | omega | (dsimp only; omega))).pick [1, 2] [0] [] rfl rfl)
   ·subst hjc
    refine mv_ rfl ?_
    refine wl_set 21 (v' := .int .i64 3) rfl rfl ?_
    refine sg_ rfl (nn_ (sr_ (mv_ rfl ?_)))
    refine wl_buildSlice (e := 3) (cs := [.int .i64 0, .int .i64 0, .int .i64 480, .int .i64 600, .int .i64 1440]) rfl (by kernel_rfl) rfl fun g16 => ?_
    refine wl_got (γ := Int) (val := fun v => .int .i64 v) (φ := fun v => v ∈ ([0, 0, 480, 600, 1440] : List Int)) rfl cb34 rfl rfl rfl rfl (fun wx hm => (pick_any [0, 0, 480, 600, 1440] _ _ _ wx B sb _ hm.k (by omega) (by simp) (by simp) (hm.blkI 0 rfl) (hm.neRow 0 rfl rfl))) fun v17 hv17 => ?_
    have bv17 : 0 ≤ v17 ∧ v17 ≤ 1440 := mem_rng hv17 (by decide)
    have bv170 := bv17.1
    have bv171 := bv17.2
    clear bv17
    refine sg_ rfl (nn_ (sr_ (mv_ rfl (mv_ rfl (mv_ rfl (mv_ rfl ?_))))))
    refine wl_got (γ := Int) (val := fun v => .int .i64 v) (φ := fun v => v17 ≤ v ∧ (v ≤ 1440 ∨ v = v17)) rfl cb31 rfl rfl rfl rfl (fun wx hm => (range_any _ _ wx B sb _ hm.k (by omega) (by omega) (by omega) (by omega) (by omega))) fun v18 hv18 => ?_
    refine wl_ov (ov_build (cs := [.int .i64 v17, .int .i64 v18]) rfl (by kernel_rfl)) rfl ?_
    refine fd_ fo168_1 rfl rfl ?_
    refine wl_ov (ov_indexP (j := 3) ar166 rfl rfl (by decide) rfl) rfl ?_
    refine wl_stores (cs' := [.string nm, .int .i64 h0, .int .i64 h1, .int .i64 h2, .int .i64 h3, .int .i64 h4, .int .i64 h5, .int .i64 v17, .int .i64 v18, .int .i64 h8, .int .i64 h9, .int .i64 h10, .int .i64 h11, .int .i64 h12, .int .i64 h13]) 1 rz42 rfl rfl rfl rfl rfl rfl rfl rfl ?_
    refine nn_ (sr_ (mv_ rfl ?_))
    refine wl_got (γ := Bool) (val := fun v => .bool v) (φ := fun v => True) rfl cb25 rfl rfl rfl rfl (fun wx hm => ((flip_any _ wx B sb _ hm.k (by omega) (by omega) (by omega)).mono fun _ _ ⟨v, he, hS, hg⟩ => ⟨v, trivial, he, hS, hg⟩)) fun f19 _ => ?_
    refine nn_ ?_
    refine gw_cond rfl (fun hh => ?_) (fun hh => ?_)
    ·have hf4 : f19 = true := by simpa using hh
     clear hh
     refine gw_region (mv_ rfl (mv_ rfl (fd_ fo168_1 rfl rfl ?_)))
     refine wl_ov (ov_indexP (j := 3) ar166 rfl rfl (by decide) rfl) rfl ?_
     refine fd_ fo42_1 rfl rfl ?_
     refine wl_store 1 sc3 rfl rfl rfl rfl rfl rfl ?_
     refine wl_nil (nx_blk_nrm (nx_then (gw_region (ad_ rfl rfl ?_))))
     refine wl_set 40 (v' := .int .i64 4) rfl rfl ?_
     refine mv_ rfl (wl_nil ?_)
     exact nx_round (4, h0, h1, h2, h3, h4, h5, v17, v17, h8, h9, h10, h11, h12, h13) ⟨by dsimp only; omega, p0, p1, p2, (by unfold Wd; dsimp only; omega), p4, p5, p6⟩ (by dsimp only; omega) ⟨rfl, rfl, rfl, rfl, rfl, rfl, rfl, rfl, trivial⟩ (fun _ hm => (hm.more rfl (by first | omega | (dsimp only; omega))).pick [1, 2] [0] [] rfl rfl)
    have hf4 : f19 = false := by simpa using hh
    clear hh
    refine gw_skip (nx_blk_nrm (nx_then (gw_region (ad_ rfl rfl ?_))))
    refine wl_set 40 (v' := .int .i64 4) rfl rfl ?_
    refine mv_ rfl (wl_nil ?_)
    exact nx_round (4, h0, h1, h2, h3, h4, h5, v17, v18, h8, h9, h10, h11, h12, h13) ⟨by dsimp only; omega, p0, p1, p2, (by unfold Wd; dsimp only; omega), p4, p5, p6⟩ (by dsimp only; omega) ⟨rfl, rfl, rfl, rfl, rfl, rfl, rfl, rfl, trivial⟩ (fun _ hm => (hm.more rfl (by first | omega | (dsimp only; omega))).pick [1, 2] [0] [] rfl rfl)
   ·subst hjc
    refine mv_ rfl ?_
    refine wl_set 21 (v' := .int .i64 4) rfl rfl ?_
    refine sg_ rfl (nn_ (sr_ (mv_ rfl ?_)))
    refine wl_buildSlice (e := 3) (cs := [.int .i64 0, .int .i64 0, .int .i64 480, .int .i64 600, .int .i64 1440]) rfl (by kernel_rfl) rfl fun g20 => ?_
    refine wl_got (γ := Int) (val := fun v => .int .i64 v) (φ := fun v => v ∈ ([0, 0, 480, 600, 1440] : List Int)) rfl cb34 rfl rfl rfl rfl (fun wx hm => (pick_any [0, 0, 480, 600, 1440] _ _ _ wx B sb _ hm.k (by omega) (by simp) (by simp) (hm.blkI 0 rfl) (hm.neRow 0 rfl rfl))) fun v21 hv21 => ?_
    have bv21 : 0 ≤ v21 ∧ v21 ≤ 1440 := mem_rng hv21 (by decide)
    have bv210 := bv21.1
    have bv211 := bv21.2
    clear bv21
    refine sg_ rfl (nn_ (sr_ (mv_ rfl (mv_ rfl (mv_ rfl (mv_ rfl ?_))))))
    refine wl_got (γ := Int) (val := fun v => .int .i64 v) (φ := fun v => v21 ≤ v ∧ (v ≤ 1440 ∨ v = v21)) rfl cb31 rfl rfl rfl rfl (fun wx hm => (range_any _ _ wx B sb _ hm.k (by omega) (by omega) (by omega) (by omega) (by omega))) fun v22 hv22 => ?_
    refine wl_ov (ov_build (cs := [.int .i64 v21, .int .i64 v22]) rfl (by kernel_rfl)) rfl ?_
    refine fd_ fo168_1 rfl rfl ?_
    refine wl_ov (ov_indexP (j := 4) ar166 rfl rfl (by decide) rfl) rfl ?_
    refine wl_stores (cs' := [.string nm, .int .i64 h0, .int .i64 h1, .int .i64 h2, .int .i64 h3, .int .i64 h4, .int .i64 h5, .int .i64 h6, .int .i64 h7, .int .i64 v21, .int .i64 v22, .int .i64 h10, .int .i64 h11, .int .i64 h12, .int .i64 h13]) 1 rz42 rfl rfl rfl rfl rfl rfl rfl rfl ?_
    refine nn_ (sr_ (mv_ rfl ?_))
    refine wl_got (γ := Bool) (val := fun v => .bool v) (φ := fun v => True) rfl cb25 rfl rfl rfl rfl (fun wx hm => ((flip_any _ wx B sb _ hm.k (by omega) (by omega) (by omega)).mono fun _ _ ⟨v, he, hS, hg⟩ => ⟨v, trivial, he, hS, hg⟩)) fun f23 _ => ?_
    refine nn_ ?_
    refine gw_cond rfl (fun hh => ?_) (fun hh => ?_)
    ·have hf4 : f23 = true := by simpa using hh
     clear hh
     refine gw_region (mv_ rfl (mv_ rfl (fd_ fo168_1 rfl rfl ?_)))
     refine wl_ov (ov_indexP (j := 4) ar166 rfl rfl (by decide) rfl) rfl ?_
     refine fd_ fo42_1 rfl rfl ?_
     refine wl_store 1 sc3 rfl rfl rfl rfl rfl rfl ?_
     refine wl_nil (nx_blk_nrm (nx_then (gw_region (ad_ rfl rfl ?_))))
     refine wl_set 40 (v' := .int .i64 5) rfl rfl ?_
     refine mv_ rfl (wl_nil ?_)
     exact nx_round (5, h0, h1, h2, h3, h4, h5, h6, h7, v21, v21, h10, h11, h12, h13) ⟨by dsimp only; omega, p0, p1, p2, p3, (by unfold Wd; dsimp only; omega), p5, p6⟩ (by dsimp only; omega) ⟨rfl, rfl, rfl, rfl, rfl, rfl, rfl, rfl, trivial⟩ (fun _ hm => (hm.more rfl (by first | omega | (dsimp only; omega))).pick [1, 2] [0] [] rfl rfl)
    have hf4 : f23 = false := by simpa using hh
    clear hh
    refine gw_skip (nx_blk_nrm (nx_then (gw_region (ad_ rfl rfl ?_))))
    refine wl_set 40 (v' := .int .i64 5) rfl rfl ?_
    refine mv_ rfl (wl_nil ?_)
    exact nx_round (5, h0, h1, h2, h3, h4, h5, h6, h7, v21, v22, h10, h11, h12, h13) ⟨by dsimp only; omega, p0, p1, p2, p3, (by unfold Wd; dsimp only; omega), p5, p6⟩ (by dsimp only; omega) ⟨rfl, rfl, rfl, rfl, rfl, rfl, rfl, rfl, trivial⟩ (fun _ hm => (hm.more rfl (by first | omega | (dsimp only; omega))).pick [1, 2] [0] [] rfl rfl)
   ·subst hjc
    refine mv_ rfl ?_
    refine wl_set 21 (v' := .int .i64 5) rfl rfl ?_
    refine sg_ rfl (nn_ (sr_ (mv_ rfl ?_)))
    refine wl_buildSlice (e := 3) (cs := [.int .i64 0, .int .i64 0, .int .i64 480, .int .i64 600, .int .i64 1440]) rfl (by kernel_rfl) rfl fun g24 => ?_
    refine wl_got (γ := Int) (val := fun v => .int .i64 v) (φ := fun v => v ∈ ([0, 0, 480, 600, 1440] : List Int)) rfl cb34 rfl rfl rfl rfl (fun wx hm => (pick_any [0, 0, 480, 600, 1440] _ _ _ wx B sb _ hm.k (by omega) (by simp) (by simp) (hm.blkI 0 rfl) (hm.neRow 0 rfl rfl))) fun v25 hv25 => ?_
    have bv25 : 0 ≤ v25 ∧ v25 ≤ 1440 := mem_rng hv25 (by decide)
    have bv250 := bv25.1
    have bv251 := bv25.2
    clear bv25
    refine sg_ rfl (nn_ (sr_ (mv_ rfl (mv_ rfl (mv_ rfl (mv_ rfl ?_))))))
    refine wl_got (γ := Int) (val := fun v => .int .i64 v) (φ := fun v => v25 ≤ v ∧ (v ≤ 1440 ∨ v = v25)) rfl cb31 rfl rfl rfl rfl (fun wx hm => (range_any _ _ wx B sb _ hm.k (by omega) (by omega) (by omega) (by omega) (by omega))) fun v26 hv26 => ?_
    refine wl_ov (ov_build (cs := [.int .i64 v25, .int .i64 v26]) rfl (by kernel_rfl)) rfl ?_
    refine fd_ fo168_1 rfl rfl ?_
    refine wl_ov (ov_indexP (j := 5) ar166 rfl rfl (by decide) rfl) rfl ?_
    refine wl_stores (cs' := [.string nm, .int .i64 h0, .int .i64 h1, .int .i64 h2, .int .i64 h3, .int .i64 h4, .int .i64 h5, .int .i64 h6, .int .i64 h7, .int .i64 h8, .int .i64 h9, .int .i64 v25, .int .i64 v26, .int .i64 h12, .int .i64 h13]) 1 rz42 rfl rfl rfl rfl rfl rfl rfl rfl ?_
    refine nn_ (sr_ (mv_ rfl ?_))
    refine wl_got (γ := Bool) (val := fun v => .bool v) (φ := fun v => True) rfl cb25 rfl rfl rfl rfl (fun wx hm => ((flip_any _ wx B sb _ hm.k (by omega) (by omega) (by omega)).mono fun _ _ ⟨v, he, hS, hg⟩ => ⟨v, trivial, he, hS, hg⟩)) fun f27 _ => ?_
    refine nn_ ?_
    refine gw_cond rfl (fun hh => ?_) (fun hh => ?_)
    ·have hf4 : f27 = true := by simpa using hh
     clear hh
     refine gw_region (mv_ rfl (mv_ rfl (fd_ fo168_1 rfl rfl ?_)))
     refine wl_ov (ov_indexP (j := 5) ar166 rfl rfl (by decide) rfl) rfl ?_
     refine fd_ fo42_1 rfl rfl ?_
     refine wl_store 1 sc3 rfl rfl rfl rfl rfl rfl ?_
     refine wl_nil (nx_blk_nrm (nx_then (gw_region (ad_ rfl rfl ?_))))
     refine wl_set 40 (v' := .int .i64 6) rfl rfl ?_
     refine mv_ rfl (wl_nil ?_)
     exact nx_round (6, h0, h1, h2, h3, h4, h5, h6, h7, h8, h9, v25, v25, h12, h13) ⟨by dsimp only; omega, p0, p1, p2, p3, p4, (by unfold Wd; dsimp only; omega), p6⟩ (by dsimp only; omega) ⟨rfl, rfl, rfl, rfl, rfl, rfl, rfl, rfl, trivial⟩ (fun _ hm => (hm.more rfl (by first | omega | (dsimp only; omega))).pick [1, 2] [0] [] rfl rfl)
    have hf4 : f27 = false := by simpa using hh
    clear hh
    refine gw_skip (nx_blk_nrm (nx_then (gw_region (ad_ rfl rfl ?_))))
    refine wl_set 40 (v' := .int .i64 6) rfl rfl ?_
    refine mv_ rfl (wl_nil ?_)
    exact nx_round (6, h0, h1, h2, h3, h4, h5, h6, h7, h8, h9, v25, v26, h12, h13) ⟨by dsimp only; omega, p0, p1, p2, p3, p4, (by unfold Wd; dsimp only; omega), p6⟩ (by dsimp only; omega) ⟨rfl, rfl, rfl, rfl, rfl, rfl, rfl, rfl, trivial⟩ (fun _ hm => (hm.more rfl (by first | omega | (dsimp only; omega))).pick [1, 2] [0] [] rfl rfl)
   subst hjc
   refine mv_ rfl ?_
   refine wl_set 21 (v' := .int .i64 6) rfl rfl ?_
   refine sg_ rfl (nn_ (sr_ (mv_ rfl ?_)))
   refine wl_buildSlice (e := 3) (cs := [.int .i64 0, .int .i64 0, .int .i64 480, .int .i64 600, .int .i64 1440]) rfl (by kernel_rfl) rfl fun g28 => ?_
   refine wl_got (γ := Int) (val := fun v => .int .i64 v) (φ := fun v => v ∈ ([0, 0, 480, 600, 1440] : List Int)) rfl cb34 rfl rfl rfl rfl (fun wx hm => (pick_any [0, 0, 480, 600, 1440] _ _ _ wx B sb _ hm.k (by omega) (by simp) (by simp) (hm.blkI 0 rfl) (hm.neRow 0 rfl rfl))) fun v29 hv29 => ?_
   have bv29 : 0 ≤ v29 ∧ v29 ≤ 1440 := mem_rng hv29 (by decide)
   have bv290 := bv29.1
   have bv291 := bv29.2
   clear bv29
   refine sg_ rfl (nn_ (sr_ (mv_ rfl (mv_ rfl (mv_ rfl (mv_ rfl ?_))))))
   refine wl_got (γ := Int) (val := fun v => .int .i64 v) (φ := fun v => v29 ≤ v ∧ (v ≤ 1440 ∨ v = v29)) rfl cb31 rfl rfl rfl rfl (fun wx hm => (range_any _ _ wx B sb _ hm.k (by omega) (by omega) (by omega) (by omega) (by omega))) fun v30 hv30 => ?_
   refine wl_ov (ov_build (cs := [.int .i64 v29, .int .i64 v30]) rfl (by kernel_rfl)) rfl ?_
   refine fd_ fo168_1 rfl rfl ?_
   refine wl_ov (ov_indexP (j := 6) ar166 rfl rfl (by decide) rfl) rfl ?_
   refine wl_stores (cs' := [.string nm, .int .i64 h0, .int .i64 h1, .int .i64 h2, .int .i64 h3, .int .i64 h4, .int .i64 h5, .int .i64 h6, .int .i64 h7, .int .i64 h8, .int .i64 h9, .int .i64 h10, .int .i64 h11, .int .i64 v29, .int .i64 v30]) 1 rz42 rfl rfl rfl rfl rfl rfl rfl rfl ?_
   refine nn_ (sr_ (mv_ rfl ?_))
   refine wl_got (γ := Bool) (val := fun v => .bool v) (φ := fun v => True) rfl cb25 rfl rfl rfl rfl (fun wx hm => ((flip_any _ wx B sb _ hm.k (by omega) (by omega) (by omega)).mono fun _ _ ⟨v, he, hS, hg⟩ => ⟨v, trivial, he, hS, hg⟩)) fun f31 _ => ?_
   refine nn_ ?_
   refine gw_cond rfl (fun hh => ?_) (fun hh => ?_)
   ·have hf4 : f31 = true := by simpa using hh
    clear hh
    refine gw_region (mv_ rfl (mv_ rfl (fd_ fo168_1 rfl rfl ?_)))
    refine wl_ov (ov_indexP (j := 6) ar166 rfl rfl (by decide) rfl) rfl ?_
    refine fd_ fo42_1 rfl rfl ?_
    refine wl_store 1 sc3 rfl rfl rfl rfl rfl rfl ?_
    refine wl_nil (nx_blk_nrm (nx_then (gw_region (ad_ rfl rfl ?_))))
    refine wl_set 40 (v' := .int .i64 7) rfl rfl ?_
    refine mv_ rfl (wl_nil ?_)
    exact nx_round (7, h0, h1, h2, h3, h4, h5, h6, h7, h8, h9, h10, h11, v29, v29) ⟨by dsimp only; omega, p0, p1, p2, p3, p4, p5, (by unfold Wd; dsimp only; omega)⟩ (by dsimp only; omega) ⟨rfl, rfl, rfl, rfl, rfl, rfl, rfl, rfl, trivial⟩ (fun _ hm => (hm.more rfl (by first | omega | (dsimp only; omega))).pick [1, 2] [0] [] rfl rfl)
   have hf4 : f31 = false := by simpa using hh
   clear hh
   refine gw_skip (nx_blk_nrm (nx_then (gw_region (ad_ rfl rfl ?_))))
   refine wl_set 40 (v' := .int .i64 7) rfl rfl ?_
   refine mv_ rfl (wl_nil ?_)
   exact nx_round (7, h0, h1, h2, h3, h4, h5, h6, h7, h8, h9, h10, h11, v29, v30) ⟨by dsimp only; omega, p0, p1, p2, p3, p4, p5, (by unfold Wd; dsimp only; omega)⟩ (by dsimp only; omega) ⟨rfl, rfl, rfl, rfl, rfl, rfl, rfl, rfl, trivial⟩ (fun _ hm => (hm.more rfl (by first | omega | (dsimp only; omega))).pick [1, 2] [0] [] rfl rfl)
  have hj : ¬ (((j : Nat) : Int) < 7) := by simpa using hh
  clear hh
  refine gw_exit ?_
  refine nx_then_exit (nx_then_exit ?_)
  refine nx_blk_here ?_
  refine nx_then (gw_region ?_)
  have hall : ∀ x ∈ [h0, h1, h2, h3, h4, h5, h6, h7, h8, h9, h10, h11, h12, h13], -3000 ≤ x ∧ x ≤ 3000 := bd_all ⟨wd_l p0, wd_r p0, wd_l p1, wd_r p1, wd_l p2, wd_r p2, wd_l p3, wd_r p3, wd_l p4, wd_r p4, wd_l p5, wd_r p5, wd_l p6, wd_r p6⟩
  have hfin := hours_fine ⟨p0, p1, p2, p3, p4, p5, p6⟩
  refine mv_ rfl ?_
  refine wl_ov (ov_loads rz168 rfl (fun _ hm => hm.blkI 0 rfl) rfl rfl) rfl ?_
  refine wl_buildSlice (e := 168) (cs := [.string nm, .int .i64 h0, .int .i64 h1, .int .i64 h2, .int .i64 h3, .int .i64 h4, .int .i64 h5, .int .i64 h6, .int .i64 h7, .int .i64 h8, .int .i64 h9, .int .i64 h10, .int .i64 h11, .int .i64 h12, .int .i64 h13]) rfl (by kernel_rfl) rfl fun g32 => ?_
  refine wl_append (news := [.string nm, .int .i64 h0, .int .i64 h1, .int .i64 h2, .int .i64 h3, .int .i64 h4, .int .i64 h5, .int .i64 h6, .int .i64 h7, .int .i64 h8, .int .i64 h9, .int .i64 h10, .int .i64 h11, .int .i64 h12, .int .i64 h13]) 0 0 ap61 rfl rfl rfl rfl rfl rfl rfl (by omega) (by unfold maxLen; omega) rfl rfl fun v2 hv2 => ?_
  refine sg_ rfl (wl_nil (nx_blk_nrm (nx_then (gw_region (ad_ rfl rfl (mv_ rfl (wl_nil ?_)))))))
  exact nx_round (i + 1, k + 1, v2, l ++ [⟨nm, [h0, h1, h2, h3, h4, h5, h6, h7, h8, h9, h10, h11, h12, h13]⟩], l.flatMap stEnc ++ ([.string nm, .int .i64 h0, .int .i64 h1, .int .i64 h2, .int .i64 h3, .int .i64 h4, .int .i64 h5, .int .i64 h6, .int .i64 h7, .int .i64 h8, .int .i64 h9, .int .i64 h10, .int .i64 h11, .int .i64 h12, .int .i64 h13] : List Value)) ⟨by dsimp only; omega, by dsimp only; omega, by simp [hl], stB_snoc hok ⟨rfl, hnm2, hall⟩, stG_snoc hsg hx hfin, by simp [stEnc, stCells]⟩ (by dsimp only; omega) ⟨rfl, rfl, rfl, rfl, rfl, (some_int (by omega)), trivial⟩ (fun _ hm => (hm.more rfl (by first | omega | (dsimp only; omega))).pick [2] [0] [] rfl rfl)
 have hi : ¬ (((i : Nat) : Int) < 3) := by simpa using hh
 clear hh
 refine gw_exit ?_
 refine nx_then_exit (nx_then_exit ?_)
 refine nx_blk_here ?_
 refine nx_then (sr_ ?_)
 refine wl_look (R := ∃ A cc, v = .slice A k cc) (fun wx hm => own_slice (hm.ownI 0 rfl)) ?_
 rintro ⟨A, c, rfl⟩
 refine mv_ rfl (sg_ rfl (nn_ ?_))
 refine gw_ret ?_
 refine nx_ret1 rfl rfl fun wx hm => ?_
 exact ⟨A, k, c, l, rfl, hm.ownI 0 rfl, ⟨hl, stG_right hsg (by omega)⟩, hok, by omega, hm.k.more (by omega), hm.g⟩
end Go.Proofs.YtnpcbfllnkiopaaGreatDoor
namespace Go.Proofs.YtnpcbfllnkiopaaGreatDoor
open Go.RowKit
theorem hours7 (u0 u1 u2 u3 u4 u5 u6 u7 u8 u9 u10 u11 u12 u13 : Int) : hoursBad [u0, u1, u2, u3, u4, u5, u6, u7, u8, u9, u10, u11, u12, u13] = (winBad u0 u1 || (winBad u2 u3 || (winBad u4 u5 || (winBad u6 u7 || (winBad u8 u9 || (winBad u10 u11 || (winBad u12 u13 || false))))))) := rfl
def prevSt (l : List St) (k : Nat) : ByteArray := match prevOf l k with
  | none => ⟨#[]⟩
  | some q => q.key
theorem prevSt_succ {l : List St} {k : Nat} {x : St} (h : l[k]? = some x) : prevSt l (k + 1) = x.key := by
  unfold prevSt prevOf; rw [if_neg (by omega), Nat.add_sub_cancel, h]
theorem prevSt_le {l : List St} {k : Nat} {key : ByteArray} (h : keyB key = true) : leB key (prevSt l k) = prevB (prevOf l k) (fun q => leB key q.key) := by
  unfold prevSt prevB
  cases prevOf l k with
  | none => exact key_low h
  | some q => rfl
theorem stationsFault_any (l : List St) (A : Option Addr) (n c : Nat) (w : World) (hl : SlT stEnc 15 168 w A n l) (hok : ∀ x ∈ l, StOk x) (hn : n ≤ 1000000) :
  Calls Tryz.prog 111 #[.slice A n c] w (GotE w (stationsE l)) := by
 refine gw_enter ⟨47, w, none, []⟩ Tryz.func111 rfl Tryz.ntmps111 rfl (mem0 (X := [SlOld stEnc 15 168 w.heap.size none A n l]) (allF_cons hl.old allF_nil) (allL_cons SlOld.lasts allL_nil)) ?_
 refine sr_ ?_
 have hlen := hl.len
 refine sg_ rfl (nn_ (gw_seq (sr_ (mv_ rfl (wl_ov (ov_len es61 rfl) rfl ?_)))))
 refine wl_ov (ov_gtr rfl rfl) rfl ?_
 refine nn_ ?_
 refine gw_cond rfl (fun hh => ?_) (fun hh => ?_)
 ·have h1 : 50 < ((n : Nat) : Int) := by simpa using hh
  clear hh
  refine sr_ (sg_ rfl (nn_ ?_))
  refine gw_ret ?_
  refine nx_then_ret ?_
  refine nx_ret1 rfl rfl fun wx hm => ?_
  exact ⟨ret_int (by unfold stationsE; rw [if_pos (by omega)]), hm.g⟩
 have h1 : ¬ (50 < ((n : Nat) : Int)) := by simpa using hh
 clear hh
 refine gw_skip (nx_then (sr_ ?_))
 have hse : stationsE l = scanE stationE none l := by unfold stationsE; rw [if_neg (by omega)]
 refine sg_ rfl (nn_ (gw_seq (sr_ (mv_ rfl (wl_ov (ov_len es61 rfl) rfl (mv_ rfl (nn_ (gw_block ?_))))))))
 refine gw_loop (γ := Nat) (fun (k : Nat) => k ≤ n ∧ scanE stationE none l = scanE stationE (prevOf l k) (l.drop k)) (fun (k : Nat) => [(3, .string (prevSt l k)), (11, .slice A n c), (12, .int .i64 ((n : Nat) : Int)), (13, .int .i64 ((k : Nat) : Int))]) (fun (k : Nat) => fun _ => True) (fun (k : Nat) => []) (fun (k : Nat) => []) (fun (k : Nat) => [SlOld stEnc 15 168 w.heap.size none A n l]) (fun (k : Nat) => n - k) 0 ⟨Nat.zero_le _, rfl⟩ ⟨rfl, rfl, rfl, rfl, trivial⟩ (fun _ hm => hm.pick [] [] [0] rfl rfl) ?_
 intro k hinv
 replace hinv : k ≤ n ∧ scanE stationE none l = scanE stationE (prevOf l k) (l.drop k) := hinv
 refine sr_ (wl_ov (ov_lss rfl rfl) rfl (nn_ (gw_seq ?_)))
 refine gw_cond rfl (fun hh => ?_) (fun hh => ?_)
 ·have hk : ((k : Nat) : Int) < ((n : Nat) : Int) := by simpa using hh
  clear hh
  refine gw_skip (nx_then (gw_seq (gw_block (sr_ ?_))))
  obtain ⟨b, off, hA, _, _⟩ := hl.get (by omega)
  subst hA
  obtain ⟨x, hx⟩ : ∃ x, l[k]? = some x := ⟨_, List.getElem?_eq_getElem (by omega)⟩
  have hat := scanE_at stationE l k _ hx
  have hso := hok _ (List.mem_of_getElem? hx)
  obtain ⟨key, hs⟩ := x
  obtain ⟨u0, u1, u2, u3, u4, u5, u6, u7, u8, u9, u10, u11, u12, u13, rfl⟩ := list14 hs hso.1
  have hk1 : key.size ≤ 1000000 := hso.2.1
  have hsb := hso.2.2
  refine wl_ov (ov_index (j := k) es61 rfl rfl (by omega)) rfl ?_
  refine wl_ov (ov_elem (vs := [.string key, .int .i64 u0, .int .i64 u1, .int .i64 u2, .int .i64 u3, .int .i64 u4, .int .i64 u5, .int .i64 u6, .int .i64 u7, .int .i64 u8, .int .i64 u9, .int .i64 u10, .int .i64 u11, .int .i64 u12, .int .i64 u13]) rz168 rfl (fun _ hm => (hm.fact 0 rfl).1) hx rfl rfl) rfl ?_
  refine wl_alloc zc168 rfl fun g1 => ?_
  refine wl_stores (cs' := [.string key, .int .i64 u0, .int .i64 u1, .int .i64 u2, .int .i64 u3, .int .i64 u4, .int .i64 u5, .int .i64 u6, .int .i64 u7, .int .i64 u8, .int .i64 u9, .int .i64 u10, .int .i64 u11, .int .i64 u12, .int .i64 u13]) 0 rz168 rfl rfl rfl rfl rfl rfl rfl rfl ?_
  refine nn_ (gw_seq (gw_block (sr_ (fd_ fo168_0 rfl rfl (lk_ sc9 0 rfl rfl rfl ?_)))))
  refine wl_callv rfl cb64 rfl rfl (fun wx hm => (key_any _ wx (by omega))) ?_
  refine wl_ov (ov_un_not rfl) rfl (sg_ rfl (nn_ ?_))
  refine gw_cond rfl (fun hh => ?_) (fun hh => ?_)
  ·have h2 : (keyB key) = false := by simpa using hh
   clear hh
   refine sr_ (sg_ rfl (nn_ ?_))
   refine gw_ret ?_
   refine nx_blk_ret (nx_then_ret (nx_blk_ret (nx_then_ret (nx_then_ret (nx_blk_ret (nx_then_ret ?_))))))
   have hE : stationE (prevOf l k) ⟨key, [u0, u1, u2, u3, u4, u5, u6, u7, u8, u9, u10, u11, u12, u13]⟩ = 5 := by unfold stationE; rw [if_pos (by simpa using h2)]
   refine nx_ret1 rfl rfl fun wx hm => ?_
   exact ⟨ret_int (by rw [hse, hinv.2, hat, if_neg (by rw [hE]; decide), hE]), hm.g⟩
  have h2 : (keyB key) = true := by simpa using hh
  clear hh
  refine sr_ (fd_ fo168_0 rfl rfl (lk_ sc9 0 rfl rfl rfl (mv_ rfl ?_)))
  refine wl_ov (ov_sleq rfl rfl) rfl ?_
  refine sg_ rfl (nn_ ?_)
  refine gw_cond rfl (fun hh => ?_) (fun hh => ?_)
  ·have h9 : (Op.bytesLess key.toList (prevSt l k).toList || key.toList == (prevSt l k).toList) = true := by simpa using hh
   clear hh
   refine sr_ ?_
   have hky : keyB key = true := by simpa using h2
   have hO : prevB (prevOf l k) (fun q => leB key q.key) = true := (prevSt_le hky).symm.trans h9
   refine sg_ rfl (nn_ ?_)
   refine gw_ret ?_
   refine nx_blk_ret (nx_then_ret (nx_blk_ret (nx_then_ret (nx_then_ret (nx_blk_ret (nx_then_ret ?_))))))
   have hE : stationE (prevOf l k) ⟨key, [u0, u1, u2, u3, u4, u5, u6, u7, u8, u9, u10, u11, u12, u13]⟩ = 7 := by unfold stationE; rw [if_neg (by rw [hky]; decide), if_pos hO]
   refine nx_ret1 rfl rfl fun wx hm => ?_
   exact ⟨ret_int (by rw [hse, hinv.2, hat, if_neg (by rw [hE]; decide), hE]), hm.g⟩
  have h9 : (Op.bytesLess key.toList (prevSt l k).toList || key.toList == (prevSt l k).toList) = false := by simpa using hh
  clear hh
  refine gw_skip (nx_blk_nrm (nx_then (sr_ ?_)))
  have hky : keyB key = true := by simpa using h2
  have hO : prevB (prevOf l k) (fun q => leB key q.key) = false := (prevSt_le hky).symm.trans h9
  have hE0 : stationE (prevOf l k) ⟨key, [u0, u1, u2, u3, u4, u5, u6, u7, u8, u9, u10, u11, u12, u13]⟩ = if hoursBad [u0, u1, u2, u3, u4, u5, u6, u7, u8, u9, u10, u11, u12, u13] = true then 1 else 0 := by unfold stationE; rw [if_neg (by rw [hky]; decide), if_neg (by rw [hO]; decide)]
  rw [hours7] at hE0
  refine fd_ fo168_0 rfl rfl (lk_ sc9 0 rfl rfl rfl (sg_ rfl (nn_ (sr_ (fd_ fo168_1 rfl rfl ?_)))))
  refine wl_ov (ov_loads rz166 rfl (fun _ hm => hm.blkI 0 rfl) rfl rfl) rfl ?_
  refine mv_ rfl (nn_ (gw_block ?_))
  refine gw_rounds 8 ?_
  refine gr_next ?_
  refine sr_ (wl_ov (ov_lss rfl rfl) rfl ?_)
  refine wl_set 32 (v' := .bool true) rfl (congrArg Value.bool (by decide)) ?_
  refine nn_ (gw_seq (ct_ rfl (gw_skip (nx_then (gw_seq (gw_block (sr_ ?_)))))))
  refine wl_ov (ov_indexA (e := 42) (len := 7) (sz := 2) (i := 0) (cs := [.int .i64 u0, .int .i64 u1, .int .i64 u2, .int .i64 u3, .int .i64 u4, .int .i64 u5, .int .i64 u6, .int .i64 u7, .int .i64 u8, .int .i64 u9, .int .i64 u10, .int .i64 u11, .int .i64 u12, .int .i64 u13]) (vs := [.int .i64 u0, .int .i64 u1]) (by kernel_rfl) rfl rfl (by decide) rfl) rfl ?_
  refine wl_alloc zc42 rfl fun g2 => ?_
  refine wl_stores (cs' := [.int .i64 u0, .int .i64 u1]) 0 rz42 rfl rfl rfl rfl rfl rfl rfl rfl ?_
  refine nn_ (sr_ (fd_ fo42_0 rfl rfl (lk_ sc3 0 rfl rfl rfl (fd_ fo42_1 rfl rfl (lk_ sc3 0 rfl rfl rfl ?_)))))
  refine wl_callw rfl cb147 rfl rfl (fun wx hm => (rin_any _ _ _ wx)) ?_
  refine wl_ov (ov_un_not rfl) rfl (mv_ rfl ?_)
  rcases Bool.eq_false_or_eq_true (!(inB u0 0 u1)) with hg0 | hg0
  ·refine wl_set 40 rfl (congrArg Value.bool hg0) ?_
   have hw0 : winBad u0 u1 = true := by unfold winBad; simp [hg0]
   refine goff rfl rfl rfl (goff rfl rfl rfl (goff rfl rfl rfl (pt_ rfl rfl (nn_ (ct_ rfl (sr_ (sg_ rfl (nn_ ?_))))))))
   refine gw_ret ?_
   refine nx_blk_ret (nx_then_ret (nx_then_ret (nx_blk_ret (nx_blk_ret (nx_then_ret (nx_then_ret (nx_blk_ret (nx_then_ret ?_))))))))
   have hE : stationE (prevOf l k) ⟨key, [u0, u1, u2, u3, u4, u5, u6, u7, u8, u9, u10, u11, u12, u13]⟩ = 1 := by rw [hE0]; simp [hw0]
   refine nx_ret1 rfl rfl fun wx hm => ?_
   exact ⟨ret_int (by rw [hse, hinv.2, hat, if_neg (by rw [hE]; decide), hE]), hm.g⟩
  refine wl_set 40 rfl (congrArg Value.bool hg0) ?_
  refine wl_guard_on rfl rfl rfl (fd_ fo42_1 rfl rfl (wl_guard_on rfl rfl rfl (lk_ sc3 0 rfl rfl rfl (wl_guard_on rfl rfl rfl ?_))))
  refine wl_ov (ov_gtr rfl rfl) rfl ?_
  refine pf_ rfl rfl (nn_ ?_)
  refine gw_cond rfl (fun hh => ?_) (fun hh => ?_)
  ·have hh0 : 1440 < u1 := by simpa using hh
   clear hh
   refine sr_ ?_
   have hw0 : winBad u0 u1 = true := by unfold winBad; simp [hg0, hh0]
   refine sg_ rfl (nn_ ?_)
   refine gw_ret ?_
   refine nx_blk_ret (nx_then_ret (nx_then_ret (nx_blk_ret (nx_blk_ret (nx_then_ret (nx_then_ret (nx_blk_ret (nx_then_ret ?_))))))))
   have hE : stationE (prevOf l k) ⟨key, [u0, u1, u2, u3, u4, u5, u6, u7, u8, u9, u10, u11, u12, u13]⟩ = 1 := by rw [hE0]; simp [hw0]
   refine nx_ret1 rfl rfl fun wx hm => ?_
   exact ⟨ret_int (by rw [hse, hinv.2, hat, if_neg (by rw [hE]; decide), hE]), hm.g⟩
  have hh0 : ¬ (1440 < u1) := by simpa using hh
  clear hh
  refine gw_skip (nx_blk_nrm (nx_then (gw_region ?_)))
  have hw0 : winBad u0 u1 = false := by unfold winBad; simp at hg0; simp [hg0]; omega
  refine ad_ rfl rfl ?_
  refine wl_set 45 (v' := .int .i64 1) rfl rfl ?_
  refine mv_ rfl (wl_nil ?_)
  refine nx_next ?_
  refine gr_next ?_
  refine sr_ (wl_ov (ov_lss rfl rfl) rfl ?_)
  refine wl_set 32 (v' := .bool true) rfl (congrArg Value.bool (by decide)) ?_
  refine nn_ (gw_seq (ct_ rfl (gw_skip (nx_then (gw_seq (gw_block (sr_ ?_)))))))
  refine wl_ov (ov_indexA (e := 42) (len := 7) (sz := 2) (i := 1) (cs := [.int .i64 u0, .int .i64 u1, .int .i64 u2, .int .i64 u3, .int .i64 u4, .int .i64 u5, .int .i64 u6, .int .i64 u7, .int .i64 u8, .int .i64 u9, .int .i64 u10, .int .i64 u11, .int .i64 u12, .int .i64 u13]) (vs := [.int .i64 u2, .int .i64 u3]) (by kernel_rfl) rfl rfl (by decide) rfl) rfl ?_
  refine wl_alloc zc42 rfl fun g3 => ?_
  refine wl_stores (cs' := [.int .i64 u2, .int .i64 u3]) 0 rz42 rfl rfl rfl rfl rfl rfl rfl rfl ?_
  refine nn_ (sr_ (fd_ fo42_0 rfl rfl (lk_ sc3 0 rfl rfl rfl (fd_ fo42_1 rfl rfl (lk_ sc3 0 rfl rfl rfl ?_)))))
  refine wl_callw rfl cb147 rfl rfl (fun wx hm => (rin_any _ _ _ wx)) ?_
  refine wl_ov (ov_un_not rfl) rfl (mv_ rfl ?_)
  rcases Bool.eq_false_or_eq_true (!(inB u2 0 u3)) with hg1 | hg1
  ·refine wl_set 40 rfl (congrArg Value.bool hg1) ?_
   have hw1 : winBad u2 u3 = true := by unfold winBad; simp [hg1]
   refine goff rfl rfl rfl (goff rfl rfl rfl (goff rfl rfl rfl (pt_ rfl rfl (nn_ (ct_ rfl (sr_ (sg_ rfl (nn_ ?_))))))))
   refine gw_ret ?_
   refine nx_blk_ret (nx_then_ret (nx_then_ret (nx_blk_ret (nx_blk_ret (nx_then_ret (nx_then_ret (nx_blk_ret (nx_then_ret ?_))))))))
   have hE : stationE (prevOf l k) ⟨key, [u0, u1, u2, u3, u4, u5, u6, u7, u8, u9, u10, u11, u12, u13]⟩ = 1 := by rw [hE0]; simp [hw0, hw1]
   refine nx_ret1 rfl rfl fun wx hm => ?_
   exact ⟨ret_int (by rw [hse, hinv.2, hat, if_neg (by rw [hE]; decide), hE]), hm.g⟩
  refine wl_set 40 rfl (congrArg Value.bool hg1) ?_
  refine wl_guard_on rfl rfl rfl (fd_ fo42_1 rfl rfl (wl_guard_on rfl rfl rfl (lk_ sc3 0 rfl rfl rfl (wl_guard_on rfl rfl rfl ?_))))
  refine wl_ov (ov_gtr rfl rfl) rfl ?_
  refine pf_ rfl rfl (nn_ ?_)
  refine gw_cond rfl (fun hh => ?_) (fun hh => ?_)
  ·have hh1 : 1440 < u3 := by simpa using hh
   clear hh
   refine sr_ ?_
   have hw1 : winBad u2 u3 = true := by unfold winBad; simp [hg1, hh1]
   refine sg_ rfl (nn_ ?_)
   refine gw_ret ?_
   refine nx_blk_ret (nx_then_ret (nx_then_ret (nx_blk_ret (nx_blk_ret (nx_then_ret (nx_then_ret (nx_blk_ret (nx_then_ret ?_))))))))
   have hE : stationE (prevOf l k) ⟨key, [u0, u1, u2, u3, u4, u5, u6, u7, u8, u9, u10, u11, u12, u13]⟩ = 1 := by rw [hE0]; simp [hw0, hw1]
   refine nx_ret1 rfl rfl fun wx hm => ?_
   exact ⟨ret_int (by rw [hse, hinv.2, hat, if_neg (by rw [hE]; decide), hE]), hm.g⟩
  have hh1 : ¬ (1440 < u3) := by simpa using hh
  clear hh
  refine gw_skip (nx_blk_nrm (nx_then (gw_region ?_)))
  have hw1 : winBad u2 u3 = false := by unfold winBad; simp at hg1; simp [hg1]; omega
  refine ad_ rfl rfl ?_
  refine wl_set 45 (v' := .int .i64 2) rfl rfl ?_
  refine mv_ rfl (wl_nil ?_)
  refine nx_next ?_
  refine gr_next ?_
  refine sr_ (wl_ov (ov_lss rfl rfl) rfl ?_)
  refine wl_set 32 (v' := .bool true) rfl (congrArg Value.bool (by decide)) ?_
  refine nn_ (gw_seq (ct_ rfl (gw_skip (nx_then (gw_seq (gw_block (sr_ ?_)))))))
  refine wl_ov (ov_indexA (e := 42) (len := 7) (sz := 2) (i := 2) (cs := [.int .i64 u0, .int .i64 u1, .int .i64 u2, .int .i64 u3, .int .i64 u4, .int .i64 u5, .int .i64 u6, .int .i64 u7, .int .i64 u8, .int .i64 u9, .int .i64 u10, .int .i64 u11, .int .i64 u12, .int .i64 u13]) (vs := [.int .i64 u4, .int .i64 u5]) (by kernel_rfl) rfl rfl (by decide) rfl) rfl ?_
  refine wl_alloc zc42 rfl fun g4 => ?_
  refine wl_stores (cs' := [.int .i64 u4, .int .i64 u5]) 0 rz42 rfl rfl rfl rfl rfl rfl rfl rfl ?_
  refine nn_ (sr_ (fd_ fo42_0 rfl rfl (lk_ sc3 0 rfl rfl rfl (fd_ fo42_1 rfl rfl (lk_ sc3 0 rfl rfl rfl ?_)))))
  refine wl_callw rfl cb147 rfl rfl (fun wx hm => (rin_any _ _ _ wx)) ?_
  refine wl_ov (ov_un_not rfl) rfl (mv_ rfl ?_)
  rcases Bool.eq_false_or_eq_true (!(inB u4 0 u5)) with hg2 | hg2
  ·refine wl_set 40 rfl (congrArg Value.bool hg2) ?_
   have hw2 : winBad u4 u5 = true := by unfold winBad; simp [hg2]
   refine goff rfl rfl rfl (goff rfl rfl rfl (goff rfl rfl rfl (pt_ rfl rfl (nn_ (ct_ rfl (sr_ (sg_ rfl (nn_ ?_))))))))
   refine gw_ret ?_
   refine nx_blk_ret (nx_then_ret (nx_then_ret (nx_blk_ret (nx_blk_ret (nx_then_ret (nx_then_ret (nx_blk_ret (nx_then_ret ?_))))))))
   have hE : stationE (prevOf l k) ⟨key, [u0, u1, u2, u3, u4, u5, u6, u7, u8, u9, u10, u11, u12, u13]⟩ = 1 := by rw [hE0]; simp [hw0, hw1, hw2]
   refine nx_ret1 rfl rfl fun wx hm => ?_
   exact ⟨ret_int (by rw [hse, hinv.2, hat, if_neg (by rw [hE]; decide), hE]), hm.g⟩
  refine wl_set 40 rfl (congrArg Value.bool hg2) ?_
  refine wl_guard_on rfl rfl rfl (fd_ fo42_1 rfl rfl (wl_guard_on rfl rfl rfl (lk_ sc3 0 rfl rfl rfl (wl_guard_on rfl rfl rfl ?_))))
  refine wl_ov (ov_gtr rfl rfl) rfl ?_
  refine pf_ rfl rfl (nn_ ?_)
  refine gw_cond rfl (fun hh => ?_) (fun hh => ?_)
  ·have hh2 : 1440 < u5 := by simpa using hh
   clear hh
   refine sr_ ?_
   have hw2 : winBad u4 u5 = true := by unfold winBad; simp [hg2, hh2]
   refine sg_ rfl (nn_ ?_)
   refine gw_ret ?_
   refine nx_blk_ret (nx_then_ret (nx_then_ret (nx_blk_ret (nx_blk_ret (nx_then_ret (nx_then_ret (nx_blk_ret (nx_then_ret ?_))))))))
   have hE : stationE (prevOf l k) ⟨key, [u0, u1, u2, u3, u4, u5, u6, u7, u8, u9, u10, u11, u12, u13]⟩ = 1 := by rw [hE0]; simp [hw0, hw1, hw2]
   refine nx_ret1 rfl rfl fun wx hm => ?_
   exact ⟨ret_int (by rw [hse, hinv.2, hat, if_neg (by rw [hE]; decide), hE]), hm.g⟩
  have hh2 : ¬ (1440 < u5) := by simpa using hh
  clear hh
  refine gw_skip (nx_blk_nrm (nx_then (gw_region ?_)))
  have hw2 : winBad u4 u5 = false := by unfold winBad; simp at hg2; simp [hg2]; omega
  refine ad_ rfl rfl ?_
  refine wl_set 45 (v' := .int .i64 3) rfl rfl ?_
  refine mv_ rfl (wl_nil ?_)
  refine nx_next ?_
  refine gr_next ?_
  refine sr_ (wl_ov (ov_lss rfl rfl) rfl ?_)
  refine wl_set 32 (v' := .bool true) rfl (congrArg Value.bool (by decide)) ?_
  refine nn_ (gw_seq (ct_ rfl (gw_skip (nx_then (gw_seq (gw_block (sr_ ?_)))))))
  refine wl_ov (ov_indexA (e := 42) (len := 7) (sz := 2) (i := 3) (cs := [.int .i64 u0, .int .i64 u1, .int .i64 u2, .int .i64 u3, .int .i64 u4, .int .i64 u5, .int .i64 u6, .int .i64 u7, .int .i64 u8, .int .i64 u9, .int .i64 u10, .int .i64 u11, .int .i64 u12, .int .i64 u13]) (vs := [.int .i64 u6, .int .i64 u7]) (by kernel_rfl) rfl rfl (by decide) rfl) rfl ?_
  refine wl_alloc zc42 rfl fun g5 => ?_
  refine wl_stores (cs' := [.int .i64 u6, .int .i64 u7]) 0 rz42 rfl rfl rfl rfl rfl rfl rfl rfl ?_
  refine nn_ (sr_ (fd_ fo42_0 rfl rfl (lk_ sc3 0 rfl rfl rfl (fd_ fo42_1 rfl rfl (lk_ sc3 0 rfl rfl rfl ?_)))))
  refine wl_callw rfl cb147 rfl rfl (fun wx hm => (rin_any _ _ _ wx)) ?_
  refine wl_ov (ov_un_not rfl) rfl (mv_ rfl ?_)
  rcases Bool.eq_false_or_eq_true (!(inB u6 0 u7)) with hg3 | hg3
  ·refine wl_set 40 rfl (congrArg Value.bool hg3) ?_
   have hw3 : winBad u6 u7 = true := by unfold winBad; simp [hg3]
   refine goff rfl rfl rfl (goff rfl rfl rfl (goff rfl rfl rfl (pt_ rfl rfl (nn_ (ct_ rfl (sr_ (sg_ rfl (nn_ ?_))))))))
   refine gw_ret ?_
   refine nx_blk_ret (nx_then_ret (nx_then_ret (nx_blk_ret (nx_blk_ret (nx_then_ret (nx_then_ret (nx_blk_ret (nx_then_ret ?_))))))))
   have hE : stationE (prevOf l k) ⟨key, [u0, u1, u2, u3, u4, u5, u6, u7, u8, u9, u10, u11, u12, u13]⟩ = 1 := by rw [hE0]; simp [hw0, hw1, hw2, hw3]
   refine nx_ret1 rfl rfl fun wx hm => ?_
   exact ⟨ret_int (by rw [hse, hinv.2, hat, if_neg (by rw [hE]; decide), hE]), hm.g⟩
  refine wl_set 40 rfl (congrArg Value.bool hg3) ?_
  refine wl_guard_on rfl rfl rfl (fd_ fo42_1 rfl rfl (wl_guard_on rfl rfl rfl (lk_ sc3 0 rfl rfl rfl (wl_guard_on rfl rfl rfl ?_))))
  refine wl_ov (ov_gtr rfl rfl) rfl ?_
  refine pf_ rfl rfl (nn_ ?_)
  refine gw_cond rfl (fun hh => ?_) (fun hh => ?_)
  ·have hh3 : 1440 < u7 := by simpa using hh
   clear hh
   refine sr_ ?_
   have hw3 : winBad u6 u7 = true := by unfold winBad; simp [hg3, hh3]
   refine sg_ rfl (nn_ ?_)
   refine gw_ret ?_
   refine nx_blk_ret (nx_then_ret (nx_then_ret (nx_blk_ret (nx_blk_ret (nx_then_ret (nx_then_ret (nx_blk_ret (nx_then_ret ?_))))))))
   have hE : stationE (prevOf l k) ⟨key, [u0, u1, u2, u3, u4, u5, u6, u7, u8, u9, u10, u11, u12, u13]⟩ = 1 := by rw [hE0]; simp [hw0, hw1, hw2, hw3]
   refine nx_ret1 rfl rfl fun wx hm => ?_
   exact ⟨ret_int (by rw [hse, hinv.2, hat, if_neg (by rw [hE]; decide), hE]), hm.g⟩
  have hh3 : ¬ (1440 < u7) := by simpa using hh
  clear hh
  refine gw_skip (nx_blk_nrm (nx_then (gw_region ?_)))
  have hw3 : winBad u6 u7 = false := by unfold winBad; simp at hg3; simp [hg3]; omega
  refine ad_ rfl rfl ?_
  refine wl_set 45 (v' := .int .i64 4) rfl rfl ?_
  refine mv_ rfl (wl_nil ?_)
  refine nx_next ?_
  refine gr_next ?_
  refine sr_ (wl_ov (ov_lss rfl rfl) rfl ?_)
  refine wl_set 32 (v' := .bool true) rfl (congrArg Value.bool (by decide)) ?_
  refine nn_ (gw_seq (ct_ rfl (gw_skip (nx_then (gw_seq (gw_block (sr_ ?_)))))))
  refine wl_ov (ov_indexA (e := 42) (len := 7) (sz := 2) (i := 4) (cs := [.int .i64 u0, .int .i64 u1, .int .i64 u2, .int .i64 u3, .int .i64 u4, .int .i64 u5, .int .i64 u6, .int .i64 u7, .int .i64 u8, .int .i64 u9, .int .i64 u10, .int .i64 u11, .int .i64 u12, .int .i64 u13]) (vs := [.int .i64 u8, .int .i64 u9]) (by kernel_rfl) rfl rfl (by decide) rfl) rfl ?_
  refine wl_alloc zc42 rfl fun g6 => ?_
  refine wl_stores (cs' := [.int .i64 u8, .int .i64 u9]) 0 rz42 rfl rfl rfl rfl rfl rfl rfl rfl ?_
  refine nn_ (sr_ (fd_ fo42_0 rfl rfl (lk_ sc3 0 rfl rfl rfl (fd_ fo42_1 rfl rfl (lk_ sc3 0 rfl rfl rfl ?_)))))
  refine wl_callw rfl cb147 rfl rfl (fun wx hm => (rin_any _ _ _ wx)) ?_
  refine wl_ov (ov_un_not rfl) rfl (mv_ rfl ?_)
  rcases Bool.eq_false_or_eq_true (!(inB u8 0 u9)) with hg4 | hg4
  ·refine wl_set 40 rfl (congrArg Value.bool hg4) ?_
   have hw4 : winBad u8 u9 = true := by unfold winBad; simp [hg4]
   refine goff rfl rfl rfl (goff rfl rfl rfl (goff rfl rfl rfl (pt_ rfl rfl (nn_ (ct_ rfl (sr_ (sg_ rfl (nn_ ?_))))))))
   refine gw_ret ?_
   refine nx_blk_ret (nx_then_ret (nx_then_ret (nx_blk_ret (nx_blk_ret (nx_then_ret (nx_then_ret (nx_blk_ret (nx_then_ret ?_))))))))
   have hE : stationE (prevOf l k) ⟨key, [u0, u1, u2, u3, u4, u5, u6, u7, u8, u9, u10, u11, u12, u13]⟩ = 1 := by rw [hE0]; simp [hw0, hw1, hw2, hw3, hw4]
   refine nx_ret1 rfl rfl fun wx hm => ?_
   exact ⟨ret_int (by rw [hse, hinv.2, hat, if_neg (by rw [hE]; decide), hE]), hm.g⟩
  refine wl_set 40 rfl (congrArg Value.bool hg4) ?_
  refine wl_guard_on rfl rfl rfl (fd_ fo42_1 rfl rfl (wl_guard_on rfl rfl rfl (lk_ sc3 0 rfl rfl rfl (wl_guard_on rfl rfl rfl ?_))))
  refine wl_ov (ov_gtr rfl rfl) rfl ?_
  refine pf_ rfl rfl (nn_ ?_)
  refine gw_cond rfl (fun hh => ?_) (fun hh => ?_)
  ·have hh4 : 1440 < u9 := by simpa using hh
   clear hh
   refine sr_ ?_
   have hw4 : winBad u8 u9 = true := by unfold winBad; simp [hg4, hh4]
   refine sg_ rfl (nn_ ?_)
   refine gw_ret ?_
   refine nx_blk_ret (nx_then_ret (nx_then_ret (nx_blk_ret (nx_blk_ret (nx_then_ret (nx_then_ret (nx_blk_ret (nx_then_ret ?_))))))))
   have hE : stationE (prevOf l k) ⟨key, [u0, u1, u2, u3, u4, u5, u6, u7, u8, u9, u10, u11, u12, u13]⟩ = 1 := by rw [hE0]; simp [hw0, hw1, hw2, hw3, hw4]
   refine nx_ret1 rfl rfl fun wx hm => ?_
   exact ⟨ret_int (by rw [hse, hinv.2, hat, if_neg (by rw [hE]; decide), hE]), hm.g⟩
  have hh4 : ¬ (1440 < u9) := by simpa using hh
  clear hh
  refine gw_skip (nx_blk_nrm (nx_then (gw_region ?_)))
  have hw4 : winBad u8 u9 = false := by unfold winBad; simp at hg4; simp [hg4]; omega
  refine ad_ rfl rfl ?_
  refine wl_set 45 (v' := .int .i64 5) rfl rfl ?_
  refine mv_ rfl (wl_nil ?_)
  refine nx_next ?_
  refine gr_next ?_
  refine sr_ (wl_ov (ov_lss rfl rfl) rfl ?_)
  refine wl_set 32 (v' := .bool true) rfl (congrArg Value.bool (by decide)) ?_
  refine nn_ (gw_seq (ct_ rfl (gw_skip (nx_then (gw_seq (gw_block (sr_ ?_)))))))
  refine wl_ov (ov_indexA (e := 42) (len := 7) (sz := 2) (i := 5) (cs := [.int .i64 u0, .int .i64 u1, .int .i64 u2, .int .i64 u3, .int .i64 u4, .int .i64 u5, .int .i64 u6, .int .i64 u7, .int .i64 u8, .int .i64 u9, .int .i64 u10, .int .i64 u11, .int .i64 u12, .int .i64 u13]) (vs := [.int .i64 u10, .int .i64 u11]) (by kernel_rfl) rfl rfl (by decide) rfl) rfl ?_
  refine wl_alloc zc42 rfl fun g7 => ?_
  refine wl_stores (cs' := [.int .i64 u10, .int .i64 u11]) 0 rz42 rfl rfl rfl rfl rfl rfl rfl rfl ?_
  refine nn_ (sr_ (fd_ fo42_0 rfl rfl (lk_ sc3 0 rfl rfl rfl (fd_ fo42_1 rfl rfl (lk_ sc3 0 rfl rfl rfl ?_)))))
  refine wl_callw rfl cb147 rfl rfl (fun wx hm => (rin_any _ _ _ wx)) ?_
  refine wl_ov (ov_un_not rfl) rfl (mv_ rfl ?_)
  rcases Bool.eq_false_or_eq_true (!(inB u10 0 u11)) with hg5 | hg5
  ·refine wl_set 40 rfl (congrArg Value.bool hg5) ?_
   have hw5 : winBad u10 u11 = true := by unfold winBad; simp [hg5]
   refine goff rfl rfl rfl (goff rfl rfl rfl (goff rfl rfl rfl (pt_ rfl rfl (nn_ (ct_ rfl (sr_ (sg_ rfl (nn_ ?_))))))))
   refine gw_ret ?_
   refine nx_blk_ret (nx_then_ret (nx_then_ret (nx_blk_ret (nx_blk_ret (nx_then_ret (nx_then_ret (nx_blk_ret (nx_then_ret ?_))))))))
   have hE : stationE (prevOf l k) ⟨key, [u0, u1, u2, u3, u4, u5, u6, u7, u8, u9, u10, u11, u12, u13]⟩ = 1 := by rw [hE0]; simp [hw0, hw1, hw2, hw3, hw4, hw5]
   refine nx_ret1 rfl rfl fun wx hm => ?_
   exact ⟨ret_int (by rw [hse, hinv.2, hat, if_neg (by rw [hE]; decide), hE]), hm.g⟩
  refine wl_set 40 rfl (congrArg Value.bool hg5) ?_
  refine wl_guard_on rfl rfl rfl (fd_ fo42_1 rfl rfl (wl_guard_on rfl rfl rfl (lk_ sc3 0 rfl rfl rfl (wl_guard_on rfl rfl rfl ?_))))
  refine wl_ov (ov_gtr rfl rfl) rfl ?_
  refine pf_ rfl rfl (nn_ ?_)
  refine gw_cond rfl (fun hh => ?_) (fun hh => ?_)
  ·have hh5 : 1440 < u11 := by simpa using hh
   clear hh
   refine sr_ ?_
   have hw5 : winBad u10 u11 = true := by unfold winBad; simp [hg5, hh5]
   refine sg_ rfl (nn_ ?_)
   refine gw_ret ?_
   refine nx_blk_ret (nx_then_ret (nx_then_ret (nx_blk_ret (nx_blk_ret (nx_then_ret (nx_then_ret (nx_blk_ret (nx_then_ret ?_))))))))
   have hE : stationE (prevOf l k) ⟨key, [u0, u1, u2, u3, u4, u5, u6, u7, u8, u9, u10, u11, u12, u13]⟩ = 1 := by rw [hE0]; simp [hw0, hw1, hw2, hw3, hw4, hw5]
   refine nx_ret1 rfl rfl fun wx hm => ?_
   exact ⟨ret_int (by rw [hse, hinv.2, hat, if_neg (by rw [hE]; decide), hE]), hm.g⟩
  have hh5 : ¬ (1440 < u11) := by simpa using hh
  clear hh
  refine gw_skip (nx_blk_nrm (nx_then (gw_region ?_)))
  have hw5 : winBad u10 u11 = false := by unfold winBad; simp at hg5; simp [hg5]; omega
  refine ad_ rfl rfl ?_
  refine wl_set 45 (v' := .int .i64 6) rfl rfl ?_
  refine mv_ rfl (wl_nil ?_)
  refine nx_next ?_
  refine gr_next ?_
  refine sr_ (wl_ov (ov_lss rfl rfl) rfl ?_)
  refine wl_set 32 (v' := .bool true) rfl (congrArg Value.bool (by decide)) ?_
  refine nn_ (gw_seq (ct_ rfl (gw_skip (nx_then (gw_seq (gw_block (sr_ ?_)))))))
  refine wl_ov (ov_indexA (e := 42) (len := 7) (sz := 2) (i := 6) (cs := [.int .i64 u0, .int .i64 u1, .int .i64 u2, .int .i64 u3, .int .i64 u4, .int .i64 u5, .int .i64 u6, .int .i64 u7, .int .i64 u8, .int .i64 u9, .int .i64 u10, .int .i64 u11, .int .i64 u12, .int .i64 u13]) (vs := [.int .i64 u12, .int .i64 u13]) (by kernel_rfl) rfl rfl (by decide) rfl) rfl ?_
  refine wl_alloc zc42 rfl fun g8 => ?_
  refine wl_stores (cs' := [.int .i64 u12, .int .i64 u13]) 0 rz42 rfl rfl rfl rfl rfl rfl rfl rfl ?_
  refine nn_ (sr_ (fd_ fo42_0 rfl rfl (lk_ sc3 0 rfl rfl rfl (fd_ fo42_1 rfl rfl (lk_ sc3 0 rfl rfl rfl ?_)))))
  refine wl_callw rfl cb147 rfl rfl (fun wx hm => (rin_any _ _ _ wx)) ?_
  refine wl_ov (ov_un_not rfl) rfl (mv_ rfl ?_)
  rcases Bool.eq_false_or_eq_true (!(inB u12 0 u13)) with hg6 | hg6
  ·refine wl_set 40 rfl (congrArg Value.bool hg6) ?_
   have hw6 : winBad u12 u13 = true := by unfold winBad; simp [hg6]
   refine goff rfl rfl rfl (goff rfl rfl rfl (goff rfl rfl rfl (pt_ rfl rfl (nn_ (ct_ rfl (sr_ (sg_ rfl (nn_ ?_))))))))
   refine gw_ret ?_
   refine nx_blk_ret (nx_then_ret (nx_then_ret (nx_blk_ret (nx_blk_ret (nx_then_ret (nx_then_ret (nx_blk_ret (nx_then_ret ?_))))))))
   have hE : stationE (prevOf l k) ⟨key, [u0, u1, u2, u3, u4, u5, u6, u7, u8, u9, u10, u11, u12, u13]⟩ = 1 := by rw [hE0]; simp [hw0, hw1, hw2, hw3, hw4, hw5, hw6]
   refine nx_ret1 rfl rfl fun wx hm => ?_
   exact ⟨ret_int (by rw [hse, hinv.2, hat, if_neg (by rw [hE]; decide), hE]), hm.g⟩
  refine wl_set 40 rfl (congrArg Value.bool hg6) ?_
  refine wl_guard_on rfl rfl rfl (fd_ fo42_1 rfl rfl (wl_guard_on rfl rfl rfl (lk_ sc3 0 rfl rfl rfl (wl_guard_on rfl rfl rfl ?_))))
  refine wl_ov (ov_gtr rfl rfl) rfl ?_
  refine pf_ rfl rfl (nn_ ?_)
  refine gw_cond rfl (fun hh => ?_) (fun hh => ?_)
  ·have hh6 : 1440 < u13 := by simpa using hh
   clear hh
   refine sr_ ?_
   have hw6 : winBad u12 u13 = true := by unfold winBad; simp [hg6, hh6]
   refine sg_ rfl (nn_ ?_)
   refine gw_ret ?_
   refine nx_blk_ret (nx_then_ret (nx_then_ret (nx_blk_ret (nx_blk_ret (nx_then_ret (nx_then_ret (nx_blk_ret (nx_then_ret ?_))))))))
   have hE : stationE (prevOf l k) ⟨key, [u0, u1, u2, u3, u4, u5, u6, u7, u8, u9, u10, u11, u12, u13]⟩ = 1 := by rw [hE0]; simp [hw0, hw1, hw2, hw3, hw4, hw5, hw6]
   refine nx_ret1 rfl rfl fun wx hm => ?_
   exact ⟨ret_int (by rw [hse, hinv.2, hat, if_neg (by rw [hE]; decide), hE]), hm.g⟩
  have hh6 : ¬ (1440 < u13) := by simpa using hh
  clear hh
  refine gw_skip (nx_blk_nrm (nx_then (gw_region ?_)))
  have hw6 : winBad u12 u13 = false := by unfold winBad; simp at hg6; simp [hg6]; omega
  have hE : stationE (prevOf l k) ⟨key, [u0, u1, u2, u3, u4, u5, u6, u7, u8, u9, u10, u11, u12, u13]⟩ = 0 := by rw [hE0]; simp [hw0, hw1, hw2, hw3, hw4, hw5, hw6]
  refine ad_ rfl rfl ?_
  refine wl_set 45 (v' := .int .i64 7) rfl rfl ?_
  refine mv_ rfl (wl_nil ?_)
  refine nx_next ?_
  refine gr_next ?_
  refine sr_ (wl_ov (ov_lss rfl rfl) rfl ?_)
  refine wl_set 32 (v' := .bool false) rfl (congrArg Value.bool (by decide)) ?_
  refine nn_ (gw_seq (cf_ rfl ?_))
  refine gw_exit ?_
  refine nx_then_exit (nx_then_exit ?_)
  refine nx_blk_here ?_
  refine nx_blk_nrm (nx_then (gw_region (ad_ rfl rfl (mv_ rfl (wl_nil ?_)))))
  exact nx_round (k + 1) ⟨by omega, by rw [hinv.2, hat, if_pos hE]⟩ (by omega) ⟨(congrArg (fun z => some (Value.string z)) (prevSt_succ hx).symm), rfl, rfl, (some_int (by omega)), trivial⟩ (fun _ hm => hm.pick [] [] [0] rfl rfl)
 have hk : ¬ (((k : Nat) : Int) < ((n : Nat) : Int)) := by simpa using hh
 clear hh
 refine gw_exit ?_
 refine nx_then_exit (nx_then_exit ?_)
 refine nx_blk_here ?_
 refine nx_then (sr_ (sg_ rfl (nn_ ?_)))
 refine gw_ret ?_
 refine nx_ret1 rfl rfl fun wx hm => ?_
 exact ⟨ret_int (by rw [hse, hinv.2, scanE_end _ _ _ _ (by omega)]), hm.g⟩
end Go.Proofs.YtnpcbfllnkiopaaGreatDoor
namespace Go.Proofs.YtnpcbfllnkiopaaGreatDoor
open Go.RowKit
def prevVh (l : List Vh) (k : Nat) : ByteArray := match prevOf l k with
  | none => ⟨#[]⟩
  | some q => q.key
theorem prevVh_succ {l : List Vh} {k : Nat} {x : Vh} (h : l[k]? = some x) : prevVh l (k + 1) = x.key := by
  unfold prevVh prevOf; rw [if_neg (by omega), Nat.add_sub_cancel, h]
theorem prevVh_le {l : List Vh} {k : Nat} {b : Vh} (h : keyB b.key = true) : leB b.key (prevVh l k) = leVh (prevOf l k) b := by
  unfold prevVh leVh
  cases prevOf l k with
  | none => exact key_low h
  | some q => rfl
theorem ix_dec {α : Type} {p : α → Bool} {l : List α} : decide (0 ≤ ixP p l 0) = l.any p := ix_any
theorem twin_any (pf : Int) (pv pp : ByteArray) (of : Int) (ov op : ByteArray) (gp : Nat) (w : World) (hk : Blk w gp 161 [.int .i64 pf, .string pv, .string pp]) :
  Calls Tryz.prog 119 #[.agg #[.int .i64 of, .string ov, .string op], .pointer (some ⟨gp, 0, none⟩)] w (fun e w' => e = .returned (.bool (plTwin ⟨pf, pv, pp⟩ ⟨of, ov, op⟩)) ∧ w.grownBy w' none) := by
 refine gw_enter ⟨23, w, none, []⟩ Tryz.func119 rfl Tryz.ntmps119 rfl (mem0 (X := [BlkOld w.heap.size none gp 161 [.int .i64 pf, .string pv, .string pp]]) (allF_cons hk.old allF_nil) (allL_cons BlkOld.lasts allL_nil)) ?_
 refine sr_ ?_
 refine wl_box rfl rfl rfl fun g1 => ?_
 refine sg_ rfl (nn_ (sr_ (fd_ fo161_0 rfl rfl (lk_ sc3 0 rfl rfl rfl (fd_ fo161_0 rfl rfl ?_)))))
 refine wl_ov (ov_load (v := .int .i64 pf) sc3 rfl (fun _ hm => (hm.fact 0 rfl).2) rfl) rfl ?_
 refine wl_ov (ov_eql rfl rfl) rfl (mv_ rfl ?_)
 rcases Bool.eq_false_or_eq_true (decide (of = pf)) with h1 | h1
 ·refine wl_set 9 rfl (congrArg Value.bool h1) ?_
  refine wl_guard_on rfl rfl rfl (fd_ fo161_1 rfl rfl (wl_guard_on rfl rfl rfl (lk_ sc9 0 rfl rfl rfl (wl_guard_on rfl rfl rfl (fd_ fo161_1 rfl rfl (wl_guard_on rfl rfl rfl ?_))))))
  refine wl_ov (ov_load (v := .string pv) sc9 rfl (fun _ hm => (hm.fact 0 rfl).2) rfl) rfl ?_
  refine wl_guard_on rfl rfl rfl (wl_ov (ov_seql rfl rfl) rfl (wl_guard_on rfl rfl rfl (mv_ rfl ?_)))
  rcases Bool.eq_false_or_eq_true (ov.toList == pv.toList) with h2 | h2
  ·refine wl_set 15 rfl (congrArg Value.bool h2) ?_
   refine goff rfl rfl rfl (goff rfl rfl rfl (goff rfl rfl rfl (goff rfl rfl rfl (goff rfl rfl rfl (wl_guard_on rfl rfl rfl (pt_ rfl rfl (pt_ rfl rfl (sg_ rfl (nn_ ?_)))))))))
   refine gw_ret ?_
   refine nx_ret1 rfl rfl fun wx hm => ?_
   exact ⟨by unfold plTwin; simp only [h1, h2]; rfl, hm.g⟩
  refine wl_set 15 rfl (congrArg Value.bool h2) ?_
  refine wl_guard_on rfl rfl rfl (fd_ fo161_2 rfl rfl (wl_guard_on rfl rfl rfl (lk_ sc9 0 rfl rfl rfl (wl_guard_on rfl rfl rfl (fd_ fo161_2 rfl rfl (wl_guard_on rfl rfl rfl ?_))))))
  refine wl_ov (ov_load (v := .string pp) sc9 rfl (fun _ hm => (hm.fact 0 rfl).2) rfl) rfl ?_
  refine wl_guard_on rfl rfl rfl (wl_ov (ov_seql rfl rfl) rfl (wl_guard_on rfl rfl rfl (pf_ rfl rfl (pt_ rfl rfl (sg_ rfl (nn_ ?_))))))
  refine gw_ret ?_
  refine nx_ret1 rfl rfl fun wx hm => ?_
  exact ⟨by unfold plTwin; simp only [h1, h2]; rfl, hm.g⟩
 refine wl_set 9 rfl (congrArg Value.bool h1) ?_
 refine goff rfl rfl rfl (goff rfl rfl rfl (goff rfl rfl rfl (goff rfl rfl rfl (goff rfl rfl rfl (goff rfl rfl rfl (gnd rfl rfl rfl (gnd rfl rfl rfl (gnd rfl rfl rfl (gnd rfl rfl rfl (gnd rfl rfl rfl (goff rfl rfl rfl (pf_ rfl rfl (sg_ rfl ?_)))))))))))))
 refine nn_ ?_
 refine gw_ret ?_
 refine nx_ret1 rfl rfl fun wx hm => ?_
 exact ⟨by unfold plTwin; simp only [h1]; rfl, hm.g⟩
theorem twinIx_any (l : List Pl) (A : Option Addr) (n c0 : Nat) (pf : Int) (pv pp : ByteArray) (gp : Nat) (w : World) (hl : SlT plEnc 3 161 w A n l) (hn : n ≤ 1000000) (hk : Blk w gp 161 [.int .i64 pf, .string pv, .string pp]) :
  Calls Tryz.prog 203 #[.slice A n c0, .func (.func 119) #[] #[.pointer (some ⟨gp, 0, none⟩)]] w (GotE w (ixP (plTwin ⟨pf, pv, pp⟩) l 0)) := by
 refine gw_enter ⟨19, w, none, []⟩ Tryz.func203 rfl Tryz.ntmps203 rfl (mem0 (X := [SlOld plEnc 3 161 w.heap.size none A n l, BlkOld w.heap.size none gp 161 [.int .i64 pf, .string pv, .string pp]]) (allF_cons hl.old (allF_cons hk.old allF_nil)) (allL_cons SlOld.lasts (allL_cons BlkOld.lasts allL_nil))) ?_
 refine sr_ ?_
 have hlen := hl.len
 refine sg_ rfl (nn_ (gw_seq (sr_ (mv_ rfl (wl_ov (ov_len es64 rfl) rfl (mv_ rfl (nn_ (gw_block ?_))))))))
 refine gw_loop (γ := Nat) (fun (i : Nat) => i ≤ n ∧ ixP (plTwin ⟨pf, pv, pp⟩) l 0 = ixP (plTwin ⟨pf, pv, pp⟩) (l.drop i) i) (fun (i : Nat) => [(0, .slice A n c0), (1, .func (.func 119) #[] #[.pointer (some ⟨gp, 0, none⟩)]), (7, .int .i64 ((n : Nat) : Int)), (8, .int .i64 ((i : Nat) : Int))]) (fun (i : Nat) => fun _ => True) (fun (i : Nat) => []) (fun (i : Nat) => []) (fun (i : Nat) => [SlOld plEnc 3 161 w.heap.size none A n l, BlkOld w.heap.size none gp 161 [.int .i64 pf, .string pv, .string pp]]) (fun (i : Nat) => n - i) 0 ⟨Nat.zero_le _, rfl⟩ ⟨rfl, rfl, rfl, rfl, trivial⟩ (fun _ hm => hm.pick [] [] [0, 1] rfl rfl) ?_
 intro i hinv
 replace hinv : i ≤ n ∧ ixP (plTwin ⟨pf, pv, pp⟩) l 0 = ixP (plTwin ⟨pf, pv, pp⟩) (l.drop i) i := hinv
 refine sr_ (wl_ov (ov_lss rfl rfl) rfl (nn_ (gw_seq ?_)))
 refine gw_cond rfl (fun hh => ?_) (fun hh => ?_)
 ·have hi : ((i : Nat) : Int) < ((n : Nat) : Int) := by simpa using hh
  clear hh
  refine gw_skip (nx_then (gw_seq (gw_block (sr_ ?_))))
  obtain ⟨b, off, hA, _, _⟩ := hl.get (by omega)
  subst hA
  obtain ⟨x, hx⟩ : ∃ x, l[i]? = some x := ⟨_, List.getElem?_eq_getElem (by omega)⟩
  obtain ⟨of, ov, op⟩ := x
  have hat := ixP_at (p := plTwin ⟨pf, pv, pp⟩) hx
  refine mv_ rfl (sg_ rfl (nn_ (sr_ (mv_ rfl (mv_ rfl (mv_ rfl ?_))))))
  refine wl_ov (ov_index (j := i) es64 rfl rfl (by omega)) rfl ?_
  refine wl_ov (ov_elem (vs := [.int .i64 of, .string ov, .string op]) rz161 rfl (fun _ hm => (hm.fact 0 rfl).1) hx rfl rfl) rfl ?_
  refine wl_callv rfl cb119 rfl rfl (fun wx hm => (twin_any pf pv pp of ov op gp wx (hm.fact 1 rfl).2)) ?_
  refine nn_ ?_
  refine gw_cond rfl (fun hh => ?_) (fun hh => ?_)
  ·have hq : (plTwin ⟨pf, pv, pp⟩ ⟨of, ov, op⟩) = true := by simpa using hh
   clear hh
   refine sr_ (mv_ rfl (sg_ rfl (nn_ ?_)))
   refine gw_ret ?_
   refine nx_blk_ret (nx_then_ret (nx_then_ret (nx_blk_ret (nx_then_ret ?_))))
   refine nx_ret1 rfl rfl fun wx hm => ?_
   exact ⟨ret_int (by rw [hinv.2, hat, if_pos hq]), hm.g⟩
  have hq : (plTwin ⟨pf, pv, pp⟩ ⟨of, ov, op⟩) = false := by simpa using hh
  clear hh
  refine gw_skip (nx_blk_nrm (nx_then (gw_region (ad_ rfl rfl (mv_ rfl (wl_nil ?_))))))
  exact nx_round (i + 1) ⟨by omega, by rw [hinv.2, hat, if_neg (by rw [hq]; decide)]⟩ (by omega) ⟨rfl, rfl, rfl, (some_int (by omega)), trivial⟩ (fun _ hm => hm.pick [] [] [0, 1] rfl rfl)
 have hi : ¬ (((i : Nat) : Int) < ((n : Nat) : Int)) := by simpa using hh
 clear hh
 refine gw_exit ?_
 refine nx_then_exit (nx_then_exit ?_)
 refine nx_blk_here ?_
 refine nx_then (sr_ (sg_ rfl ?_))
 refine wl_set 4 (v' := .int .i64 (-1)) rfl rfl ?_
 refine nn_ ?_
 refine gw_ret ?_
 refine nx_ret1 rfl rfl fun wx hm => ?_
 exact ⟨ret_int (by rw [hinv.2, List.drop_eq_nil_of_le (by omega)]; rfl), hm.g⟩
theorem twinHas_any (l : List Pl) (A : Option Addr) (n c0 : Nat) (pf : Int) (pv pp : ByteArray) (gp : Nat) (w : World) (hl : SlT plEnc 3 161 w A n l) (hn : n ≤ 1000000) (hk : Blk w gp 161 [.int .i64 pf, .string pv, .string pp]) :
  Calls Tryz.prog 118 #[.slice A n c0, .func (.func 119) #[] #[.pointer (some ⟨gp, 0, none⟩)]] w (fun e w' => e = .returned (.bool (l.any (plTwin ⟨pf, pv, pp⟩))) ∧ w.grownBy w' none) := by
 refine gw_enter ⟨9, w, none, []⟩ Tryz.func118 rfl Tryz.ntmps118 rfl (mem0 (X := [SlOld plEnc 3 161 w.heap.size none A n l, BlkOld w.heap.size none gp 161 [.int .i64 pf, .string pv, .string pp]]) (allF_cons hl.old (allF_cons hk.old allF_nil)) (allL_cons SlOld.lasts (allL_cons BlkOld.lasts allL_nil))) ?_
 refine sr_ (sg_ rfl (nn_ (sr_ (mv_ rfl (mv_ rfl ?_)))))
 refine wl_callv rfl cb203 rfl rfl (fun wx hm => (twinIx_any l A n c0 pf pv pp gp wx (hm.fact 0 rfl).1 hn (hm.fact 1 rfl).2)) ?_
 refine wl_ov (ov_geq rfl rfl) rfl ?_
 refine sg_ rfl (nn_ ?_)
 refine gw_ret ?_
 refine nx_ret1 rfl rfl fun wx hm => ?_
 exact ⟨by rw [← ix_dec], hm.g⟩
theorem fleetFault_any (sl : List St) (cl : List Cs) (vl : List Vh) (pl : List Pl) (sA cA vA pA : Option Addr) (sn sc cn cc vn vc pn pc : Nat) (w : World) (hs : SlT stEnc 15 168 w sA sn sl) (hc : SlT csEnc 2 170 w cA cn cl) (hv : SlT vhEnc 2 158 w vA vn vl) (hp : SlT plEnc 3 161 w pA pn pl) (hsok : ∀ x ∈ sl, StOk x) (hcok : ∀ x ∈ cl, CsOk x) (hvok : ∀ x ∈ vl, VhOk x) (hpok : ∀ x ∈ pl, PlOk x) (hsn : sn ≤ 1000000) (hcn : cn ≤ 1000000) (hvn : vn ≤ 1000000) (hpn : pn ≤ 1000000) (hpc : pn ≤ pc) :
  Calls Tryz.prog 37 #[.agg #[.slice sA sn sc, .slice cA cn cc, .slice vA vn vc, .slice pA pn pc]] w (GotE w (fleetE sl cl vl pl)) := by
 refine gw_enter ⟨104, w, none, []⟩ Tryz.func37 rfl Tryz.ntmps37 rfl (mem0 (X := [SlOld stEnc 15 168 w.heap.size none sA sn sl, SlOld csEnc 2 170 w.heap.size none cA cn cl, SlOld vhEnc 2 158 w.heap.size none vA vn vl, SlOld plEnc 3 161 w.heap.size none pA pn pl]) (allF_cons hs.old (allF_cons hc.old (allF_cons hv.old (allF_cons hp.old allF_nil)))) (allL_cons SlOld.lasts (allL_cons SlOld.lasts (allL_cons SlOld.lasts (allL_cons SlOld.lasts allL_nil))))) ?_
 refine sr_ ?_
 have hlen := hv.len
 have hlenp := hp.len
 obtain ⟨SE, hSE⟩ : ∃ z, z = stationsE sl := ⟨_, rfl⟩
 obtain ⟨CE, hCE⟩ : ∃ z, z = classesE cl := ⟨_, rfl⟩
 obtain ⟨TE, hTE⟩ : ∃ z, z = fleetE sl cl vl pl := ⟨_, rfl⟩
 rw [← hTE]
 have hT0 : TE = firstE [SE, CE, vehsE cl vl, platesE vl pl] := by rw [hTE, hSE, hCE]; rfl
 refine wl_box rfl rfl rfl fun g1 => ?_
 refine sg_ rfl (nn_ (gw_seq (sr_ (fd_ fo66_0 rfl rfl (lk_ sc61 0 rfl rfl rfl ?_)))))
 refine wl_callv (v := .int .i64 SE) rfl cb111 rfl rfl (fun wx hm => (by rw [hSE]; exact stationsFault_any sl sA sn sc wx (hm.fact 0 rfl).1 hsok (by omega))) ?_
 refine sg_ rfl (nn_ (sr_ (mv_ rfl (wl_ov (ov_neq rfl rfl) rfl (nn_ ?_)))))
 refine gw_cond rfl (fun hh => ?_) (fun hh => ?_)
 ·have h1 : ¬ (SE = 0) := by simpa using hh
  clear hh
  refine sr_ ?_
  have h2 : SE ≠ 0 := by simpa using h1
  have h3 : TE = SE := by rw [hT0]; simp [firstE, h2]
  refine mv_ rfl (sg_ rfl (nn_ ?_))
  refine gw_ret ?_
  refine nx_then_ret ?_
  refine nx_ret1 rfl rfl fun wx hm => ?_
  exact ⟨ret_int (by rw [h3]), hm.g⟩
 have h1 : SE = 0 := by simpa using hh
 clear hh
 refine gw_skip (nx_then (gw_seq (sr_ ?_)))
 have hS0 : SE = 0 := by simpa using h1
 refine fd_ fo66_1 rfl rfl (lk_ sc62 0 rfl rfl rfl ?_)
 refine wl_callv (v := .int .i64 CE) rfl cb112 rfl rfl (fun wx hm => (by rw [hCE]; exact classesFault_any cl cA cn cc wx (hm.fact 1 rfl).1 hcok (by omega))) ?_
 refine sg_ rfl (nn_ (sr_ (mv_ rfl (wl_ov (ov_neq rfl rfl) rfl (nn_ ?_)))))
 refine gw_cond rfl (fun hh => ?_) (fun hh => ?_)
 ·have h2 : ¬ (CE = 0) := by simpa using hh
  clear hh
  refine sr_ ?_
  have h3 : CE ≠ 0 := by simpa using h2
  have h4 : TE = CE := by rw [hT0]; simp [firstE, hS0, h3]
  refine mv_ rfl (sg_ rfl (nn_ ?_))
  refine gw_ret ?_
  refine nx_then_ret ?_
  refine nx_ret1 rfl rfl fun wx hm => ?_
  exact ⟨ret_int (by rw [h4]), hm.g⟩
 have h2 : CE = 0 := by simpa using hh
 clear hh
 refine gw_skip (nx_then (gw_seq (sr_ ?_)))
 have hC0 : CE = 0 := by simpa using h2
 have hT1 : TE = firstE [vehsE cl vl, platesE vl pl] := by rw [hT0, hS0, hC0]; rfl
 refine fd_ fo66_2 rfl rfl (lk_ sc63 0 rfl rfl rfl (wl_ov (ov_len es63 rfl) rfl ?_))
 refine wl_ov (ov_gtr rfl rfl) rfl ?_
 refine nn_ ?_
 refine gw_cond rfl (fun hh => ?_) (fun hh => ?_)
 ·have h3 : 500 < ((vn : Nat) : Int) := by simpa using hh
  clear hh
  refine sr_ ?_
  have h4 : TE = 2 := by rw [hT1, show vehsE cl vl = 2 by unfold vehsE; rw [if_pos (by omega)]]; rfl
  refine sg_ rfl (nn_ ?_)
  refine gw_ret ?_
  refine nx_then_ret ?_
  refine nx_ret1 rfl rfl fun wx hm => ?_
  exact ⟨ret_int (by rw [h4]), hm.g⟩
 have h3 : ¬ (500 < ((vn : Nat) : Int)) := by simpa using hh
 clear hh
 refine gw_skip (nx_then (sr_ ?_))
 have hT2 : TE = firstE [scanE (vhE cl) none vl, platesE vl pl] := by rw [hT1]; unfold vehsE; rw [if_neg (by omega)]
 refine sg_ rfl (nn_ (gw_seq (sr_ (fd_ fo66_2 rfl rfl (lk_ sc63 0 rfl rfl rfl (wl_ov (ov_len es63 rfl) rfl (mv_ rfl (nn_ (gw_block ?_)))))))))
 refine gw_loop (γ := Nat) (fun (i : Nat) => i ≤ vn ∧ scanE (vhE cl) none vl = scanE (vhE cl) (prevOf vl i) (vl.drop i)) (fun (i : Nat) => [(1, .pointer (some ⟨g1, 0, none⟩)), (5, .string (prevVh vl i)), (28, .slice vA vn vc), (29, .int .i64 ((vn : Nat) : Int)), (30, .int .i64 ((i : Nat) : Int))]) (fun (i : Nat) => fun _ => True) (fun (i : Nat) => [(g1, 66, [.slice sA sn sc, .slice cA cn cc, .slice vA vn vc, .slice pA pn pc])]) (fun (i : Nat) => []) (fun (i : Nat) => [SlOld stEnc 15 168 w.heap.size none sA sn sl, SlOld csEnc 2 170 w.heap.size none cA cn cl, SlOld vhEnc 2 158 w.heap.size none vA vn vl, SlOld plEnc 3 161 w.heap.size none pA pn pl]) (fun (i : Nat) => vn - i) 0 ⟨Nat.zero_le _, rfl⟩ ⟨rfl, rfl, rfl, rfl, rfl, trivial⟩ (fun _ hm => hm.pick [0] [] [0, 1, 2, 3] rfl rfl) ?_
 intro i hinv
 replace hinv : i ≤ vn ∧ scanE (vhE cl) none vl = scanE (vhE cl) (prevOf vl i) (vl.drop i) := hinv
 refine sr_ ?_
 obtain ⟨hi0, hsc⟩ := hinv
 refine wl_ov (ov_lss rfl rfl) rfl (nn_ (gw_seq ?_))
 refine gw_cond rfl (fun hh => ?_) (fun hh => ?_)
 ·have hi : ((i : Nat) : Int) < ((vn : Nat) : Int) := by simpa using hh
  clear hh
  refine gw_skip (nx_then (gw_seq (gw_block (sr_ ?_))))
  obtain ⟨bv, ov, hA, _, _⟩ := hv.get (by omega)
  subst hA
  obtain ⟨x, hx⟩ : ∃ x, vl[i]? = some x := ⟨_, List.getElem?_eq_getElem (by omega)⟩
  obtain ⟨vk, vc2⟩ := x
  have hat := scanE_at (vhE cl) vl i _ hx
  obtain ⟨hvk, hvc2⟩ := hvok _ (List.mem_of_getElem? hx)
  have hvk : vk.size ≤ 1000000 := hvk
  refine wl_ov (ov_index (j := i) es63 rfl rfl (by omega)) rfl ?_
  refine wl_ov (ov_elem (vs := [.string vk, .string vc2]) rz158 rfl (fun _ hm => (hm.fact 2 rfl).1) hx rfl rfl) rfl ?_
  refine wl_alloc zc158 rfl fun g2 => ?_
  refine wl_stores (cs' := [.string vk, .string vc2]) 0 rz158 rfl rfl rfl rfl rfl rfl rfl rfl ?_
  refine nn_ (gw_seq (gw_block (sr_ (fd_ fo158_0 rfl rfl (lk_ sc9 0 rfl rfl rfl ?_)))))
  refine wl_callv rfl cb64 rfl rfl (fun wx hm => (key_any _ wx (by omega))) ?_
  refine wl_ov (ov_un_not rfl) rfl (sg_ rfl (nn_ ?_))
  refine gw_cond rfl (fun hh => ?_) (fun hh => ?_)
  ·have h4 : (keyB vk) = false := by simpa using hh
   clear hh
   refine sr_ (sg_ rfl (nn_ ?_))
   refine gw_ret ?_
   refine nx_blk_ret (nx_then_ret (nx_blk_ret (nx_then_ret (nx_then_ret (nx_blk_ret (nx_then_ret ?_))))))
   have hE : vhE cl (prevOf vl i) ⟨vk, vc2⟩ = 5 := vhE_one (by simpa using h4)
   have hF : scanE (vhE cl) none vl = 5 := by rw [hsc, hat, if_neg (by rw [hE]; decide), hE]
   refine nx_ret1 rfl rfl fun wx hm => ?_
   exact ⟨ret_int (by rw [hT2, hF, fe_left (by decide)]), hm.g⟩
  have h4 : (keyB vk) = true := by simpa using hh
  clear hh
  refine sr_ (fd_ fo158_0 rfl rfl (lk_ sc9 0 rfl rfl rfl (mv_ rfl ?_)))
  refine wl_ov (ov_sleq rfl rfl) rfl ?_
  refine sg_ rfl (nn_ ?_)
  refine gw_cond rfl (fun hh => ?_) (fun hh => ?_)
  ·have h5 : (Op.bytesLess vk.toList (prevVh vl i).toList || vk.toList == (prevVh vl i).toList) = true := by simpa using hh
   clear hh
   refine sr_ ?_
   have hle : leVh (prevOf vl i) ⟨vk, vc2⟩ = true := (prevVh_le (b := ⟨vk, vc2⟩) (by simpa using h4)).symm.trans h5
   refine sg_ rfl (nn_ ?_)
   refine gw_ret ?_
   refine nx_blk_ret (nx_then_ret (nx_blk_ret (nx_then_ret (nx_then_ret (nx_blk_ret (nx_then_ret ?_))))))
   have hE : vhE cl (prevOf vl i) ⟨vk, vc2⟩ = 7 := vhE_two (by simpa using h4) hle
   have hF : scanE (vhE cl) none vl = 7 := by rw [hsc, hat, if_neg (by rw [hE]; decide), hE]
   refine nx_ret1 rfl rfl fun wx hm => ?_
   exact ⟨ret_int (by rw [hT2, hF, fe_left (by decide)]), hm.g⟩
  have h5 : (Op.bytesLess vk.toList (prevVh vl i).toList || vk.toList == (prevVh vl i).toList) = false := by simpa using hh
  clear hh
  refine sr_ ?_
  have hle : leVh (prevOf vl i) ⟨vk, vc2⟩ = false := (prevVh_le (b := ⟨vk, vc2⟩) (by simpa using h4)).symm.trans h5
  have h8 := vhE_three (cl := cl) (b := ⟨vk, vc2⟩) (by simpa using h4) hle
  refine fd_ fo66_1 rfl rfl (lk_ sc62 1 rfl rfl rfl (fd_ fo158_1 rfl rfl (lk_ sc9 0 rfl rfl rfl ?_)))
  refine wl_callv rfl cb113 rfl rfl (fun wx hm => (rClassAt_any cl cA cn cc vc2 wx (hm.fact 1 rfl).1 (by omega))) ?_
  refine wl_ov (ov_lss rfl rfl) rfl (sg_ rfl (nn_ ?_))
  refine gw_cond rfl (fun hh => ?_) (fun hh => ?_)
  ·have h6 : ixP (csP vc2) cl 0 < 0 := by simpa using hh
   clear hh
   refine sr_ (sg_ rfl (nn_ ?_))
   refine gw_ret ?_
   refine nx_blk_ret (nx_then_ret (nx_blk_ret (nx_then_ret (nx_then_ret (nx_blk_ret (nx_then_ret ?_))))))
   have hE : vhE cl (prevOf vl i) ⟨vk, vc2⟩ = 8 := by rw [h8, if_pos h6]
   have hF : scanE (vhE cl) none vl = 8 := by rw [hsc, hat, if_neg (by rw [hE]; decide), hE]
   refine nx_ret1 rfl rfl fun wx hm => ?_
   exact ⟨ret_int (by rw [hT2, hF, fe_left (by decide)]), hm.g⟩
  have h6 : ¬ (ixP (csP vc2) cl 0 < 0) := by simpa using hh
  clear hh
  refine gw_skip (nx_blk_nrm (nx_then (gw_region ?_)))
  have hE : vhE cl (prevOf vl i) ⟨vk, vc2⟩ = 0 := by rw [h8, if_neg h6]
  refine fd_ fo158_0 rfl rfl (lk_ sc9 0 rfl rfl rfl (sg_ rfl (wl_nil (nx_blk_nrm (nx_then (gw_region (ad_ rfl rfl (mv_ rfl (wl_nil ?_)))))))))
  exact nx_round (i + 1) ⟨by omega, by rw [hsc, hat, if_pos hE]⟩ (by omega) ⟨rfl, (congrArg (fun z => some (Value.string z)) (prevVh_succ hx).symm), rfl, rfl, (some_int (by omega)), trivial⟩ (fun _ hm => hm.pick [1] [] [0, 1, 2, 3] rfl rfl)
 have hi : ¬ (((i : Nat) : Int) < ((vn : Nat) : Int)) := by simpa using hh
 clear hh
 refine gw_exit ?_
 refine nx_then_exit (nx_then_exit ?_)
 refine nx_blk_here ?_
 refine nx_then (gw_seq (sr_ ?_))
 have hz : scanE (vhE cl) none vl = 0 := by rw [hsc, List.drop_eq_nil_of_le (by omega)]; rfl
 have hT3 : TE = platesE vl pl := by rw [hT2, hz, fe_right]
 clear hsc hi0 hi
 refine fd_ fo66_3 rfl rfl (lk_ sc64 0 rfl rfl rfl (wl_ov (ov_len es64 rfl) rfl ?_))
 refine wl_ov (ov_gtr rfl rfl) rfl ?_
 refine nn_ ?_
 refine gw_cond rfl (fun hh => ?_) (fun hh => ?_)
 ·have h7 : 1000 < ((pn : Nat) : Int) := by simpa using hh
  clear hh
  refine sr_ (sg_ rfl (nn_ ?_))
  refine gw_ret ?_
  refine nx_then_ret ?_
  refine nx_ret1 rfl rfl fun wx hm => ?_
  exact ⟨ret_int (by rw [hT3]; unfold platesE; rw [if_pos (by omega)]), hm.g⟩
 have h7 : ¬ (1000 < ((pn : Nat) : Int)) := by simpa using hh
 clear hh
 refine gw_skip (nx_then (gw_seq (sr_ (fd_ fo66_3 rfl rfl (lk_ sc64 0 rfl rfl rfl (wl_ov (ov_len es64 rfl) rfl (mv_ rfl (nn_ (gw_block ?_)))))))))
 refine gw_loop (γ := Nat) (fun (i : Nat) => i ≤ pn ∧ platesE vl pl = plG vl (pl.take i) (pl.drop i)) (fun (i : Nat) => [(1, .pointer (some ⟨g1, 0, none⟩)), (59, .slice pA pn pc), (60, .int .i64 ((pn : Nat) : Int)), (61, .int .i64 ((i : Nat) : Int))]) (fun (i : Nat) => fun _ => True) (fun (i : Nat) => [(g1, 66, [.slice sA sn sc, .slice cA cn cc, .slice vA vn vc, .slice pA pn pc])]) (fun (i : Nat) => []) (fun (i : Nat) => [SlOld stEnc 15 168 w.heap.size none sA sn sl, SlOld csEnc 2 170 w.heap.size none cA cn cl, SlOld vhEnc 2 158 w.heap.size none vA vn vl, SlOld plEnc 3 161 w.heap.size none pA pn pl]) (fun (i : Nat) => pn - i) 0 ⟨Nat.zero_le _, by unfold platesE; rw [if_neg (by omega)]; rfl⟩ ⟨rfl, rfl, rfl, rfl, trivial⟩ (fun _ hm => hm.pick [0] [] [0, 1, 2, 3] rfl rfl) ?_
 intro i hinv
 replace hinv : i ≤ pn ∧ platesE vl pl = plG vl (pl.take i) (pl.drop i) := hinv
 refine sr_ ?_
 obtain ⟨hi0, hpe⟩ := hinv
 refine wl_ov (ov_lss rfl rfl) rfl (nn_ (gw_seq ?_))
 refine gw_cond rfl (fun hh => ?_) (fun hh => ?_)
 ·have hi : ((i : Nat) : Int) < ((pn : Nat) : Int) := by simpa using hh
  clear hh
  refine gw_skip (nx_then (gw_seq (gw_block (sr_ ?_))))
  obtain ⟨bp, op, hA, _, _⟩ := hp.get (by omega)
  subst hA
  obtain ⟨x, hx⟩ : ∃ x, pl[i]? = some x := ⟨_, List.getElem?_eq_getElem (by omega)⟩
  obtain ⟨pf, pv, pp⟩ := x
  have hat := plG_at (vs := vl) hx
  obtain ⟨hpf, hpv, hpp⟩ := hpok _ (List.mem_of_getElem? hx)
  have hpv : pv.size ≤ 1000000 := hpv
  have hpp : pp.size ≤ 1000000 := hpp
  have hpf : -4000000000000000000 ≤ pf ∧ pf ≤ 4000000000000000000 := hpf
  have hil : i < pl.length := by omega
  have hic : i ≤ pc := by omega
  refine mv_ rfl ?_
  refine wl_ov (ov_index (j := i) es64 rfl rfl (by omega)) rfl ?_
  refine wl_ov (ov_elem (vs := [.int .i64 pf, .string pv, .string pp]) rz161 rfl (fun _ hm => (hm.fact 3 rfl).1) hx rfl rfl) rfl ?_
  refine wl_alloc zc161 rfl fun g3 => ?_
  refine sg_ rfl ?_
  refine wl_stores (cs' := [.int .i64 pf, .string pv, .string pp]) 0 rz161 rfl rfl rfl rfl rfl rfl rfl rfl ?_
  refine nn_ (sr_ (fd_ fo66_3 rfl rfl (lk_ sc64 1 rfl rfl rfl (mv_ rfl ?_))))
  refine wl_ov (ov_sliceHi (hi := i) es64 rfl rfl rfl (by omega)) rfl ?_
  refine sg_ rfl (nn_ (gw_block (sr_ (fd_ fo161_0 rfl rfl (lk_ sc3 0 rfl rfl rfl ?_)))))
  refine wl_callw rfl cb114 rfl rfl (fun wx hm => (rmoment_any _ wx)) ?_
  refine wl_ov (ov_un_not rfl) rfl (sg_ rfl (nn_ ?_))
  refine gw_cond rfl (fun hh => ?_) (fun hh => ?_)
  ·have h8 : (inB pf 0 5761439) = false := by simpa using hh
   clear hh
   refine sr_ (sg_ rfl (nn_ ?_))
   refine gw_ret ?_
   refine nx_blk_ret (nx_blk_ret (nx_then_ret (nx_then_ret (nx_blk_ret (nx_then_ret ?_)))))
   have hE : plE vl (pl.take i) ⟨pf, pv, pp⟩ = 1 := plE_one (by simpa using h8)
   refine nx_ret1 rfl rfl fun wx hm => ?_
   exact ⟨ret_int (by rw [hT3, hpe, hat, if_neg (by rw [hE]; decide), hE]), hm.g⟩
  have h8 : (inB pf 0 5761439) = true := by simpa using hh
  clear hh
  refine sr_ ?_
  refine wl_ov (ov_loads rz66 rfl (fun _ hm => hm.blkI 1 rfl) rfl rfl) rfl ?_
  refine fd_ fo161_1 rfl rfl (lk_ sc9 0 rfl rfl rfl ?_)
  refine wl_callv rfl cb115 rfl rfl (fun wx hm => (rVehicleAt_any vl sA cA vA (some ⟨bp, op, none⟩) sn sc cn cc vn vc pn pc pv wx (hm.fact 2 rfl).1 (by omega))) ?_
  refine wl_ov (ov_lss rfl rfl) rfl (sg_ rfl (nn_ ?_))
  refine gw_cond rfl (fun hh => ?_) (fun hh => ?_)
  ·have h9 : ixP (vhP pv) vl 0 < 0 := by simpa using hh
   clear hh
   refine sr_ (sg_ rfl (nn_ ?_))
   refine gw_ret ?_
   refine nx_blk_ret (nx_blk_ret (nx_then_ret (nx_then_ret (nx_blk_ret (nx_then_ret ?_)))))
   have hE : plE vl (pl.take i) ⟨pf, pv, pp⟩ = 8 := plE_two (by simpa using h8) h9
   refine nx_ret1 rfl rfl fun wx hm => ?_
   exact ⟨ret_int (by rw [hT3, hpe, hat, if_neg (by rw [hE]; decide), hE]), hm.g⟩
  have h9 : ¬ (ixP (vhP pv) vl 0 < 0) := by simpa using hh
  clear hh
  refine sr_ (fd_ fo161_2 rfl rfl (lk_ sc9 0 rfl rfl rfl ?_))
  refine wl_callv rfl cb116 rfl rfl (fun wx hm => (plateForm_any pp wx hpp)) ?_
  refine wl_ov (ov_un_not rfl) rfl (sg_ rfl (nn_ ?_))
  refine gw_cond rfl (fun hh => ?_) (fun hh => ?_)
  ·have h10 : (plateB pp) = false := by simpa using hh
   clear hh
   refine sr_ (sg_ rfl (nn_ ?_))
   refine gw_ret ?_
   refine nx_blk_ret (nx_blk_ret (nx_then_ret (nx_then_ret (nx_blk_ret (nx_then_ret ?_)))))
   have hE : plE vl (pl.take i) ⟨pf, pv, pp⟩ = 3 := plE_three (by simpa using h8) h9 (by simpa using h10)
   refine nx_ret1 rfl rfl fun wx hm => ?_
   exact ⟨ret_int (by rw [hT3, hpe, hat, if_neg (by rw [hE]; decide), hE]), hm.g⟩
  have h10 : (plateB pp) = true := by simpa using hh
  clear hh
  refine gw_seq ?_
  have hfour := plE_four (vs := vl) (pre := pl.take i) (p := ⟨pf, pv, pp⟩) (by simpa using h8) h9 (by simpa using h10)
  by_cases h0 : i = 0
  ·have hO : plO (pl.take i) ⟨pf, pv, pp⟩ = false := by rw [h0]; exact plO_zero
   refine gd (fun wz => Blk wz g3 161 [.int .i64 pf, .string pv, .string pp] ∧ Blk wz g1 66 [.slice sA sn sc, .slice cA cn cc, .slice vA vn vc, .slice (some ⟨bp, op, none⟩) pn pc] ∧ (SlOld stEnc 15 168 w.heap.size none sA sn sl) wz ∧ (SlOld csEnc 2 170 w.heap.size none cA cn cl) wz ∧ (SlOld vhEnc 2 158 w.heap.size none vA vn vl) wz ∧ (SlOld plEnc 3 161 w.heap.size none (some ⟨bp, op, none⟩) pn pl) wz ∧ True) mixed (fun _ hm => ⟨hm.bl 0, hm.bl 1, hm.fa 0, hm.fa 1, hm.fa 2, hm.fa 3, trivial⟩) fun z => ?_
   refine wt 0 13 1 rfl z (ov_move rfl) ?_
   refine wt 1 13 3 rfl z (ov_gtr rfl rfl) ?_
   refine wa_set 88 (v' := .bool false) rfl (congrArg Value.bool (decide_eq_false (by omega))) ?_
   refine wt 2 13 7 rfl z (ov_move rfl) ?_
   refine wtf 3 13 15 rfl rfl rfl z ?_
   refine wtf 4 13 31 rfl rfl rfl z ?_
   refine wtf 5 13 63 rfl rfl rfl z ?_
   refine wtf 6 13 127 rfl rfl rfl z ?_
   refine wtf 7 13 255 rfl rfl rfl z ?_
   refine wtf 8 13 511 rfl rfl rfl z ?_
   refine wtf 9 13 1023 rfl rfl rfl z ?_
   refine wtf 10 13 2047 rfl rfl rfl z ?_
   refine wt 11 13 4095 rfl z (ov_pick_f rfl rfl) ?_
   refine wt 12 13 8191 rfl z (ov_assign rfl) ?_
   refine wa_done (by kernel_rfl) ?_
   refine nx_then (cf_ rfl (sr_ (mv_ rfl (wl_ov (ov_makeFunc rfl rfl) rfl ?_))))
   refine wl_callv rfl cb118 rfl rfl (fun wx hm => (twinHas_any (pl.take i) _ i pc pf pv pp _ wx (SlT.takeT (hm.fact 3 rfl).1 (by omega)) (by omega) (hm.blkI 0 rfl))) ?_
   refine sg_ rfl (nn_ ?_)
   refine gw_cond rfl (fun hh => ?_) (fun hh => ?_)
   ·have h12 : ((pl.take i).any (plTwin ⟨pf, pv, pp⟩)) = true := by simpa using hh
    clear hh
    refine sr_ (sg_ rfl (nn_ ?_))
    refine gw_ret ?_
    refine nx_blk_ret (nx_blk_ret (nx_then_ret (nx_then_ret (nx_blk_ret (nx_then_ret ?_)))))
    have hE : plE vl (pl.take i) ⟨pf, pv, pp⟩ = 6 := by rw [hfour, if_neg (by rw [hO]; decide), if_pos h12]
    refine nx_ret1 rfl rfl fun wx hm => ?_
    exact ⟨ret_int (by rw [hT3, hpe, hat, if_neg (by rw [hE]; decide), hE]), hm.g⟩
   have h12 : ((pl.take i).any (plTwin ⟨pf, pv, pp⟩)) = false := by simpa using hh
   clear hh
   refine gw_skip (nx_blk_nrm (nx_blk_nrm (nx_then (gw_region ?_))))
   have hE : plE vl (pl.take i) ⟨pf, pv, pp⟩ = 0 := by rw [hfour, if_neg (by rw [hO]; decide), if_neg (by rw [h12]; decide)]
   refine ad_ rfl rfl (mv_ rfl (wl_nil ?_))
   exact nx_round (i + 1) ⟨by omega, by rw [hpe, hat, if_pos hE]⟩ (by omega) ⟨rfl, rfl, rfl, (some_int (by omega)), trivial⟩ (fun _ hm => hm.pick [1] [] [0, 1, 2, 3] rfl rfl)
  obtain ⟨q, hq⟩ : ∃ x, pl[i - 1]? = some x := ⟨_, List.getElem?_eq_getElem (by omega)⟩
  obtain ⟨qf, qv, qp⟩ := q
  obtain ⟨hqf, _, _⟩ := hpok _ (List.mem_of_getElem? hq)
  have hqf : -4000000000000000000 ≤ qf ∧ qf ≤ 4000000000000000000 := hqf
  have hOq := plO_pos (p := ⟨pf, pv, pp⟩) hil h0 hq
  refine gd (fun wz => Blk wz g3 161 [.int .i64 pf, .string pv, .string pp] ∧ Blk wz g1 66 [.slice sA sn sc, .slice cA cn cc, .slice vA vn vc, .slice (some ⟨bp, op, none⟩) pn pc] ∧ (SlOld stEnc 15 168 w.heap.size none sA sn sl) wz ∧ (SlOld csEnc 2 170 w.heap.size none cA cn cl) wz ∧ (SlOld vhEnc 2 158 w.heap.size none vA vn vl) wz ∧ (SlOld plEnc 3 161 w.heap.size none (some ⟨bp, op, none⟩) pn pl) wz ∧ True) mixed (fun _ hm => ⟨hm.bl 0, hm.bl 1, hm.fa 0, hm.fa 1, hm.fa 2, hm.fa 3, trivial⟩) fun z => ?_
  refine wt 0 13 1 rfl z (ov_move rfl) ?_
  refine wt 1 13 3 rfl z (ov_gtr rfl rfl) ?_
  refine wa_set 88 (v' := .bool true) rfl (congrArg Value.bool (decide_eq_true (by omega))) ?_
  refine wt 2 13 7 rfl z (ov_move rfl) ?_
  refine wto 3 13 15 rfl rfl rfl z (ov_move rfl) ?_
  refine wto 4 13 31 rfl rfl rfl z (ov_move rfl) ?_
  refine wto 5 13 63 rfl rfl rfl z (ov_sub rfl rfl (by omega) (by omega)) ?_
  refine wa_set 92 (v' := .int .i64 (((i - 1) : Nat) : Int)) rfl (congrArg (Value.int .i64) (by omega)) ?_
  refine wto 6 13 127 rfl rfl rfl z (ov_index (j := (i - 1)) es64 rfl rfl (by omega)) ?_
  refine wto 7 13 255 rfl rfl rfl z (ov_elem (vs := [.int .i64 qf, .string qv, .string qp]) rz161 rfl (fun _ hm => (hm.2.2.2.2.2.1).1) hq rfl rfl) ?_
  refine wto 8 13 511 rfl rfl rfl z (ov_loads rz161 rfl (fun _ hm => hm.1) rfl rfl) ?_
  refine wa1 9 rfl ?_
  refine wl_guard_on rfl rfl rfl ?_
  refine wl_callv rfl cb117 rfl rfl (fun wx hm => (plateOrder_any qf qv qp pf pv pp wx hqf hpf)) ?_
  refine wl_nil ?_
  refine nw 13 1023 (fun _ hm => ⟨hm.bl 0, hm.bl 1, hm.fa 0, hm.fa 1, hm.fa 2, hm.fa 3, trivial⟩) fun z => ?_
  refine wto 10 13 2047 rfl rfl rfl z (ov_geq rfl rfl) ?_
  refine wt 11 13 4095 rfl z (ov_pick_t rfl rfl) ?_
  refine wt 12 13 8191 rfl z (ov_assign rfl) ?_
  refine wa_done (by kernel_rfl) ?_
  refine nx_then ?_
  refine gw_cond rfl (fun hh => ?_) (fun hh => ?_)
  ·have h11 : 0 ≤ plOrd ⟨qf, qv, qp⟩ ⟨pf, pv, pp⟩ := by simpa using hh
   clear hh
   refine sr_ ?_
   have hO : plO (pl.take i) ⟨pf, pv, pp⟩ = true := by rw [hOq]; exact decide_eq_true h11
   refine sg_ rfl (nn_ ?_)
   refine gw_ret ?_
   refine nx_blk_ret (nx_blk_ret (nx_then_ret (nx_then_ret (nx_blk_ret (nx_then_ret ?_)))))
   have hE : plE vl (pl.take i) ⟨pf, pv, pp⟩ = 7 := by rw [hfour, if_pos hO]
   refine nx_ret1 rfl rfl fun wx hm => ?_
   exact ⟨ret_int (by rw [hT3, hpe, hat, if_neg (by rw [hE]; decide), hE]), hm.g⟩
  have h11 : ¬ (0 ≤ plOrd ⟨qf, qv, qp⟩ ⟨pf, pv, pp⟩) := by simpa using hh
  clear hh
  refine sr_ ?_
  have hO : plO (pl.take i) ⟨pf, pv, pp⟩ = false := by rw [hOq]; exact decide_eq_false h11
  refine mv_ rfl (wl_ov (ov_makeFunc rfl rfl) rfl ?_)
  refine wl_callv rfl cb118 rfl rfl (fun wx hm => (twinHas_any (pl.take i) _ i pc pf pv pp _ wx (SlT.takeT (hm.fact 3 rfl).1 (by omega)) (by omega) (hm.blkI 0 rfl))) ?_
  refine sg_ rfl (nn_ ?_)
  refine gw_cond rfl (fun hh => ?_) (fun hh => ?_)
  ·have h12 : ((pl.take i).any (plTwin ⟨pf, pv, pp⟩)) = true := by simpa using hh
   clear hh
   refine sr_ (sg_ rfl (nn_ ?_))
   refine gw_ret ?_
   refine nx_blk_ret (nx_blk_ret (nx_then_ret (nx_then_ret (nx_blk_ret (nx_then_ret ?_)))))
   have hE : plE vl (pl.take i) ⟨pf, pv, pp⟩ = 6 := by rw [hfour, if_neg (by rw [hO]; decide), if_pos h12]
   refine nx_ret1 rfl rfl fun wx hm => ?_
   exact ⟨ret_int (by rw [hT3, hpe, hat, if_neg (by rw [hE]; decide), hE]), hm.g⟩
  have h12 : ((pl.take i).any (plTwin ⟨pf, pv, pp⟩)) = false := by simpa using hh
  clear hh
  refine gw_skip (nx_blk_nrm (nx_blk_nrm (nx_then (gw_region ?_))))
  have hE : plE vl (pl.take i) ⟨pf, pv, pp⟩ = 0 := by rw [hfour, if_neg (by rw [hO]; decide), if_neg (by rw [h12]; decide)]
  refine ad_ rfl rfl (mv_ rfl (wl_nil ?_))
  exact nx_round (i + 1) ⟨by omega, by rw [hpe, hat, if_pos hE]⟩ (by omega) ⟨rfl, rfl, rfl, (some_int (by omega)), trivial⟩ (fun _ hm => hm.pick [1] [] [0, 1, 2, 3] rfl rfl)
 have hi : ¬ (((i : Nat) : Int) < ((pn : Nat) : Int)) := by simpa using hh
 clear hh
 refine gw_exit ?_
 refine nx_then_exit (nx_then_exit ?_)
 refine nx_blk_here ?_
 refine nx_then (sr_ (sg_ rfl (nn_ ?_)))
 refine gw_ret ?_
 refine nx_ret1 rfl rfl fun wx hm => ?_
 exact ⟨ret_int (by rw [hT3, plates_end (by omega) hpe]), hm.g⟩
end Go.Proofs.YtnpcbfllnkiopaaGreatDoor
namespace Go.Proofs.YtnpcbfllnkiopaaGreatDoor
open Go.RowKit
theorem pl_one (x : Pl) : ∀ v ∈ plEnc x, v.oneCell' = true := by
  intro v hv
  simp only [plEnc, List.mem_cons, List.not_mem_nil, or_false] at hv
  rcases hv with rfl | rfl | rfl <;> rfl
theorem plate_info : ∃ i z, Tryz.prog.info? 161 = some i ∧ i.zero = some z ∧ i.size = 3 ∧ i.bytes = 40 ∧ z.cells.size = 3 := info_parts (by kernel_rfl)
set_option maxRecDepth 100000 in
set_option maxHeartbeats 1000000 in
theorem clonePlates_pos (l : List Pl) (A : Option Addr) (n c : Nat) (w : World) (hl : SlT plEnc 3 161 w A n l) (hn0 : 0 < n) (hn : n ≤ 1000000) :
    Calls Tryz.prog 209 #[.slice A n c] w (fun e w' => ∃ A' c', e = .returned (.slice A' n c') ∧ w'.ownsRow w.heap.size 161 3 (.slice A' n c') n (l.flatMap plEnc) ∧ w.grownBy w' none) := by
  obtain ⟨b, off, rfl, hbl, hfl⟩ := hl.flat pl_len hn0
  have hlen := hl.len
  obtain ⟨i0, z0, hi, hz, hsz, hby, hzs⟩ := plate_info
  have hnews : ∀ (o : Obj) j u, (l.flatMap plEnc)[j]? = some u → (w.alloc o).cell? ((⟨b, off, none⟩ : Addr).add j) = some u := fun o j u hj =>
    (World.cell?_of_block (Below.heap_alloc w o _ (by unfold Addr.add; split <;> exact hbl))).trans (hfl j u hj)
  have hone := flat_one plEnc pl_one l
  have hll := flat_len plEnc 3 pl_len l
  rw [hlen] at hll
  clear hfl hl
  have Hnews := Lib.hid hnews
  clear hnews
  have he : ∀ w : World, (binOp .eql 64 (.slice (some ⟨b, off, none⟩) n c) (.slice none 0 0)).run Tryz.prog w = .ok (.bool false) w := fun _ => rfl
  go_enter Tryz.func209, Tryz.ntmps209
  go_wp2_with (at_builtin; refine wpList_append_own_at _ rfl _ _ 64 rfl w.heap.size 161 i0 z0 3 40 Tryz.underlying64 hi hz hsz hby hzs (by decide) (.slice (some ⟨w.heap.size, 0, none⟩) 0 0) 0 [] rfl ⟨rfl, .inr ⟨w.heap.size, 0, #[], rfl, Nat.le_refl _, heap_alloc_new w _, Nat.le_refl _, by decide, rfl, rfl⟩⟩ ⟨b, off, none⟩ n c (l.flatMap plEnc) rfl hll (Hnews.out _) hone (by unfold maxLen; omega) (by omega) (by simp) ?_; intro v' w' hown hgrow hnil hat)
  rw [Nat.zero_add, List.nil_append] at hown
  have hown2 := hown
  obtain ⟨_, ho⟩ := hown2
  rcases ho with ⟨_, h0⟩ | ⟨g, cap, cur, rfl, hg, _⟩
  · omega
  · go_ret
    exact ⟨some ⟨g, 0, none⟩, cap, rfl, hown, grow_own (grow_alloc (World.grownBy.refl _ _) _) hgrow (fun k h => by cases h; exact Nat.le_refl _)⟩
set_option maxRecDepth 100000 in
set_option maxHeartbeats 1000000 in
theorem clonePlates_empty (b off c : Nat) (w : World) :
    Calls Tryz.prog 209 #[.slice (some ⟨b, off, none⟩) 0 c] w (fun e w' => ∃ A' c', e = .returned (.slice A' 0 c') ∧ w'.ownsRow w.heap.size 161 3 (.slice A' 0 c') 0 [] ∧ w.grownBy w' none) := by
  obtain ⟨i0, z0, hi, hz, hsz, hby, hzs⟩ := plate_info
  have he : ∀ w : World, (binOp .eql 64 (.slice (some ⟨b, off, none⟩) 0 c) (.slice none 0 0)).run Tryz.prog w = .ok (.bool false) w := fun _ => rfl
  go_enter Tryz.func209, Tryz.ntmps209
  go_wp2_with (at_builtin; refine wpList_append_own_at _ rfl _ _ 64 rfl w.heap.size 161 i0 z0 3 40 Tryz.underlying64 hi hz hsz hby hzs (by decide) (.slice (some ⟨w.heap.size, 0, none⟩) 0 0) 0 [] rfl ⟨rfl, .inr ⟨w.heap.size, 0, #[], rfl, Nat.le_refl _, heap_alloc_new w _, Nat.le_refl _, by decide, rfl, rfl⟩⟩ ⟨b, off, none⟩ 0 c [] rfl rfl (fun j u hj => by simp at hj) (fun v hv => by cases hv) (by unfold maxLen; omega) (by omega) (by simp) ?_; intro v' w' hown hgrow hnil hat)
  rw [Nat.zero_add, List.nil_append] at hown
  have hown2 := hown
  obtain ⟨_, ho⟩ := hown2
  rcases ho with ⟨rfl, _⟩ | ⟨g, cap, cur, rfl, hg, _⟩
  · go_ret
    exact ⟨none, 0, rfl, hown, grow_own (grow_alloc (World.grownBy.refl _ _) _) hgrow (fun k h => by cases h; exact Nat.le_refl _)⟩
  · go_ret
    exact ⟨some ⟨g, 0, none⟩, cap, rfl, hown, grow_own (grow_alloc (World.grownBy.refl _ _) _) hgrow (fun k h => by cases h; exact Nat.le_refl _)⟩
set_option maxRecDepth 100000 in
set_option maxHeartbeats 400000 in
theorem clonePlates_nil (w : World) : Calls Tryz.prog 209 #[.slice none 0 0] w (fun e w' => e = .returned (.slice none 0 0) ∧ w = w') := by
  have he : ∀ w : World, (binOp .eql 64 (.slice none 0 0) (.slice none 0 0)).run Tryz.prog w = .ok (.bool true) w := fun _ => rfl
  go_enter Tryz.func209, Tryz.ntmps209
  go_wp2_with fail
  go_ret
  exact ⟨rfl, rfl⟩
theorem clonePlates_any (l : List Pl) (A : Option Addr) (n c : Nat) (w : World) (hl : SlT plEnc 3 161 w A n l) (hnil : n = 0 → A = none ∧ c = 0) (hn : n ≤ 1000000) :
    Calls Tryz.prog 209 #[.slice A n c] w (fun e w' => ∃ A' c', e = .returned (.slice A' n c') ∧ w'.ownsRow w.heap.size 161 3 (.slice A' n c') n (l.flatMap plEnc) ∧ w.grownBy w' none) := by
  by_cases h0 : n = 0
  · obtain ⟨rfl, rfl⟩ := hnil h0
    subst h0
    have hl0 : l = [] := List.length_eq_zero_iff.1 hl.len
    subst hl0
    exact (clonePlates_nil w).mono fun e w' ⟨he, hw⟩ => ⟨none, 0, he, ⟨rfl, .inl ⟨rfl, rfl⟩⟩, hw ▸ World.grownBy.refl _ _⟩
  · exact clonePlates_pos l A n c w hl (by omega) hn
end Go.Proofs.YtnpcbfllnkiopaaGreatDoor
namespace Go.Proofs.YtnpcbfllnkiopaaGreatDoor
open Go.RowKit
/-- The shape of a slice's address. -/
def ShapeA (A : Option Addr) (n c : Nat) : Prop := (A = none ∧ n = 0 ∧ c = 0) ∨ ∃ b off, A = some ⟨b, off, none⟩
theorem own_shape {w : World} {base sz n : Nat} {e : TypeId} {A : Option Addr} {c : Nat} {xs : List Value} (h : w.ownsRow base e sz (.slice A n c) n xs) : ShapeA A n c := by
  rcases h.2 with ⟨h1, h2⟩ | ⟨g, cap, cur, h1, _⟩
  · injection h1 with h3 h4 h5
    exact .inl ⟨h3, h2, h5⟩
  · injection h1 with h3 _ _
    exact .inr ⟨g, 0, h3⟩
theorem clonePlates_all (l : List Pl) (A : Option Addr) (n c : Nat) (w : World) (hl : SlT plEnc 3 161 w A n l) (hs : ShapeA A n c) (hn : n ≤ 1000000) :
    Calls Tryz.prog 209 #[.slice A n c] w (fun e w' => ∃ A' c', e = .returned (.slice A' n c') ∧ w'.ownsRow w.heap.size 161 3 (.slice A' n c') n (l.flatMap plEnc) ∧ w.grownBy w' none) := by
  rcases hs with ⟨rfl, rfl, rfl⟩ | ⟨b, off, rfl⟩
  · exact clonePlates_any l none 0 0 w hl (fun _ => ⟨rfl, rfl⟩) hn
  · rcases Nat.eq_zero_or_pos n with rfl | h0
    · have hl0 : l = [] := List.length_eq_zero_iff.1 hl.len
      subst hl0
      exact clonePlates_empty b off c w
    · exact clonePlates_pos l _ n c w hl h0 hn
end Go.Proofs.YtnpcbfllnkiopaaGreatDoor
