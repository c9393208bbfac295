/- Several texts as one: Fta Ftb Rdk Sl Sk Stc Hd Rt Ta Fw Fx Fz Gf Gm Gw Gx Gst Lop LopA LopB Win LopC Sq Sn -/
import Derived.Test.YtempjmpfdniecaaGreatDoorN2b
import Derived.Test.YtempjmpfdniecaaGreatDoorN2a
import Derived.Test.YtempjmpfdniecaaGreatDoorProg
import Derived.Ground.NamesProg
import Derived.Shelf.Small.Bits
import Derived.Shelf.Small.Strs
import Derived.Deep.RegionHeld3
import Derived.Deep.LoopGhost
import Derived.StillTailTactics
set_option maxRecDepth 100000
set_option maxHeartbeats 4000000
namespace Go.Proofs.YtempjmpfdniecaaGreatDoor
open Go.RowKit
theorem fnot_t {b : Bool} (h : (!b) = true) : b = false := by cases b <;> simp_all
theorem fnot_f {b : Bool} (h : (!b) = false) : b = true := by cases b <;> simp_all
theorem wd_pos (t : ByteArray) : 1 <= (wdL t).length := by
 unfold wdL
 rw [words_len t ⟨#[32]⟩ (by decide)]; omega
theorem fcons_of {l : List ByteArray} {a : ByteArray} (h : l[0]? = some a) : ∃ r, l = a :: r := by
 cases l with
 | nil => cases h
 | cons x r => exact ⟨r, by simp at h; rw [h]⟩
theorem eqS_iff {a b : ByteArray} : eqS a b = true ↔ a = b := ⟨fun h => bytes_ext (by unfold eqS at h; simpa using h), fun h => by subst h; unfold eqS; simp⟩
theorem a0_cases (a : ByteArray) : a = stW ∨ a = clW ∨ a = vhW ∨ a = plW ∨ (eqS a stW = false /\ eqS a clW = false /\ eqS a vhW = false /\ eqS a plW = false) := by
 cases h1 : eqS a stW with
 | true => exact .inl (eqS_iff.1 h1)
 | false =>
  cases h2 : eqS a clW with
  | true => exact .inr (.inl (eqS_iff.1 h2))
  | false =>
   cases h3 : eqS a vhW with
   | true => exact .inr (.inr (.inl (eqS_iff.1 h3)))
   | false =>
    cases h4 : eqS a plW with
    | true => exact .inr (.inr (.inr (.inl (eqS_iff.1 h4))))
    | false => exact .inr (.inr (.inr (.inr ⟨rfl, rfl, rfl, rfl⟩)))
theorem fItem_bad {l : List ByteArray} {a : ByteArray} (e : l[0]? = some a) (h3 : l.length = 3 -> eqS a clW = false /\ eqS a vhW = false) (h4 : l.length = 4 -> eqS a plW = false) (h9 : l.length = 9 -> eqS a stW = false) : fItem l = none := by
 obtain ⟨r, rfl⟩ := fcons_of e
 unfold fItem
 split
 ·rename_i e; cases e; rw [(h3 rfl).1, (h3 rfl).2]; rfl
 ·rename_i e; cases e; rw [h4 rfl]; rfl
 ·rename_i e; cases e; rw [h9 rfl]; rfl
 ·rfl
theorem item_cs (a1 a2 : ByteArray) : fItem [clW, a1, a2] = some (.cs ⟨a1, und a2⟩) := if_pos (by decide +kernel)
theorem item_vh (a1 a2 : ByteArray) : fItem [vhW, a1, a2] = some (.vh ⟨a1, a2⟩) := (if_neg (by decide +kernel)).trans (if_pos (by decide +kernel))
theorem item_pl {a1 : ByteArray} (a2 a3 : ByteArray) (h : numB a1 = true) : fItem [plW, a1, a2, a3] = some (.pl ⟨numV a1, a2, a3⟩) := if_pos (by rw [h, show eqS plW plW = true by decide +kernel]; rfl)
theorem item_pl_no {a1 : ByteArray} (a2 a3 : ByteArray) (h : numB a1 = false) : fItem [plW, a1, a2, a3] = none := if_neg (by rw [h, Bool.and_false]; decide)
theorem item_st {a1 x0 x1 x2 x3 x4 x5 x6 : ByteArray} (h : [x0, x1, x2, x3, x4, x5, x6].all winB = true) : fItem [stW, a1, x0, x1, x2, x3, x4, x5, x6] = some (.st (stOf a1 x0 x1 x2 x3 x4 x5 x6)) := if_pos (by rw [h, show eqS stW stW = true by decide +kernel]; rfl)
theorem item_st_no {a1 x0 x1 x2 x3 x4 x5 x6 : ByteArray} (h : [x0, x1, x2, x3, x4, x5, x6].all winB = false) : fItem [stW, a1, x0, x1, x2, x3, x4, x5, x6] = none := if_neg (by rw [h, Bool.and_false]; decide)
theorem all_no {l : List ByteArray} {j : Nat} {x : ByteArray} (h : l[j]? = some x) (hx : winB x = false) : l.all winB = false := by
 cases h0 : l.all winB with
 | false => rfl
 | true => rw [List.all_eq_true.1 h0 x (List.mem_of_getElem? h)] at hx; cases hx
theorem all_take_succ {l : List ByteArray} {j : Nat} {x : ByteArray} (h : l[j]? = some x) (ha : (l.take j).all winB = true) (hx : winB x = true) : (l.take (j + 1)).all winB = true := by
 rw [List.take_add_one, h, Option.toList_some, List.all_append, ha]; simp [hx]
def itK (o : Option FIt) : Int := match o with
 | none => 0
 | some x => x.kd
theorem kd_bd (x : FIt) : 1 <= x.kd /\ x.kd <= 4 := by cases x <;> simp [FIt.kd]
theorem push_last (s : FsZ) (x : FIt) : (fPush s x).last = x.kd := by cases x <;> rfl
def f4 (s : FsZ) : List St × List Cs × List Vh × List Pl := (s.sl, s.cl, s.vl, s.pl)
theorem push_f4 (s s' : FsZ) (x : FIt) (h : f4 s = f4 s') : f4 (fPush s x) = f4 (fPush s' x) := by
 unfold f4 at h
 simp only [Prod.mk.injEq] at h
 obtain ⟨h1, h2, h3, h4⟩ := h
 cases x <;> (unfold f4 fPush; simp [h1, h2, h3, h4])
theorem ar150 : arrSz Tryz.prog 150 = some (7, 2) := by kernel_rfl
theorem station_w (a0 a1 x0 x1 x2 x3 x4 x5 x6 : ByteArray) (A : Option Addr) (w : World) (ht : TxtW w) (hw : SlT sgEnc 1 9 w A 9 [a0, a1, x0, x1, x2, x3, x4, x5, x6]) (zx0 : x0.size <= 1000000) (zx1 : x1.size <= 1000000) (zx2 : x2.size <= 1000000) (zx3 : x3.size <= 1000000) (zx4 : x4.size <= 1000000) (zx5 : x5.size <= 1000000) (zx6 : x6.size <= 1000000) :
  Calls Tryz.prog 211 #[.slice A 9 9] w (fun e w' => ∃ (k : ByteArray) (m0 m1 m2 m3 m4 m5 m6 m7 m8 m9 m10 m11 m12 m13 : Int), e = .returned (.tuple #[.agg #[.string k, .int .i64 m0, .int .i64 m1, .int .i64 m2, .int .i64 m3, .int .i64 m4, .int .i64 m5, .int .i64 m6, .int .i64 m7, .int .i64 m8, .int .i64 m9, .int .i64 m10, .int .i64 m11, .int .i64 m12, .int .i64 m13], .bool ([x0, x1, x2, x3, x4, x5, x6].all winB)]) /\ ([x0, x1, x2, x3, x4, x5, x6].all winB = true -> (⟨k, [m0, m1, m2, m3, m4, m5, m6, m7, m8, m9, m10, m11, m12, m13]⟩ : St) = stOf a1 x0 x1 x2 x3 x4 x5 x6) /\ w.grownBy w' none) := by
 refine gw_enter ⟨68, w, none, [9, 3]⟩ Tryz.func211 rfl Tryz.ntmps211 rfl (mem0 (X := [SlOld sgEnc 1 9 w.heap.size none A 9 [a0, a1, x0, x1, x2, x3, x4, x5, x6], TxtO w.heap.size none]) (allF_cons hw.old (allF_cons ht.old allF_nil)) (allL_cons SlOld.lasts (allL_cons TxtO.lasts allL_nil))) ?_
 refine sr_ ?_
 obtain ⟨b, off, hA, _, _⟩ := hw.get (by omega)
 subst hA
 refine wl_alloc zc152 rfl fun g1 => ?_
 refine sg_ rfl (nn_ (sr_ (mv_ rfl ?_)))
 refine wl_ov (ov_index (j := 1) es103 rfl rfl (by omega)) rfl ?_
 refine wl_ov (ov_elem1 (k := 0) (v := .string a1) sc9 rfl (fun _ hm => (hm.fact 0 rfl).1) (show ([a0, a1, x0, x1, x2, x3, x4, x5, x6] : List ByteArray)[1]? = some a1 from rfl) rfl rfl) rfl ?_
 refine wl_ov (ov_build (cs := [.string a1, .int .i64 0, .int .i64 0, .int .i64 0, .int .i64 0, .int .i64 0, .int .i64 0, .int .i64 0, .int .i64 0, .int .i64 0, .int .i64 0, .int .i64 0, .int .i64 0, .int .i64 0, .int .i64 0]) rfl (by kernel_rfl)) rfl ?_
 refine wl_alloc zc152 rfl fun g2 => ?_
 refine wl_stores (cs' := [.string a1, .int .i64 0, .int .i64 0, .int .i64 0, .int .i64 0, .int .i64 0, .int .i64 0, .int .i64 0, .int .i64 0, .int .i64 0, .int .i64 0, .int .i64 0, .int .i64 0, .int .i64 0, .int .i64 0]) 0 rz152 rfl rfl rfl rfl rfl rfl rfl rfl ?_
 refine nn_ (gw_seq (sr_ (mv_ rfl ?_)))
 refine wl_ov (ov_sliceLo (lo := 2) es103 rfl rfl rfl (by omega)) rfl ?_
 refine wl_set 17 (v' := .slice (some ⟨b, off + 2, none⟩) 7 7) rfl rfl ?_
 refine wl_ov (ov_len es103 rfl) rfl ?_
 refine wl_set 18 (v' := .int .i64 7) rfl rfl ?_
 refine mv_ rfl (nn_ (gw_block ?_))
 refine gw_loop (γ := Nat × Int × Int × Int × Int × Int × Int × Int × Int × Int × Int × Int × Int × Int × Int) (fun (gy : Nat × Int × Int × Int × Int × Int × Int × Int × Int × Int × Int × Int × Int × Int × Int) => gy.1 <= 7 /\ ([x0, x1, x2, x3, x4, x5, x6].take gy.1).all winB = true /\ ([gy.2.1, gy.2.2.1, gy.2.2.2.1, gy.2.2.2.2.1, gy.2.2.2.2.2.1, gy.2.2.2.2.2.2.1, gy.2.2.2.2.2.2.2.1, gy.2.2.2.2.2.2.2.2.1, gy.2.2.2.2.2.2.2.2.2.1, gy.2.2.2.2.2.2.2.2.2.2.1, gy.2.2.2.2.2.2.2.2.2.2.2.1, gy.2.2.2.2.2.2.2.2.2.2.2.2.1, gy.2.2.2.2.2.2.2.2.2.2.2.2.2.1, gy.2.2.2.2.2.2.2.2.2.2.2.2.2.2] : List Int).take (2 * gy.1) = ([wF x0, wT x0, wF x1, wT x1, wF x2, wT x2, wF x3, wT x3, wF x4, wT x4, wF x5, wT x5, wF x6, wT x6] : List Int).take (2 * gy.1)) (fun (gy : Nat × Int × Int × Int × Int × Int × Int × Int × Int × Int × Int × Int × Int × Int × Int) => [(2, .pointer (some ⟨g1, 0, none⟩)), (4, .pointer (some ⟨g2, 0, none⟩)), (17, .slice (some ⟨b, off + 2, none⟩) 7 7), (18, .int .i64 7), (19, .int .i64 ((gy.1 : Nat) : Int))]) (fun (gy : Nat × Int × Int × Int × Int × Int × Int × Int × Int × Int × Int × Int × Int × Int × Int) => fun _ => True) (fun (gy : Nat × Int × Int × Int × Int × Int × Int × Int × Int × Int × Int × Int × Int × Int × Int) => [(g2, 152, [.string a1, .int .i64 gy.2.1, .int .i64 gy.2.2.1, .int .i64 gy.2.2.2.1, .int .i64 gy.2.2.2.2.1, .int .i64 gy.2.2.2.2.2.1, .int .i64 gy.2.2.2.2.2.2.1, .int .i64 gy.2.2.2.2.2.2.2.1, .int .i64 gy.2.2.2.2.2.2.2.2.1, .int .i64 gy.2.2.2.2.2.2.2.2.2.1, .int .i64 gy.2.2.2.2.2.2.2.2.2.2.1, .int .i64 gy.2.2.2.2.2.2.2.2.2.2.2.1, .int .i64 gy.2.2.2.2.2.2.2.2.2.2.2.2.1, .int .i64 gy.2.2.2.2.2.2.2.2.2.2.2.2.2.1, .int .i64 gy.2.2.2.2.2.2.2.2.2.2.2.2.2.2]), (g1, 152, [.string ⟨#[]⟩, .int .i64 0, .int .i64 0, .int .i64 0, .int .i64 0, .int .i64 0, .int .i64 0, .int .i64 0, .int .i64 0, .int .i64 0, .int .i64 0, .int .i64 0, .int .i64 0, .int .i64 0, .int .i64 0])]) (fun (gy : Nat × Int × Int × Int × Int × Int × Int × Int × Int × Int × Int × Int × Int × Int × Int) => []) (fun (gy : Nat × Int × Int × Int × Int × Int × Int × Int × Int × Int × Int × Int × Int × Int × Int) => [SlOld sgEnc 1 9 w.heap.size none (some ⟨b, off, none⟩) 9 [a0, a1, x0, x1, x2, x3, x4, x5, x6], TxtO w.heap.size none]) (fun (gy : Nat × Int × Int × Int × Int × Int × Int × Int × Int × Int × Int × Int × Int × Int × Int) => 7 - gy.1) (0, 0, 0, 0, 0, 0, 0, 0, 0, 0, 0, 0, 0, 0, 0) ⟨Nat.zero_le _, rfl, rfl⟩ ⟨rfl, rfl, rfl, rfl, rfl, trivial⟩ (fun _ hm => hm.pick [0, 1] [] [0, 1] rfl rfl) ?_
 rintro ⟨j, y0, y1, y2, y3, y4, y5, y6, y7, y8, y9, y10, y11, y12, y13⟩ hinv
 replace hinv : j <= 7 /\ ([x0, x1, x2, x3, x4, x5, x6].take j).all winB = true /\ ([y0, y1, y2, y3, y4, y5, y6, y7, y8, y9, y10, y11, y12, y13] : List Int).take (2 * j) = ([wF x0, wT x0, wF x1, wT x1, wF x2, wT x2, wF x3, wT x3, wF x4, wT x4, wF x5, wT x5, wF x6, wT x6] : List Int).take (2 * j) := hinv
 dsimp only
 refine sr_ ?_
 obtain ⟨hj7, hall, hyv⟩ := hinv
 refine wl_ov (ov_lss rfl rfl) rfl (nn_ (gw_seq ?_))
 refine gw_cond rfl (fun hh => ?_) (fun hh => ?_)
 ·have hj : ((j : Nat) : Int) < 7 := by simpa using hh
  clear hh
  refine gw_skip (nx_then (gw_seq (gw_block (sr_ ?_))))
  obtain ⟨x, hx7⟩ : ∃ x, ([x0, x1, x2, x3, x4, x5, x6] : List ByteArray)[j]? = some x := ⟨_, List.getElem?_eq_getElem (show j < 7 by omega)⟩
  have zx : x.size <= 1000000 := by
   have hm := List.mem_of_getElem? hx7
   simp only [List.mem_cons, List.not_mem_nil, or_false] at hm
   rcases hm with rfl | rfl | rfl | rfl | rfl | rfl | rfl <;> assumption
  have s1x : (cutD x).1.size <= 1000000 := Nat.le_trans (cut_sz x dashS (by decide)).1 zx
  have s2x : (cutD x).2.1.size <= 1000000 := Nat.le_trans (cut_sz x dashS (by decide)).2.2 zx
  obtain ⟨NBx, hNBx⟩ : ∃ z, z = [(cutD x).1, (cutD x).2.1].all numB := ⟨_, rfl⟩
  refine mv_ rfl ?_
  refine wl_ov (ov_index (j := j) es103 rfl rfl (by omega)) rfl ?_
  refine wl_ov (ov_elem1 (k := 0) (v := .string x) sc9 rfl (fun _ hm => (show SlT sgEnc 1 9 _ (some ⟨b, off + 2, none⟩) 7 [x0, x1, x2, x3, x4, x5, x6] from SlT.dropS (c := 9) (hm.fact 0 rfl).1 2 (by omega) (by omega))) hx7 rfl rfl) rfl ?_
  refine sg_ rfl (sg_ rfl (nn_ (sr_ (mv_ rfl ?_))))
  refine wl_callv (v := .tuple #[.string ((cutD x).1), .string ((cutD x).2.1), .bool ((cutD x).2.2)]) rfl cb178 rfl rfl (fun wx hm => (by have h := cut_any x dashS wx (hm.fact 1 rfl).1 (by omega); exact h)) ?_
  refine mv_ rfl (wl_ov (ov_extract rfl rfl) rfl (wl_ov (ov_extract rfl rfl) rfl (wl_ov (ov_extract rfl rfl) rfl (sg_ rfl (sg_ rfl (sg_ rfl (nn_ (sr_ (mv_ rfl (mv_ rfl ?_))))))))))
  refine wl_buildSlice (e := 9) (cs := [.string ((cutD x).1), .string ((cutD x).2.1)]) rfl (by kernel_rfl) rfl fun g3 => ?_
  refine wl_callx (γ := Option Addr × Nat × Nat) (val := (fun g => .tuple #[.slice g.1 g.2.1 g.2.2, .bool NBx])) (φ := (fun g => True)) (Y := (fun g => fun wy => IfT NBx (SlT tiEnc 1 3 wy g.1 g.2.1 [wF x, wT x] /\ g.2.1 = 2))) rfl cb79 rfl rfl (fun wx hm => (by have h := numbers_any [(cutD x).1, (cutD x).2.1] (some ⟨g3, 0, none⟩) 2 2 wx (hm.fact 1 rfl).1 (SlT.ofBlk (l := [(cutD x).1, (cutD x).2.1]) sg_len (hm.blkI 0 rfl)) (by omega) (fun y hy => by simp only [List.mem_cons, List.not_mem_nil, or_false] at hy; rcases hy with rfl | rfl <;> assumption); rw [<- hNBx] at h; exact h.mono fun _ _ ⟨A2, k, c2, he, h1, hg⟩ => ⟨(A2, k, c2), he, trivial, hg, h1⟩)) (fun _ => (SlT.lasts2 rfl).ift) ?_
  rintro ⟨nAx, nkx, ncx⟩ hphi
  dsimp only
  clear hphi
  refine mv_ rfl (wl_ov (ov_extract rfl rfl) rfl (wl_ov (ov_extract rfl rfl) rfl (sg_ rfl (sg_ rfl (nn_ (gw_seq (sr_ (mv_ rfl (wl_ov (ov_un_not rfl) rfl (mv_ rfl ?_))))))))))
  rcases Bool.eq_false_or_eq_true (!((cutD x).2.2)) with hax | hax
  ·refine wl_set 39 rfl (congrArg Value.bool hax) ?_
   refine goff rfl rfl rfl (goff rfl rfl rfl (pt_ rfl rfl (mv_ rfl (goff rfl rfl rfl (goff rfl rfl rfl (goff rfl rfl rfl (goff rfl rfl rfl (pt_ rfl rfl (mv_ rfl (goff rfl rfl rfl (goff rfl rfl rfl (goff rfl rfl rfl (goff rfl rfl rfl ?_)))))))))))))
   refine pt_ rfl rfl (nn_ (ct_ rfl (sr_ ?_)))
   refine wl_ov (ov_loads rz152 rfl (fun _ hm => hm.blkI 1 rfl) rfl rfl) rfl ?_
   refine wl_stores (cs' := [.string a1, .int .i64 y0, .int .i64 y1, .int .i64 y2, .int .i64 y3, .int .i64 y4, .int .i64 y5, .int .i64 y6, .int .i64 y7, .int .i64 y8, .int .i64 y9, .int .i64 y10, .int .i64 y11, .int .i64 y12, .int .i64 y13]) 2 rz152 rfl rfl rfl rfl rfl rfl rfl rfl ?_
   refine sg_ rfl (nn_ ?_)
   refine gw_ret ?_
   refine nx_then_ret (nx_blk_ret (nx_then_ret (nx_then_ret (nx_blk_ret (nx_then_ret ?_)))))
   have hF : [x0, x1, x2, x3, x4, x5, x6].all winB = false := all_no hx7 (win_no1 (fnot_t hax))
   refine nx_retct 2 rfl rz152 rfl rfl rfl rfl fun wx hm => ?_
   exact ⟨a1, y0, y1, y2, y3, y4, y5, y6, y7, y8, y9, y10, y11, y12, y13, by rw [hF], fun h => (by rw [hF] at h; cases h), hm.g⟩
  refine wl_set 39 rfl (congrArg Value.bool hax) ?_
  by_cases hbx : NBx = true
  ·subst hbx
   refine wl_look (R := nkx = 2) (fun wx hm => ((hm.fact 0 rfl) rfl).2) ?_
   rintro hnk
   subst hnk
   refine wl_look (R := ∃ b o, nAx = some ⟨b, o, none⟩) (fun wx hm => by obtain ⟨b, off, hA, _, _⟩ := SlT.get ((hm.fact 0 rfl) rfl).1 (by omega); exact ⟨b, off, hA⟩) ?_
   rintro ⟨bnx, onx, rfl⟩
   refine wl_guard_on rfl rfl rfl (mv_ rfl (wl_guard_on rfl rfl rfl (wl_ov (ov_un_not rfl) rfl ?_)))
   refine wl_set 41 (v' := .bool false) rfl (congrArg Value.bool (by decide)) ?_
   refine pf_ rfl rfl (mv_ rfl (wl_guard_on rfl rfl rfl (mv_ rfl (wl_guard_on rfl rfl rfl ?_))))
   refine wl_ov (ov_index (j := 0) es22 rfl rfl (by omega)) rfl ?_
   refine wl_guard_on rfl rfl rfl ?_
   refine wl_ov (ov_elem1 (k := 0) (v := .int .i64 (wF x)) sc3 rfl (fun _ hm => ((hm.fact 0 rfl) rfl).1) (show ([wF x, wT x] : List Int)[0]? = some (wF x) from rfl) rfl rfl) rfl ?_
   refine wl_guard_on rfl rfl rfl (wl_ov (ov_lss rfl rfl) rfl (pf_ rfl rfl (mv_ rfl ?_)))
   rcases Bool.eq_false_or_eq_true (decide (wF x < 0)) with hcx | hcx
   ·refine wl_set 49 rfl (congrArg Value.bool hcx) ?_
    replace hcx := of_decide_eq_true hcx
    refine goff rfl rfl rfl (goff rfl rfl rfl (goff rfl rfl rfl (goff rfl rfl rfl (pt_ rfl rfl (nn_ (ct_ rfl (sr_ ?_)))))))
    refine wl_ov (ov_loads rz152 rfl (fun _ hm => hm.blkI 1 rfl) rfl rfl) rfl ?_
    refine wl_stores (cs' := [.string a1, .int .i64 y0, .int .i64 y1, .int .i64 y2, .int .i64 y3, .int .i64 y4, .int .i64 y5, .int .i64 y6, .int .i64 y7, .int .i64 y8, .int .i64 y9, .int .i64 y10, .int .i64 y11, .int .i64 y12, .int .i64 y13]) 2 rz152 rfl rfl rfl rfl rfl rfl rfl rfl ?_
    refine sg_ rfl (nn_ ?_)
    refine gw_ret ?_
    refine nx_then_ret (nx_blk_ret (nx_then_ret (nx_then_ret (nx_blk_ret (nx_then_ret ?_)))))
    have hF : [x0, x1, x2, x3, x4, x5, x6].all winB = false := all_no hx7 (win_no3 hcx)
    refine nx_retct 2 rfl rz152 rfl rfl rfl rfl fun wx hm => ?_
    exact ⟨a1, y0, y1, y2, y3, y4, y5, y6, y7, y8, y9, y10, y11, y12, y13, by rw [hF], fun h => (by rw [hF] at h; cases h), hm.g⟩
   refine wl_set 49 rfl (congrArg Value.bool hcx) ?_
   replace hcx := of_decide_eq_false hcx
   refine wl_guard_on rfl rfl rfl (mv_ rfl (wl_guard_on rfl rfl rfl ?_))
   refine wl_ov (ov_index (j := 1) es22 rfl rfl (by omega)) rfl ?_
   refine wl_guard_on rfl rfl rfl ?_
   refine wl_ov (ov_elem1 (k := 0) (v := .int .i64 (wT x)) sc3 rfl (fun _ hm => ((hm.fact 0 rfl) rfl).1) (show ([wF x, wT x] : List Int)[1]? = some (wT x) from rfl) rfl rfl) rfl ?_
   refine wl_guard_on rfl rfl rfl (wl_ov (ov_lss rfl rfl) rfl (pf_ rfl rfl (nn_ ?_)))
   rcases Bool.eq_false_or_eq_true (decide (wT x < 0)) with hdx | hdx
   ·refine gw_set 54 rfl (congrArg Value.bool hdx) ?_
    replace hdx := of_decide_eq_true hdx
    refine ct_ rfl (sr_ ?_)
    refine wl_ov (ov_loads rz152 rfl (fun _ hm => hm.blkI 1 rfl) rfl rfl) rfl ?_
    refine wl_stores (cs' := [.string a1, .int .i64 y0, .int .i64 y1, .int .i64 y2, .int .i64 y3, .int .i64 y4, .int .i64 y5, .int .i64 y6, .int .i64 y7, .int .i64 y8, .int .i64 y9, .int .i64 y10, .int .i64 y11, .int .i64 y12, .int .i64 y13]) 2 rz152 rfl rfl rfl rfl rfl rfl rfl rfl ?_
    refine sg_ rfl (nn_ ?_)
    refine gw_ret ?_
    refine nx_then_ret (nx_blk_ret (nx_then_ret (nx_then_ret (nx_blk_ret (nx_then_ret ?_)))))
    have hF : [x0, x1, x2, x3, x4, x5, x6].all winB = false := all_no hx7 (win_no4 hdx)
    refine nx_retct 2 rfl rz152 rfl rfl rfl rfl fun wx hm => ?_
    exact ⟨a1, y0, y1, y2, y3, y4, y5, y6, y7, y8, y9, y10, y11, y12, y13, by rw [hF], fun h => (by rw [hF] at h; cases h), hm.g⟩
   refine gw_set 54 rfl (congrArg Value.bool hdx) ?_
   replace hdx := of_decide_eq_false hdx
   have hWx := win_yes (fnot_f hax) hNBx.symm hcx hdx
   have hall2 := all_take_succ hx7 hall hWx
   obtain hv4 | hv4 | hv4 | hv4 | hv4 | hv4 | hv4 : j = 0 ∨ j = 1 ∨ j = 2 ∨ j = 3 ∨ j = 4 ∨ j = 5 ∨ j = 6 := (by omega)
   ·subst hv4
    have e9 : x0 = x := Option.some.inj hx7
    subst e9
    refine cf_ rfl (gw_skip (nx_then ?_))
    refine gd (fun wz => Blk wz g3 9 [.string ((cutD x0).1), .string ((cutD x0).2.1)] /\ Blk wz g1 152 [.string ⟨#[]⟩, .int .i64 0, .int .i64 0, .int .i64 0, .int .i64 0, .int .i64 0, .int .i64 0, .int .i64 0, .int .i64 0, .int .i64 0, .int .i64 0, .int .i64 0, .int .i64 0, .int .i64 0, .int .i64 0] /\ (fun wy => IfT true (SlT tiEnc 1 3 wy (some ⟨bnx, onx, none⟩) 2 [wF x0, wT x0] /\ 2 = 2)) wz /\ (SlOld sgEnc 1 9 w.heap.size none (some ⟨b, off, none⟩) 9 [a0, a1, x0, x1, x2, x3, x4, x5, x6]) wz /\ (TxtO w.heap.size none) wz /\ True) mixed (fun _ hm => ⟨hm.bl 0, hm.bl 2, hm.fa 0, hm.fa 1, hm.fa 2, trivial⟩) fun z => ?_
    refine wt 0 11 1 rfl z (ov_move rfl) ?_
    refine wa_set 56 (v' := .int .i64 0) rfl rfl ?_
    refine wt 1 11 3 rfl z (ov_move rfl) ?_
    refine wt 2 11 7 rfl z (ov_index (j := 0) es22 rfl rfl (by omega)) ?_
    refine wt 3 11 15 rfl z (ov_elem1 (k := 0) (v := .int .i64 (wF x0)) sc3 rfl (fun _ hm => ((hm.2.2.1) rfl).1) (show ([wF x0, wT x0] : List Int)[0]? = some (wF x0) from rfl) rfl rfl) ?_
    refine wt 4 11 31 rfl z (ov_move rfl) ?_
    refine wt 5 11 63 rfl z (ov_index (j := 1) es22 rfl rfl (by omega)) ?_
    refine wt 6 11 127 rfl z (ov_elem1 (k := 0) (v := .int .i64 (wT x0)) sc3 rfl (fun _ hm => ((hm.2.2.1) rfl).1) (show ([wF x0, wT x0] : List Int)[1]? = some (wT x0) from rfl) rfl rfl) ?_
    refine wt 7 11 255 rfl z (ov_build (cs := [.int .i64 (wF x0), .int .i64 (wT x0)]) rfl (by kernel_rfl)) ?_
    refine wt 8 11 511 rfl z (ov_field fo152_1 rfl rfl) ?_
    refine wt 9 11 1023 rfl z (ov_indexP (j := 0) ar150 rfl rfl (by decide) rfl) ?_
    refine wa1 10 rfl ?_
    refine wl_stores (cs' := [.string a1, .int .i64 (wF x0), .int .i64 (wT x0), .int .i64 y2, .int .i64 y3, .int .i64 y4, .int .i64 y5, .int .i64 y6, .int .i64 y7, .int .i64 y8, .int .i64 y9, .int .i64 y10, .int .i64 y11, .int .i64 y12, .int .i64 y13]) 1 rz27 rfl rfl rfl rfl rfl rfl rfl rfl ?_
    refine wl_nil ?_
    refine nw 11 2047 (fun _ hm => ⟨hm.bl 0, hm.bl 2, hm.fa 0, hm.fa 1, hm.fa 2, trivial⟩) fun z => ?_
    refine wa_done (by kernel_rfl) ?_
    refine nx_blk_nrm (nx_then (gw_region (ad_ rfl rfl ?_)))
    refine wl_set 66 (v' := .int .i64 1) rfl rfl ?_
    refine mv_ rfl (wl_nil ?_)
    exact nx_round (1, (wF x0), (wT x0), y2, y3, y4, y5, y6, y7, y8, y9, y10, y11, y12, y13) ⟨by dsimp only; omega, hall2, by rfl⟩ (by dsimp only; omega) ⟨rfl, rfl, rfl, rfl, rfl, trivial⟩ (fun _ hm => hm.pick [1, 2] [] [1, 2] rfl rfl)
   ·subst hv4
    have e9 : x1 = x := Option.some.inj hx7
    subst e9
    refine cf_ rfl (gw_skip (nx_then ?_))
    refine gd (fun wz => Blk wz g3 9 [.string ((cutD x1).1), .string ((cutD x1).2.1)] /\ Blk wz g1 152 [.string ⟨#[]⟩, .int .i64 0, .int .i64 0, .int .i64 0, .int .i64 0, .int .i64 0, .int .i64 0, .int .i64 0, .int .i64 0, .int .i64 0, .int .i64 0, .int .i64 0, .int .i64 0, .int .i64 0, .int .i64 0] /\ (fun wy => IfT true (SlT tiEnc 1 3 wy (some ⟨bnx, onx, none⟩) 2 [wF x1, wT x1] /\ 2 = 2)) wz /\ (SlOld sgEnc 1 9 w.heap.size none (some ⟨b, off, none⟩) 9 [a0, a1, x0, x1, x2, x3, x4, x5, x6]) wz /\ (TxtO w.heap.size none) wz /\ True) mixed (fun _ hm => ⟨hm.bl 0, hm.bl 2, hm.fa 0, hm.fa 1, hm.fa 2, trivial⟩) fun z => ?_
    refine wt 0 11 1 rfl z (ov_move rfl) ?_
    refine wa_set 56 (v' := .int .i64 1) rfl rfl ?_
    refine wt 1 11 3 rfl z (ov_move rfl) ?_
    refine wt 2 11 7 rfl z (ov_index (j := 0) es22 rfl rfl (by omega)) ?_
    refine wt 3 11 15 rfl z (ov_elem1 (k := 0) (v := .int .i64 (wF x1)) sc3 rfl (fun _ hm => ((hm.2.2.1) rfl).1) (show ([wF x1, wT x1] : List Int)[0]? = some (wF x1) from rfl) rfl rfl) ?_
    refine wt 4 11 31 rfl z (ov_move rfl) ?_
    refine wt 5 11 63 rfl z (ov_index (j := 1) es22 rfl rfl (by omega)) ?_
    refine wt 6 11 127 rfl z (ov_elem1 (k := 0) (v := .int .i64 (wT x1)) sc3 rfl (fun _ hm => ((hm.2.2.1) rfl).1) (show ([wF x1, wT x1] : List Int)[1]? = some (wT x1) from rfl) rfl rfl) ?_
    refine wt 7 11 255 rfl z (ov_build (cs := [.int .i64 (wF x1), .int .i64 (wT x1)]) rfl (by kernel_rfl)) ?_
    refine wt 8 11 511 rfl z (ov_field fo152_1 rfl rfl) ?_
    refine wt 9 11 1023 rfl z (ov_indexP (j := 1) ar150 rfl rfl (by decide) rfl) ?_
    refine wa1 10 rfl ?_
    refine wl_stores (cs' := [.string a1, .int .i64 y0, .int .i64 y1, .int .i64 (wF x1), .int .i64 (wT x1), .int .i64 y4, .int .i64 y5, .int .i64 y6, .int .i64 y7, .int .i64 y8, .int .i64 y9, .int .i64 y10, .int .i64 y11, .int .i64 y12, .int .i64 y13]) 1 rz27 rfl rfl rfl rfl rfl rfl rfl rfl ?_
    refine wl_nil ?_
    refine nw 11 2047 (fun _ hm => ⟨hm.bl 0, hm.bl 2, hm.fa 0, hm.fa 1, hm.fa 2, trivial⟩) fun z => ?_
    refine wa_done (by kernel_rfl) ?_
    refine nx_blk_nrm (nx_then (gw_region (ad_ rfl rfl ?_)))
    refine wl_set 66 (v' := .int .i64 2) rfl rfl ?_
    refine mv_ rfl (wl_nil ?_)
    exact nx_round (2, y0, y1, (wF x1), (wT x1), y4, y5, y6, y7, y8, y9, y10, y11, y12, y13) ⟨by dsimp only; omega, hall2, by simpa using hyv⟩ (by dsimp only; omega) ⟨rfl, rfl, rfl, rfl, rfl, trivial⟩ (fun _ hm => hm.pick [1, 2] [] [1, 2] rfl rfl)
   ·subst hv4
    have e9 : x2 = x := Option.some.inj hx7
    subst e9
    refine cf_ rfl (gw_skip (nx_then ?_))
    refine gd (fun wz => Blk wz g3 9 [.string ((cutD x2).1), .string ((cutD x2).2.1)] /\ Blk wz g1 152 [.string ⟨#[]⟩, .int .i64 0, .int .i64 0, .int .i64 0, .int .i64 0, .int .i64 0, .int .i64 0, .int .i64 0, .int .i64 0, .int .i64 0, .int .i64 0, .int .i64 0, .int .i64 0, .int .i64 0, .int .i64 0] /\ (fun wy => IfT true (SlT tiEnc 1 3 wy (some ⟨bnx, onx, none⟩) 2 [wF x2, wT x2] /\ 2 = 2)) wz /\ (SlOld sgEnc 1 9 w.heap.size none (some ⟨b, off, none⟩) 9 [a0, a1, x0, x1, x2, x3, x4, x5, x6]) wz /\ (TxtO w.heap.size none) wz /\ True) mixed (fun _ hm => ⟨hm.bl 0, hm.bl 2, hm.fa 0, hm.fa 1, hm.fa 2, trivial⟩) fun z => ?_
    refine wt 0 11 1 rfl z (ov_move rfl) ?_
    refine wa_set 56 (v' := .int .i64 2) rfl rfl ?_
    refine wt 1 11 3 rfl z (ov_move rfl) ?_
    refine wt 2 11 7 rfl z (ov_index (j := 0) es22 rfl rfl (by omega)) ?_
    refine wt 3 11 15 rfl z (ov_elem1 (k := 0) (v := .int .i64 (wF x2)) sc3 rfl (fun _ hm => ((hm.2.2.1) rfl).1) (show ([wF x2, wT x2] : List Int)[0]? = some (wF x2) from rfl) rfl rfl) ?_
    refine wt 4 11 31 rfl z (ov_move rfl) ?_
    refine wt 5 11 63 rfl z (ov_index (j := 1) es22 rfl rfl (by omega)) ?_
    refine wt 6 11 127 rfl z (ov_elem1 (k := 0) (v := .int .i64 (wT x2)) sc3 rfl (fun _ hm => ((hm.2.2.1) rfl).1) (show ([wF x2, wT x2] : List Int)[1]? = some (wT x2) from rfl) rfl rfl) ?_
    refine wt 7 11 255 rfl z (ov_build (cs := [.int .i64 (wF x2), .int .i64 (wT x2)]) rfl (by kernel_rfl)) ?_
    refine wt 8 11 511 rfl z (ov_field fo152_1 rfl rfl) ?_
    refine wt 9 11 1023 rfl z (ov_indexP (j := 2) ar150 rfl rfl (by decide) rfl) ?_
    refine wa1 10 rfl ?_
    refine wl_stores (cs' := [.string a1, .int .i64 y0, .int .i64 y1, .int .i64 y2, .int .i64 y3, .int .i64 (wF x2), .int .i64 (wT x2), .int .i64 y6, .int .i64 y7, .int .i64 y8, .int .i64 y9, .int .i64 y10, .int .i64 y11, .int .i64 y12, .int .i64 y13]) 1 rz27 rfl rfl rfl rfl rfl rfl rfl rfl ?_
    refine wl_nil ?_
    refine nw 11 2047 (fun _ hm => ⟨hm.bl 0, hm.bl 2, hm.fa 0, hm.fa 1, hm.fa 2, trivial⟩) fun z => ?_
    refine wa_done (by kernel_rfl) ?_
    refine nx_blk_nrm (nx_then (gw_region (ad_ rfl rfl ?_)))
    refine wl_set 66 (v' := .int .i64 3) rfl rfl ?_
    refine mv_ rfl (wl_nil ?_)
    exact nx_round (3, y0, y1, y2, y3, (wF x2), (wT x2), y6, y7, y8, y9, y10, y11, y12, y13) ⟨by dsimp only; omega, hall2, by simpa using hyv⟩ (by dsimp only; omega) ⟨rfl, rfl, rfl, rfl, rfl, trivial⟩ (fun _ hm => hm.pick [1, 2] [] [1, 2] rfl rfl)
   ·subst hv4
    have e9 : x3 = x := Option.some.inj hx7
    subst e9
    refine cf_ rfl (gw_skip (nx_then ?_))
    refine gd (fun wz => Blk wz g3 9 [.string ((cutD x3).1), .string ((cutD x3).2.1)] /\ Blk wz g1 152 [.string ⟨#[]⟩, .int .i64 0, .int .i64 0, .int .i64 0, .int .i64 0, .int .i64 0, .int .i64 0, .int .i64 0, .int .i64 0, .int .i64 0, .int .i64 0, .int .i64 0, .int .i64 0, .int .i64 0, .int .i64 0] /\ (fun wy => IfT true (SlT tiEnc 1 3 wy (some ⟨bnx, onx, none⟩) 2 [wF x3, wT x3] /\ 2 = 2)) wz /\ (SlOld sgEnc 1 9 w.heap.size none (some ⟨b, off, none⟩) 9 [a0, a1, x0, x1, x2, x3, x4, x5, x6]) wz /\ (TxtO w.heap.size none) wz /\ True) mixed (fun _ hm => ⟨hm.bl 0, hm.bl 2, hm.fa 0, hm.fa 1, hm.fa 2, trivial⟩) fun z => ?_
    refine wt 0 11 1 rfl z (ov_move rfl) ?_
    refine wa_set 56 (v' := .int .i64 3) rfl rfl ?_
    refine wt 1 11 3 rfl z (ov_move rfl) ?_
    refine wt 2 11 7 rfl z (ov_index (j := 0) es22 rfl rfl (by omega)) ?_
    refine wt 3 11 15 rfl z (ov_elem1 (k := 0) (v := .int .i64 (wF x3)) sc3 rfl (fun _ hm => ((hm.2.2.1) rfl).1) (show ([wF x3, wT x3] : List Int)[0]? = some (wF x3) from rfl) rfl rfl) ?_
    refine wt 4 11 31 rfl z (ov_move rfl) ?_
    refine wt 5 11 63 rfl z (ov_index (j := 1) es22 rfl rfl (by omega)) ?_
    refine wt 6 11 127 rfl z (ov_elem1 (k := 0) (v := .int .i64 (wT x3)) sc3 rfl (fun _ hm => ((hm.2.2.1) rfl).1) (show ([wF x3, wT x3] : List Int)[1]? = some (wT x3) from rfl) rfl rfl) ?_
    refine wt 7 11 255 rfl z (ov_build (cs := [.int .i64 (wF x3), .int .i64 (wT x3)]) rfl (by kernel_rfl)) ?_
    refine wt 8 11 511 rfl z (ov_field fo152_1 rfl rfl) ?_
    refine wt 9 11 1023 rfl z (ov_indexP (j := 3) ar150 rfl rfl (by decide) rfl) ?_
    refine wa1 10 rfl ?_
    refine wl_stores (cs' := [.string a1, .int .i64 y0, .int .i64 y1, .int .i64 y2, .int .i64 y3, .int .i64 y4, .int .i64 y5, .int .i64 (wF x3), .int .i64 (wT x3), .int .i64 y8, .int .i64 y9, .int .i64 y10, .int .i64 y11, .int .i64 y12, .int .i64 y13]) 1 rz27 rfl rfl rfl rfl rfl rfl rfl rfl ?_
    refine wl_nil ?_
    refine nw 11 2047 (fun _ hm => ⟨hm.bl 0, hm.bl 2, hm.fa 0, hm.fa 1, hm.fa 2, trivial⟩) fun z => ?_
    refine wa_done (by kernel_rfl) ?_
    refine nx_blk_nrm (nx_then (gw_region (ad_ rfl rfl ?_)))
    refine wl_set 66 (v' := .int .i64 4) rfl rfl ?_
    refine mv_ rfl (wl_nil ?_)
    exact nx_round (4, y0, y1, y2, y3, y4, y5, (wF x3), (wT x3), y8, y9, y10, y11, y12, y13) ⟨by dsimp only; omega, hall2, by simpa using hyv⟩ (by dsimp only; omega) ⟨rfl, rfl, rfl, rfl, rfl, trivial⟩ (fun _ hm => hm.pick [1, 2] [] [1, 2] rfl rfl)
   ·subst hv4
    have e9 : x4 = x := Option.some.inj hx7
    subst e9
    refine cf_ rfl (gw_skip (nx_then ?_))
    refine gd (fun wz => Blk wz g3 9 [.string ((cutD x4).1), .string ((cutD x4).2.1)] /\ Blk wz g1 152 [.string ⟨#[]⟩, .int .i64 0, .int .i64 0, .int .i64 0, .int .i64 0, .int .i64 0, .int .i64 0, .int .i64 0, .int .i64 0, .int .i64 0, .int .i64 0, .int .i64 0, .int .i64 0, .int .i64 0, .int .i64 0] /\ (fun wy => IfT true (SlT tiEnc 1 3 wy (some ⟨bnx, onx, none⟩) 2 [wF x4, wT x4] /\ 2 = 2)) wz /\ (SlOld sgEnc 1 9 w.heap.size none (some ⟨b, off, none⟩) 9 [a0, a1, x0, x1, x2, x3, x4, x5, x6]) wz /\ (TxtO w.heap.size none) wz /\ True) mixed (fun _ hm => ⟨hm.bl 0, hm.bl 2, hm.fa 0, hm.fa 1, hm.fa 2, trivial⟩) fun z => ?_
    refine wt 0 11 1 rfl z (ov_move rfl) ?_
    refine wa_set 56 (v' := .int .i64 4) rfl rfl ?_
    refine wt 1 11 3 rfl z (ov_move rfl) ?_
    refine wt 2 11 7 rfl z (ov_index (j := 0) es22 rfl rfl (by omega)) ?_
    refine wt 3 11 15 rfl z (ov_elem1 (k := 0) (v := .int .i64 (wF x4)) sc3 rfl (fun _ hm => ((hm.2.2.1) rfl).1) (show ([wF x4, wT x4] : List Int)[0]? = some (wF x4) from rfl) rfl rfl) ?_
    refine wt 4 11 31 rfl z (ov_move rfl) ?_
    refine wt 5 11 63 rfl z (ov_index (j := 1) es22 rfl rfl (by omega)) ?_
    refine wt 6 11 127 rfl z (ov_elem1 (k := 0) (v := .int .i64 (wT x4)) sc3 rfl (fun _ hm => ((hm.2.2.1) rfl).1) (show ([wF x4, wT x4] : List Int)[1]? = some (wT x4) from rfl) rfl rfl) ?_
    refine wt 7 11 255 rfl z (ov_build (cs := [.int .i64 (wF x4), .int .i64 (wT x4)]) rfl (by kernel_rfl)) ?_
    refine wt 8 11 511 rfl z (ov_field fo152_1 rfl rfl) ?_
    refine wt 9 11 1023 rfl z (ov_indexP (j := 4) ar150 rfl rfl (by decide) rfl) ?_
    refine wa1 10 rfl ?_
    refine wl_stores (cs' := [.string a1, .int .i64 y0, .int .i64 y1, .int .i64 y2, .int .i64 y3, .int .i64 y4, .int .i64 y5, .int .i64 y6, .int .i64 y7, .int .i64 (wF x4), .int .i64 (wT x4), .int .i64 y10, .int .i64 y11, .int .i64 y12, .int .i64 y13]) 1 rz27 rfl rfl rfl rfl rfl rfl rfl rfl ?_
    refine wl_nil ?_
    refine nw 11 2047 (fun _ hm => ⟨hm.bl 0, hm.bl 2, hm.fa 0, hm.fa 1, hm.fa 2, trivial⟩) fun z => ?_
    refine wa_done (by kernel_rfl) ?_
    refine nx_blk_nrm (nx_then (gw_region (ad_ rfl rfl ?_)))
    refine wl_set 66 (v' := .int .i64 5) rfl rfl ?_
    refine mv_ rfl (wl_nil ?_)
    exact nx_round (5, y0, y1, y2, y3, y4, y5, y6, y7, (wF x4), (wT x4), y10, y11, y12, y13) ⟨by dsimp only; omega, hall2, by simpa using hyv⟩ (by dsimp only; omega) ⟨rfl, rfl, rfl, rfl, rfl, trivial⟩ (fun _ hm => hm.pick [1, 2] [] [1, 2] rfl rfl)
   ·subst hv4
    have e9 : x5 = x := Option.some.inj hx7
    subst e9
    refine cf_ rfl (gw_skip (nx_then ?_))
    refine gd (fun wz => Blk wz g3 9 [.string ((cutD x5).1), .string ((cutD x5).2.1)] /\ Blk wz g1 152 [.string ⟨#[]⟩, .int .i64 0, .int .i64 0, .int .i64 0, .int .i64 0, .int .i64 0, .int .i64 0, .int .i64 0, .int .i64 0, .int .i64 0, .int .i64 0, .int .i64 0, .int .i64 0, .int .i64 0, .int .i64 0] /\ (fun wy => IfT true (SlT tiEnc 1 3 wy (some ⟨bnx, onx, none⟩) 2 [wF x5, wT x5] /\ 2 = 2)) wz /\ (SlOld sgEnc 1 9 w.heap.size none (some ⟨b, off, none⟩) 9 [a0, a1, x0, x1, x2, x3, x4, x5, x6]) wz /\ (TxtO w.heap.size none) wz /\ True) mixed (fun _ hm => ⟨hm.bl 0, hm.bl 2, hm.fa 0, hm.fa 1, hm.fa 2, trivial⟩) fun z => ?_
    refine wt 0 11 1 rfl z (ov_move rfl) ?_
    refine wa_set 56 (v' := .int .i64 5) rfl rfl ?_
    refine wt 1 11 3 rfl z (ov_move rfl) ?_
    refine wt 2 11 7 rfl z (ov_index (j := 0) es22 rfl rfl (by omega)) ?_
    refine wt 3 11 15 rfl z (ov_elem1 (k := 0) (v := .int .i64 (wF x5)) sc3 rfl (fun _ hm => ((hm.2.2.1) rfl).1) (show ([wF x5, wT x5] : List Int)[0]? = some (wF x5) from rfl) rfl rfl) ?_
    refine wt 4 11 31 rfl z (ov_move rfl) ?_
    refine wt 5 11 63 rfl z (ov_index (j := 1) es22 rfl rfl (by omega)) ?_
    refine wt 6 11 127 rfl z (ov_elem1 (k := 0) (v := .int .i64 (wT x5)) sc3 rfl (fun _ hm => ((hm.2.2.1) rfl).1) (show ([wF x5, wT x5] : List Int)[1]? = some (wT x5) from rfl) rfl rfl) ?_
    refine wt 7 11 255 rfl z (ov_build (cs := [.int .i64 (wF x5), .int .i64 (wT x5)]) rfl (by kernel_rfl)) ?_
    refine wt 8 11 511 rfl z (ov_field fo152_1 rfl rfl) ?_
    refine wt 9 11 1023 rfl z (ov_indexP (j := 5) ar150 rfl rfl (by decide) rfl) ?_
    refine wa1 10 rfl ?_
    refine wl_stores (cs' := [.string a1, .int .i64 y0, .int .i64 y1, .int .i64 y2, .int .i64 y3, .int .i64 y4, .int .i64 y5, .int .i64 y6, .int .i64 y7, .int .i64 y8, .int .i64 y9, .int .i64 (wF x5), .int .i64 (wT x5), .int .i64 y12, .int .i64 y13]) 1 rz27 rfl rfl rfl rfl rfl rfl rfl rfl ?_
    refine wl_nil ?_
    refine nw 11 2047 (fun _ hm => ⟨hm.bl 0, hm.bl 2, hm.fa 0, hm.fa 1, hm.fa 2, trivial⟩) fun z => ?_
    refine wa_done (by kernel_rfl) ?_
    refine nx_blk_nrm (nx_then (gw_region (ad_ rfl rfl ?_)))
    refine wl_set 66 (v' := .int .i64 6) rfl rfl ?_
    refine mv_ rfl (wl_nil ?_)
    exact nx_round (6, y0, y1, y2, y3, y4, y5, y6, y7, y8, y9, (wF x5), (wT x5), y12, y13) ⟨by dsimp only; omega, hall2, by simpa using hyv⟩ (by dsimp only; omega) ⟨rfl, rfl, rfl, rfl, rfl, trivial⟩ (fun _ hm => hm.pick [1, 2] [] [1, 2] rfl rfl)
   subst hv4
   have e9 : x6 = x := Option.some.inj hx7
   subst e9
   refine cf_ rfl (gw_skip (nx_then ?_))
   refine gd (fun wz => Blk wz g3 9 [.string ((cutD x6).1), .string ((cutD x6).2.1)] /\ Blk wz g1 152 [.string ⟨#[]⟩, .int .i64 0, .int .i64 0, .int .i64 0, .int .i64 0, .int .i64 0, .int .i64 0, .int .i64 0, .int .i64 0, .int .i64 0, .int .i64 0, .int .i64 0, .int .i64 0, .int .i64 0, .int .i64 0] /\ (fun wy => IfT true (SlT tiEnc 1 3 wy (some ⟨bnx, onx, none⟩) 2 [wF x6, wT x6] /\ 2 = 2)) wz /\ (SlOld sgEnc 1 9 w.heap.size none (some ⟨b, off, none⟩) 9 [a0, a1, x0, x1, x2, x3, x4, x5, x6]) wz /\ (TxtO w.heap.size none) wz /\ True) mixed (fun _ hm => ⟨hm.bl 0, hm.bl 2, hm.fa 0, hm.fa 1, hm.fa 2, trivial⟩) fun z => ?_
   refine wt 0 11 1 rfl z (ov_move rfl) ?_
   refine wa_set 56 (v' := .int .i64 6) rfl rfl ?_
   refine wt 1 11 3 rfl z (ov_move rfl) ?_
   refine wt 2 11 7 rfl z (ov_index (j := 0) es22 rfl rfl (by omega)) ?_
   refine wt 3 11 15 rfl z (ov_elem1 (k := 0) (v := .int .i64 (wF x6)) sc3 rfl (fun _ hm => ((hm.2.2.1) rfl).1) (show ([wF x6, wT x6] : List Int)[0]? = some (wF x6) from rfl) rfl rfl) ?_
   refine wt 4 11 31 rfl z (ov_move rfl) ?_
   refine wt 5 11 63 rfl z (ov_index (j := 1) es22 rfl rfl (by omega)) ?_
   refine wt 6 11 127 rfl z (ov_elem1 (k := 0) (v := .int .i64 (wT x6)) sc3 rfl (fun _ hm => ((hm.2.2.1) rfl).1) (show ([wF x6, wT x6] : List Int)[1]? = some (wT x6) from rfl) rfl rfl) ?_
   refine wt 7 11 255 rfl z (ov_build (cs := [.int .i64 (wF x6), .int .i64 (wT x6)]) rfl (by kernel_rfl)) ?_
   refine wt 8 11 511 rfl z (ov_field fo152_1 rfl rfl) ?_
   refine wt 9 11 1023 rfl z (ov_indexP (j := 6) ar150 rfl rfl (by decide) rfl) ?_
   refine wa1 10 rfl ?_
   refine wl_stores (cs' := [.string a1, .int .i64 y0, .int .i64 y1, .int .i64 y2, .int .i64 y3, .int .i64 y4, .int .i64 y5, .int .i64 y6, .int .i64 y7, .int .i64 y8, .int .i64 y9, .int .i64 y10, .int .i64 y11, .int .i64 (wF x6), .int .i64 (wT x6)]) 1 rz27 rfl rfl rfl rfl rfl rfl rfl rfl ?_
   refine wl_nil ?_
   refine nw 11 2047 (fun _ hm => ⟨hm.bl 0, hm.bl 2, hm.fa 0, hm.fa 1, hm.fa 2, trivial⟩) fun z => ?_
   refine wa_done (by kernel_rfl) ?_
   refine nx_blk_nrm (nx_then (gw_region (ad_ rfl rfl ?_)))
   refine wl_set 66 (v' := .int .i64 7) rfl rfl ?_
   refine mv_ rfl (wl_nil ?_)
   exact nx_round (7, y0, y1, y2, y3, y4, y5, y6, y7, y8, y9, y10, y11, (wF x6), (wT x6)) ⟨by dsimp only; omega, hall2, by simpa using hyv⟩ (by dsimp only; omega) ⟨rfl, rfl, rfl, rfl, rfl, trivial⟩ (fun _ hm => hm.pick [1, 2] [] [1, 2] rfl rfl)
  have hb2x : NBx = false := by simpa using hbx
  refine wl_guard_on rfl rfl rfl (mv_ rfl (wl_guard_on rfl rfl rfl (wl_ov (ov_un_not rfl) rfl (pf_ rfl rfl (mv_ rfl ?_)))))
  refine wl_set 43 (v' := .bool true) rfl (congrArg Value.bool (by rw [hb2x]; rfl)) ?_
  refine goff rfl rfl rfl (goff rfl rfl rfl (goff rfl rfl rfl (goff rfl rfl rfl (pt_ rfl rfl (mv_ rfl (goff rfl rfl rfl (goff rfl rfl rfl (goff rfl rfl rfl (goff rfl rfl rfl (pt_ rfl rfl (nn_ (ct_ rfl ?_))))))))))))
  refine sr_ ?_
  refine wl_ov (ov_loads rz152 rfl (fun _ hm => hm.blkI 1 rfl) rfl rfl) rfl ?_
  refine wl_stores (cs' := [.string a1, .int .i64 y0, .int .i64 y1, .int .i64 y2, .int .i64 y3, .int .i64 y4, .int .i64 y5, .int .i64 y6, .int .i64 y7, .int .i64 y8, .int .i64 y9, .int .i64 y10, .int .i64 y11, .int .i64 y12, .int .i64 y13]) 2 rz152 rfl rfl rfl rfl rfl rfl rfl rfl ?_
  refine sg_ rfl (nn_ ?_)
  refine gw_ret ?_
  refine nx_then_ret (nx_blk_ret (nx_then_ret (nx_then_ret (nx_blk_ret (nx_then_ret ?_)))))
  have hF : [x0, x1, x2, x3, x4, x5, x6].all winB = false := all_no hx7 (win_no2 (hNBx.symm.trans hb2x))
  refine nx_retct 2 rfl rz152 rfl rfl rfl rfl fun wx hm => ?_
  exact ⟨a1, y0, y1, y2, y3, y4, y5, y6, y7, y8, y9, y10, y11, y12, y13, by rw [hF], fun h => (by rw [hF] at h; cases h), hm.g⟩
 have hj : ¬ (((j : Nat) : Int) < 7) := by simpa using hh
 clear hh
 refine gw_exit ?_
 refine nx_then_exit (nx_then_exit ?_)
 refine nx_blk_here ?_
 refine nx_then (sr_ ?_)
 obtain rfl : j = 7 := by omega
 have hA : [x0, x1, x2, x3, x4, x5, x6].all winB = true := hall
 replace hyv : ([y0, y1, y2, y3, y4, y5, y6, y7, y8, y9, y10, y11, y12, y13] : List Int) = [wF x0, wT x0, wF x1, wT x1, wF x2, wT x2, wF x3, wT x3, wF x4, wT x4, wF x5, wT x5, wF x6, wT x6] := hyv
 simp only [List.cons.injEq] at hyv
 obtain ⟨rfl, rfl, rfl, rfl, rfl, rfl, rfl, rfl, rfl, rfl, rfl, rfl, rfl, rfl, -⟩ := hyv
 refine wl_ov (ov_loads rz152 rfl (fun _ hm => hm.blkI 0 rfl) rfl rfl) rfl ?_
 refine wl_stores (cs' := [.string a1, .int .i64 (wF x0), .int .i64 (wT x0), .int .i64 (wF x1), .int .i64 (wT x1), .int .i64 (wF x2), .int .i64 (wT x2), .int .i64 (wF x3), .int .i64 (wT x3), .int .i64 (wF x4), .int .i64 (wT x4), .int .i64 (wF x5), .int .i64 (wT x5), .int .i64 (wF x6), .int .i64 (wT x6)]) 1 rz152 rfl rfl rfl rfl rfl rfl rfl rfl ?_
 refine sg_ rfl (nn_ ?_)
 refine gw_ret ?_
 refine nx_retct 1 rfl rz152 rfl rfl rfl rfl fun wx hm => ?_
 exact ⟨a1, (wF x0), (wT x0), (wF x1), (wT x1), (wF x2), (wT x2), (wF x3), (wT x3), (wF x4), (wT x4), (wF x5), (wT x5), (wF x6), (wT x6), by rw [hA], fun _ => rfl, hm.g⟩
def fpL (gf gl gr : Nat) (la : Int) (v1 v2 v3 v4 : Value) : List (Nat × TypeId × List Value) := [(gf, 62, [v1, v2, v3, v4]), (gl, 3, [.int .i64 la]), (gr, 62, [.slice none 0 0, .slice none 0 0, .slice none 0 0, .slice none 0 0])]
def fpO (q : List St × List Cs × List Vh × List Pl) (v1 v2 v3 v4 : Value) : List Own := [⟨v1, 152, 15, q.1.length, q.1.flatMap stEnc⟩, ⟨v2, 158, 2, q.2.1.length, q.2.1.flatMap csEnc⟩, ⟨v3, 160, 2, q.2.2.1.length, q.2.2.1.flatMap vhEnc⟩, ⟨v4, 162, 3, q.2.2.2.length, q.2.2.2.flatMap plEnc⟩]
theorem take_w (t : ByteArray) (w0 w : World) (gf gl gr : Nat) (la : Int) (v1 v2 v3 v4 : Value) (sl : List St) (cl : List Cs) (vl : List Vh) (pl : List Pl) (hts : t.size <= 1000000) (bsl : sl.length <= 1000000) (bcl : cl.length <= 1000000) (bvl : vl.length <= 1000000) (bpl : pl.length <= 1000000) (hm : Mem ⟨0, w0, none, [9]⟩ (fun _ => True) (fpL gf gl gr la v1 v2 v3 v4) (fpO (sl, cl, vl, pl) v1 v2 v3 v4) [TxtO w0.heap.size none] w) :
  Calls Tryz.prog 110 #[.pointer (some ⟨gf, 0, none⟩), .string t] w (fun e w' => ∃ (u1 u2 u3 u4 : Value) (q : List St × List Cs × List Vh × List Pl), e = .returned (.int .i64 (itK (fIt t))) /\ (∀ x, fIt t = some x -> q = f4 (fPush ⟨sl, cl, vl, pl, 0⟩ x)) /\ Mem ⟨0, w0, none, [9]⟩ (fun _ => True) (fpL gf gl gr la u1 u2 u3 u4) (fpO q u1 u2 u3 u4) [TxtO w0.heap.size none] w') := by
 replace hm : Mem ⟨0, w0, none, [9]⟩ (fun _ => True) [(gf, 62, [v1, v2, v3, v4]), (gl, 3, [.int .i64 la]), (gr, 62, [.slice none 0 0, .slice none 0 0, .slice none 0 0, .slice none 0 0])] [⟨v1, 152, 15, sl.length, sl.flatMap stEnc⟩, ⟨v2, 158, 2, cl.length, cl.flatMap csEnc⟩, ⟨v3, 160, 2, vl.length, vl.flatMap vhEnc⟩, ⟨v4, 162, 3, pl.length, pl.flatMap plEnc⟩] [TxtO w0.heap.size none] w := hm
 refine gw_enter ⟨140, w0, none, [9]⟩ Tryz.func110 rfl Tryz.ntmps110 rfl hm.cx ?_
 refine sr_ ?_
 have hpos := wd_pos t
 have hwz : ∀ y ∈ wdL t, y.size <= 1000000 := fun y hy => Nat.le_trans (wdL_sz t y hy) hts
 obtain ⟨a0, hx0⟩ : ∃ x, (wdL t)[0]? = some x := ⟨_, List.getElem?_eq_getElem (by omega)⟩
 rcases a0_cases a0 with h | h | h | h | ⟨n1, n2, n3, n4⟩
 ·subst h
  by_cases hN : (wdL t).length = 9
  ·obtain ⟨a0, a1, x0, x1, x2, x3, x4, x5, x6, hw⟩ := list9f hN
   have hb0 : a0 = stW := by rw [hw] at hx0; simpa using hx0
   subst hb0
   rw [hw] at hwz
   have za1 : a1.size <= 1000000 := hwz a1 (by simp)
   have zx0 : x0.size <= 1000000 := hwz x0 (by simp)
   have zx1 : x1.size <= 1000000 := hwz x1 (by simp)
   have zx2 : x2.size <= 1000000 := hwz x2 (by simp)
   have zx3 : x3.size <= 1000000 := hwz x3 (by simp)
   have zx4 : x4.size <= 1000000 := hwz x4 (by simp)
   have zx5 : x5.size <= 1000000 := hwz x5 (by simp)
   have zx6 : x6.size <= 1000000 := hwz x6 (by simp)
   refine sg_ rfl (nn_ (sr_ (mv_ rfl ?_)))
   refine wl_callx (γ := Nat × Nat) (val := (fun g => .tuple #[.slice (some ⟨g.1, 0, none⟩) g.2 g.2, .bool (wdB t)])) (φ := (fun g => g.2 = 9)) (Y := (fun g => fun wy => SlT sgEnc 1 9 wy (some ⟨g.1, 0, none⟩) g.2 ([stW, a1, x0, x1, x2, x3, x4, x5, x6]))) rfl cb77 rfl rfl (fun wx hm => (words_any t wx (hm.fact 0 rfl).1 hts).mono fun _ _ ⟨gw, k, he, h1, h2, hg⟩ => ⟨(gw, k), he, by have h := h1.len; rw [hw] at h; exact h.symm, hg, by rw [hw] at h1; exact h1⟩) (fun _ => SlT.lasts2 rfl) ?_
   rintro ⟨gw, kw⟩ hkw
   dsimp only at hkw ⊢
   subst hkw
   refine mv_ rfl (wl_ov (ov_extract rfl rfl) rfl (wl_ov (ov_extract rfl rfl) rfl (sg_ rfl (sg_ rfl (nn_ (gw_seq (gw_block (sr_ (mv_ rfl (wl_ov (ov_un_not rfl) rfl (sg_ rfl ?_)))))))))))
   refine nn_ ?_
   rcases Bool.eq_false_or_eq_true (!(wdB t)) with h1 | h1
   ·refine gw_set 17 rfl (congrArg Value.bool h1) ?_
    refine ct_ rfl (sr_ (sg_ rfl (nn_ ?_)))
    refine gw_ret ?_
    refine nx_blk_ret (nx_then_ret ?_)
    refine nx_ret1 rfl rfl fun wx hm => ?_
    exact ⟨v1, v2, v3, v4, (sl, cl, vl, pl), by rw [fIt_wd h1]; rfl, (fun x hx => by rw [fIt_wd h1] at hx; cases hx), (hm.pick [0, 1, 2] [0, 1, 2, 3] [1] rfl rfl).cx⟩
   refine gw_set 17 rfl (congrArg Value.bool h1) ?_
   have hI := fIt_go h1
   rw [hw] at hI
   refine cf_ rfl (sr_ (mv_ rfl ?_))
   refine wl_ov (ov_index (j := 0) es103 rfl rfl (by omega)) rfl ?_
   refine wl_ov (ov_elem1 (k := 0) (v := .string ⟨#[115, 116, 97, 116, 105, 111, 110]⟩) sc9 rfl (fun _ hm => (hm.fact 0 rfl)) (show ([stW, a1, x0, x1, x2, x3, x4, x5, x6] : List ByteArray)[0]? = some stW from rfl) rfl rfl) rfl ?_
   refine wl_ov (ov_seql rfl rfl) rfl ?_
   refine wl_set 24 (v' := .bool true) rfl (congrArg Value.bool (by decide +kernel)) ?_
   refine mv_ rfl (wl_guard_on rfl rfl rfl (mv_ rfl (wl_guard_on rfl rfl rfl (wl_ov (ov_len es103 rfl) rfl ?_))))
   refine wl_set 27 (v' := .int .i64 9) rfl rfl ?_
   refine wl_guard_on rfl rfl rfl (wl_ov (ov_eql rfl rfl) rfl ?_)
   refine wl_set 28 (v' := .bool true) rfl (congrArg Value.bool (by decide)) ?_
   refine pt_ rfl rfl (sg_ rfl (nn_ (ct_ rfl (sr_ (mv_ rfl ?_)))))
   obtain ⟨AW, hAW⟩ : ∃ z, z = [x0, x1, x2, x3, x4, x5, x6].all winB := ⟨_, rfl⟩
   refine wl_callx (γ := ByteArray × Int × Int × Int × Int × Int × Int × Int × Int × Int × Int × Int × Int × Int × Int) (val := (fun g => .tuple #[.agg #[.string g.1, .int .i64 g.2.1, .int .i64 g.2.2.1, .int .i64 g.2.2.2.1, .int .i64 g.2.2.2.2.1, .int .i64 g.2.2.2.2.2.1, .int .i64 g.2.2.2.2.2.2.1, .int .i64 g.2.2.2.2.2.2.2.1, .int .i64 g.2.2.2.2.2.2.2.2.1, .int .i64 g.2.2.2.2.2.2.2.2.2.1, .int .i64 g.2.2.2.2.2.2.2.2.2.2.1, .int .i64 g.2.2.2.2.2.2.2.2.2.2.2.1, .int .i64 g.2.2.2.2.2.2.2.2.2.2.2.2.1, .int .i64 g.2.2.2.2.2.2.2.2.2.2.2.2.2.1, .int .i64 g.2.2.2.2.2.2.2.2.2.2.2.2.2.2], .bool AW])) (φ := (fun g => AW = true -> (⟨g.1, [g.2.1, g.2.2.1, g.2.2.2.1, g.2.2.2.2.1, g.2.2.2.2.2.1, g.2.2.2.2.2.2.1, g.2.2.2.2.2.2.2.1, g.2.2.2.2.2.2.2.2.1, g.2.2.2.2.2.2.2.2.2.1, g.2.2.2.2.2.2.2.2.2.2.1, g.2.2.2.2.2.2.2.2.2.2.2.1, g.2.2.2.2.2.2.2.2.2.2.2.2.1, g.2.2.2.2.2.2.2.2.2.2.2.2.2.1, g.2.2.2.2.2.2.2.2.2.2.2.2.2.2]⟩ : St) = stOf a1 x0 x1 x2 x3 x4 x5 x6)) (Y := (fun g => fun _ => True)) rfl cb211 rfl rfl (fun wx hm => (by have h := station_w stW a1 x0 x1 x2 x3 x4 x5 x6 (some ⟨gw, 0, none⟩) wx (hm.fact 1 rfl).1 (hm.fact 0 rfl) zx0 zx1 zx2 zx3 zx4 zx5 zx6; rw [<- hAW] at h; exact h.mono fun _ _ ⟨k, m0, m1, m2, m3, m4, m5, m6, m7, m8, m9, m10, m11, m12, m13, he, h1, hg⟩ => ⟨(k, m0, m1, m2, m3, m4, m5, m6, m7, m8, m9, m10, m11, m12, m13), he, h1, hg, trivial⟩)) (fun _ => Lasts2.true_) ?_
   rintro ⟨k, m0, m1, m2, m3, m4, m5, m6, m7, m8, m9, m10, m11, m12, m13⟩ hst
   dsimp only at hst ⊢
   by_cases hA : AW = true
   ·subst hA
    rw [item_st hAW.symm, <- hst rfl] at hI
    refine wl_look (R := ∃ A cc, v1 = .slice A sl.length cc) (fun wx hm => own_slice (hm.ownI 0 rfl)) ?_
    rintro ⟨A_, c_, rfl⟩
    refine mv_ rfl (wl_ov (ov_extract rfl rfl) rfl (wl_ov (ov_extract rfl rfl) rfl ?_))
    refine wl_alloc zc152 rfl fun g3 => ?_
    refine wl_stores (cs' := [.string k, .int .i64 m0, .int .i64 m1, .int .i64 m2, .int .i64 m3, .int .i64 m4, .int .i64 m5, .int .i64 m6, .int .i64 m7, .int .i64 m8, .int .i64 m9, .int .i64 m10, .int .i64 m11, .int .i64 m12, .int .i64 m13]) 0 rz152 rfl rfl rfl rfl rfl rfl rfl rfl ?_
    refine sg_ rfl (nn_ (gw_seq (sr_ (mv_ rfl (wl_ov (ov_un_not rfl) rfl ?_)))))
    refine wl_set 36 (v' := .bool false) rfl (congrArg Value.bool (by decide)) ?_
    refine nn_ (cf_ rfl (gw_skip (nx_then (gw_seq ?_))))
    refine gd (fun wz => Blk wz g3 152 [.string k, .int .i64 m0, .int .i64 m1, .int .i64 m2, .int .i64 m3, .int .i64 m4, .int .i64 m5, .int .i64 m6, .int .i64 m7, .int .i64 m8, .int .i64 m9, .int .i64 m10, .int .i64 m11, .int .i64 m12, .int .i64 m13] /\ Blk wz gl 3 [.int .i64 la] /\ Blk wz gr 62 [.slice none 0 0, .slice none 0 0, .slice none 0 0, .slice none 0 0] /\ (fun _ => True) wz /\ (fun wy => SlT sgEnc 1 9 wy (some ⟨gw, 0, none⟩) 9 ([stW, a1, x0, x1, x2, x3, x4, x5, x6])) wz /\ (TxtO w0.heap.size none) wz /\ True) mixed (fun _ hm => ⟨hm.bl 0, hm.bl 2, hm.bl 3, hm.fa 0, hm.fa 1, hm.fa 2, trivial⟩) fun z => ?_
    refine wt 0 11 1 rfl z (ov_move rfl) ?_
    refine wt 1 11 3 rfl z (ov_move rfl) ?_
    refine wt 2 11 7 rfl z (ov_nilcheck rfl) ?_
    refine wt 3 11 15 rfl z (ov_field fo62_0 rfl rfl) ?_
    refine wt 5 11 47 rfl z (ov_loads rz152 rfl (fun _ hm => hm.1) rfl rfl) ?_
    refine wa_all [4, 6] (by kernel_rfl) rfl ⟨⟨_, rfl, ?_⟩, ⟨_, rfl, ?_⟩, trivial⟩
    ·refine lk_ sc57 1 rfl rfl rfl (wl_nil ?_)
     refine nw 11 63 (fun _ hm => ⟨hm.bl 0, hm.bl 2, hm.bl 3, hm.fa 0, hm.fa 1, hm.fa 2, trivial⟩) fun z => ?_
     refine wa1 6 rfl ?_
     refine wl_buildSlice (e := 152) (cs := [.string k, .int .i64 m0, .int .i64 m1, .int .i64 m2, .int .i64 m3, .int .i64 m4, .int .i64 m5, .int .i64 m6, .int .i64 m7, .int .i64 m8, .int .i64 m9, .int .i64 m10, .int .i64 m11, .int .i64 m12, .int .i64 m13]) rfl (by kernel_rfl) rfl fun g4 => ?_
     refine wl_nil ?_
     refine nw 11 127 (fun _ hm => ⟨hm.bl 1, hm.bl 3, hm.bl 4, hm.fa 0, hm.fa 1, hm.fa 2, trivial⟩) fun z => ?_
     refine wa1 7 rfl ?_
     refine wl_append (news := [.string k, .int .i64 m0, .int .i64 m1, .int .i64 m2, .int .i64 m3, .int .i64 m4, .int .i64 m5, .int .i64 m6, .int .i64 m7, .int .i64 m8, .int .i64 m9, .int .i64 m10, .int .i64 m11, .int .i64 m12, .int .i64 m13]) 0 0 ap57 rfl rfl rfl rfl rfl rfl rfl (by omega) (by unfold maxLen; omega) rfl rfl fun v9 hv => ?_
     refine wl_look (R := ∃ A cc, v9 = .slice A (sl.length + 1) cc) (fun wx hm => own_slice (hm.ownI 0 rfl)) ?_
     rintro ⟨A5, c5, rfl⟩
     refine wl_nil ?_
     refine nw 11 255 (fun _ hm => ⟨hm.bl 1, hm.bl 3, hm.bl 4, hm.fa 0, hm.fa 1, hm.fa 2, trivial⟩) fun z => ?_
     refine wt 8 11 511 rfl z (ov_nilcheck rfl) ?_
     refine wt 9 11 1023 rfl z (ov_field fo62_0 rfl rfl) ?_
     refine wa1 10 rfl ?_
     refine wl_store 2 sc57 rfl rfl rfl rfl rfl rfl ?_
     refine wl_nil ?_
     refine nw 11 2047 (fun _ hm => ⟨hm.bl 1, hm.bl 3, hm.bl 4, hm.fa 0, hm.fa 1, hm.fa 2, trivial⟩) fun z => ?_
     refine wa_done (by kernel_rfl) ?_
     refine nx_then (sr_ (sg_ rfl (nn_ ?_)))
     refine gw_ret ?_
     refine nx_blk_ret (nx_then_ret ?_)
     rw [show sl.flatMap stEnc ++ ([.string k, .int .i64 m0, .int .i64 m1, .int .i64 m2, .int .i64 m3, .int .i64 m4, .int .i64 m5, .int .i64 m6, .int .i64 m7, .int .i64 m8, .int .i64 m9, .int .i64 m10, .int .i64 m11, .int .i64 m12, .int .i64 m13] : List Value) = (sl ++ [((⟨k, [m0, m1, m2, m3, m4, m5, m6, m7, m8, m9, m10, m11, m12, m13]⟩ : St))]).flatMap stEnc from by simp [stEnc, stCells]]
     refine nx_ret1 rfl rfl fun wx hm => ?_
     refine ⟨.slice A5 (sl.length + 1) c5, v2, v3, v4, (sl ++ [(⟨k, [m0, m1, m2, m3, m4, m5, m6, m7, m8, m9, m10, m11, m12, m13]⟩ : St)], cl, vl, pl), by rw [hI]; rfl, (fun x hx => by rw [hI] at hx; cases hx; rfl), ?_⟩
     have e9 : (sl ++ [(⟨k, [m0, m1, m2, m3, m4, m5, m6, m7, m8, m9, m10, m11, m12, m13]⟩ : St)]).length = sl.length + 1 := by simp
     show Mem ⟨0, w0, none, [9]⟩ (fun _ => True) (fpL gf gl gr la (.slice A5 (sl.length + 1) c5) v2 v3 v4) [⟨.slice A5 (sl.length + 1) c5, 152, 15, (sl ++ [(⟨k, [m0, m1, m2, m3, m4, m5, m6, m7, m8, m9, m10, m11, m12, m13]⟩ : St)]).length, (sl ++ [(⟨k, [m0, m1, m2, m3, m4, m5, m6, m7, m8, m9, m10, m11, m12, m13]⟩ : St)]).flatMap stEnc⟩, ⟨v2, 158, 2, (cl).length, (cl).flatMap csEnc⟩, ⟨v3, 160, 2, (vl).length, (vl).flatMap vhEnc⟩, ⟨v4, 162, 3, (pl).length, (pl).flatMap plEnc⟩] [TxtO w0.heap.size none] _
     rw [e9]
     exact (hm.pick [2, 3, 4] [0, 1, 2, 3] [2] rfl rfl).cx
    refine wl_buildSlice (e := 152) (cs := [.string k, .int .i64 m0, .int .i64 m1, .int .i64 m2, .int .i64 m3, .int .i64 m4, .int .i64 m5, .int .i64 m6, .int .i64 m7, .int .i64 m8, .int .i64 m9, .int .i64 m10, .int .i64 m11, .int .i64 m12, .int .i64 m13]) rfl (by kernel_rfl) rfl fun g5 => ?_
    refine wl_nil ?_
    refine nw 11 111 (fun _ hm => ⟨hm.bl 1, hm.bl 3, hm.bl 4, hm.fa 0, hm.fa 1, hm.fa 2, trivial⟩) fun z => ?_
    refine wa1 4 rfl ?_
    refine lk_ sc57 2 rfl rfl rfl (wl_nil ?_)
    refine nw 11 127 (fun _ hm => ⟨hm.bl 1, hm.bl 3, hm.bl 4, hm.fa 0, hm.fa 1, hm.fa 2, trivial⟩) fun z => ?_
    refine wa1 7 rfl ?_
    refine wl_append (news := [.string k, .int .i64 m0, .int .i64 m1, .int .i64 m2, .int .i64 m3, .int .i64 m4, .int .i64 m5, .int .i64 m6, .int .i64 m7, .int .i64 m8, .int .i64 m9, .int .i64 m10, .int .i64 m11, .int .i64 m12, .int .i64 m13]) 0 0 ap57 rfl rfl rfl rfl rfl rfl rfl (by omega) (by unfold maxLen; omega) rfl rfl fun v9 hv => ?_
    refine wl_look (R := ∃ A cc, v9 = .slice A (sl.length + 1) cc) (fun wx hm => own_slice (hm.ownI 0 rfl)) ?_
    rintro ⟨A5, c5, rfl⟩
    refine wl_nil ?_
    refine nw 11 255 (fun _ hm => ⟨hm.bl 1, hm.bl 3, hm.bl 4, hm.fa 0, hm.fa 1, hm.fa 2, trivial⟩) fun z => ?_
    refine wt 8 11 511 rfl z (ov_nilcheck rfl) ?_
    refine wt 9 11 1023 rfl z (ov_field fo62_0 rfl rfl) ?_
    refine wa1 10 rfl ?_
    refine wl_store 2 sc57 rfl rfl rfl rfl rfl rfl ?_
    refine wl_nil ?_
    refine nw 11 2047 (fun _ hm => ⟨hm.bl 1, hm.bl 3, hm.bl 4, hm.fa 0, hm.fa 1, hm.fa 2, trivial⟩) fun z => ?_
    refine wa_done (by kernel_rfl) ?_
    refine nx_then (sr_ (sg_ rfl (nn_ ?_)))
    refine gw_ret ?_
    refine nx_blk_ret (nx_then_ret ?_)
    rw [show sl.flatMap stEnc ++ ([.string k, .int .i64 m0, .int .i64 m1, .int .i64 m2, .int .i64 m3, .int .i64 m4, .int .i64 m5, .int .i64 m6, .int .i64 m7, .int .i64 m8, .int .i64 m9, .int .i64 m10, .int .i64 m11, .int .i64 m12, .int .i64 m13] : List Value) = (sl ++ [((⟨k, [m0, m1, m2, m3, m4, m5, m6, m7, m8, m9, m10, m11, m12, m13]⟩ : St))]).flatMap stEnc from by simp [stEnc, stCells]]
    refine nx_ret1 rfl rfl fun wx hm => ?_
    refine ⟨.slice A5 (sl.length + 1) c5, v2, v3, v4, (sl ++ [(⟨k, [m0, m1, m2, m3, m4, m5, m6, m7, m8, m9, m10, m11, m12, m13]⟩ : St)], cl, vl, pl), by rw [hI]; rfl, (fun x hx => by rw [hI] at hx; cases hx; rfl), ?_⟩
    have e9 : (sl ++ [(⟨k, [m0, m1, m2, m3, m4, m5, m6, m7, m8, m9, m10, m11, m12, m13]⟩ : St)]).length = sl.length + 1 := by simp
    show Mem ⟨0, w0, none, [9]⟩ (fun _ => True) (fpL gf gl gr la (.slice A5 (sl.length + 1) c5) v2 v3 v4) [⟨.slice A5 (sl.length + 1) c5, 152, 15, (sl ++ [(⟨k, [m0, m1, m2, m3, m4, m5, m6, m7, m8, m9, m10, m11, m12, m13]⟩ : St)]).length, (sl ++ [(⟨k, [m0, m1, m2, m3, m4, m5, m6, m7, m8, m9, m10, m11, m12, m13]⟩ : St)]).flatMap stEnc⟩, ⟨v2, 158, 2, (cl).length, (cl).flatMap csEnc⟩, ⟨v3, 160, 2, (vl).length, (vl).flatMap vhEnc⟩, ⟨v4, 162, 3, (pl).length, (pl).flatMap plEnc⟩] [TxtO w0.heap.size none] _
    rw [e9]
    exact (hm.pick [2, 3, 4] [0, 1, 2, 3] [2] rfl rfl).cx
   replace hA : AW = false := by simpa using hA
   subst hA
   rw [item_st_no hAW.symm] at hI
   refine mv_ rfl (wl_ov (ov_extract rfl rfl) rfl (wl_ov (ov_extract rfl rfl) rfl ?_))
   refine wl_alloc zc152 rfl fun g2 => ?_
   refine wl_stores (cs' := [.string k, .int .i64 m0, .int .i64 m1, .int .i64 m2, .int .i64 m3, .int .i64 m4, .int .i64 m5, .int .i64 m6, .int .i64 m7, .int .i64 m8, .int .i64 m9, .int .i64 m10, .int .i64 m11, .int .i64 m12, .int .i64 m13]) 0 rz152 rfl rfl rfl rfl rfl rfl rfl rfl ?_
   refine sg_ rfl (nn_ (gw_seq (sr_ (mv_ rfl (wl_ov (ov_un_not rfl) rfl ?_)))))
   refine wl_set 36 (v' := .bool true) rfl (congrArg Value.bool (by decide)) ?_
   refine nn_ (ct_ rfl (sr_ (sg_ rfl (nn_ ?_))))
   refine gw_ret ?_
   refine nx_then_ret (nx_blk_ret (nx_then_ret ?_))
   refine nx_ret1 rfl rfl fun wx hm => ?_
   exact ⟨v1, v2, v3, v4, (sl, cl, vl, pl), by rw [hI]; rfl, (fun x hx => by rw [hI] at hx; cases hx), (hm.pick [1, 2, 3] [0, 1, 2, 3] [2] rfl rfl).cx⟩
  refine sg_ rfl (nn_ (sr_ (mv_ rfl ?_)))
  refine wl_callx (γ := Nat × Nat) (val := (fun g => .tuple #[.slice (some ⟨g.1, 0, none⟩) g.2 g.2, .bool (wdB t)])) (φ := (fun g => g.2 = (wdL t).length /\ 1 <= g.2 /\ g.2 <= t.size + 1)) (Y := (fun g => fun wy => SlT sgEnc 1 9 wy (some ⟨g.1, 0, none⟩) g.2 (wdL t))) rfl cb77 rfl rfl (fun wx hm => (words_any t wx (hm.fact 0 rfl).1 hts).mono fun _ _ ⟨gw, k, he, h1, h2, hg⟩ => ⟨(gw, k), he, ⟨h1.len.symm, h2⟩, hg, h1⟩) (fun _ => SlT.lasts2 rfl) ?_
  rintro ⟨gw, kw⟩ hkw
  dsimp only at hkw ⊢
  obtain ⟨hkl, hk1, hk2⟩ := hkw
  refine mv_ rfl (wl_ov (ov_extract rfl rfl) rfl (wl_ov (ov_extract rfl rfl) rfl (sg_ rfl (sg_ rfl (nn_ (gw_seq (gw_block (sr_ (mv_ rfl (wl_ov (ov_un_not rfl) rfl (sg_ rfl ?_)))))))))))
  refine nn_ ?_
  rcases Bool.eq_false_or_eq_true (!(wdB t)) with h1 | h1
  ·refine gw_set 17 rfl (congrArg Value.bool h1) ?_
   refine ct_ rfl (sr_ (sg_ rfl (nn_ ?_)))
   refine gw_ret ?_
   refine nx_blk_ret (nx_then_ret ?_)
   refine nx_ret1 rfl rfl fun wx hm => ?_
   exact ⟨v1, v2, v3, v4, (sl, cl, vl, pl), by rw [fIt_wd h1]; rfl, (fun x hx => by rw [fIt_wd h1] at hx; cases hx), (hm.pick [0, 1, 2] [0, 1, 2, 3] [1] rfl rfl).cx⟩
  refine gw_set 17 rfl (congrArg Value.bool h1) ?_
  have hI : fIt t = none := (fIt_go h1).trans (fItem_bad hx0 (fun h => ⟨by decide +kernel, by decide +kernel⟩) (fun h => by decide +kernel) (fun h => absurd h hN))
  refine cf_ rfl (sr_ (mv_ rfl ?_))
  refine wl_ov (ov_index (j := 0) es103 rfl rfl (by omega)) rfl ?_
  refine wl_ov (ov_elem1 (k := 0) (v := .string ⟨#[115, 116, 97, 116, 105, 111, 110]⟩) sc9 rfl (fun _ hm => (hm.fact 0 rfl)) hx0 rfl rfl) rfl ?_
  refine wl_ov (ov_seql rfl rfl) rfl ?_
  refine wl_set 24 (v' := .bool true) rfl (congrArg Value.bool (by decide +kernel)) ?_
  refine mv_ rfl (wl_guard_on rfl rfl rfl (mv_ rfl (wl_guard_on rfl rfl rfl (wl_ov (ov_len es103 rfl) rfl (wl_guard_on rfl rfl rfl (wl_ov (ov_eql rfl rfl) rfl (pt_ rfl rfl (sg_ rfl (nn_ ?_)))))))))
  refine gw_set 20 (v' := .bool false) rfl (congrArg Value.bool (decide_eq_false (by omega))) ?_
  refine cf_ rfl (sr_ (mv_ rfl ?_))
  refine wl_ov (ov_index (j := 0) es103 rfl rfl (by omega)) rfl ?_
  refine wl_ov (ov_elem1 (k := 0) (v := .string ⟨#[115, 116, 97, 116, 105, 111, 110]⟩) sc9 rfl (fun _ hm => (hm.fact 0 rfl)) hx0 rfl rfl) rfl ?_
  refine wl_ov (ov_seql rfl rfl) rfl ?_
  refine wl_set 51 (v' := .bool false) rfl (congrArg Value.bool (by decide +kernel)) ?_
  refine mv_ rfl (goff rfl rfl rfl (goff rfl rfl rfl (goff rfl rfl rfl (pf_ rfl rfl (sg_ rfl (nn_ (cf_ rfl (sr_ (mv_ rfl ?_)))))))))
  refine wl_ov (ov_index (j := 0) es103 rfl rfl (by omega)) rfl ?_
  refine wl_ov (ov_elem1 (k := 0) (v := .string ⟨#[115, 116, 97, 116, 105, 111, 110]⟩) sc9 rfl (fun _ hm => (hm.fact 0 rfl)) hx0 rfl rfl) rfl ?_
  refine wl_ov (ov_seql rfl rfl) rfl ?_
  refine wl_set 82 (v' := .bool false) rfl (congrArg Value.bool (by decide +kernel)) ?_
  refine mv_ rfl (goff rfl rfl rfl (goff rfl rfl rfl (goff rfl rfl rfl (pf_ rfl rfl (sg_ rfl (nn_ (cf_ rfl (sr_ (mv_ rfl ?_)))))))))
  refine wl_ov (ov_index (j := 0) es103 rfl rfl (by omega)) rfl ?_
  refine wl_ov (ov_elem1 (k := 0) (v := .string ⟨#[115, 116, 97, 116, 105, 111, 110]⟩) sc9 rfl (fun _ hm => (hm.fact 0 rfl)) hx0 rfl rfl) rfl ?_
  refine wl_ov (ov_seql rfl rfl) rfl ?_
  refine wl_set 108 (v' := .bool false) rfl (congrArg Value.bool (by decide +kernel)) ?_
  refine mv_ rfl (goff rfl rfl rfl (goff rfl rfl rfl (goff rfl rfl rfl (pf_ rfl rfl (sg_ rfl (nn_ (cf_ rfl (gw_skip (nx_blk_nrm (nx_then (sr_ ?_)))))))))))
  refine sg_ rfl (nn_ ?_)
  refine gw_ret ?_
  refine nx_ret1 rfl rfl fun wx hm => ?_
  exact ⟨v1, v2, v3, v4, (sl, cl, vl, pl), by rw [hI]; rfl, (fun x hx => by rw [hI] at hx; cases hx), (hm.pick [0, 1, 2] [0, 1, 2, 3] [1] rfl rfl).cx⟩
 ·subst h
  by_cases hN : (wdL t).length = 3
  ·obtain ⟨a0, a1, a2, hw⟩ := list3f hN
   have hb0 : a0 = clW := by rw [hw] at hx0; simpa using hx0
   subst hb0
   rw [hw] at hwz
   have za1 : a1.size <= 1000000 := hwz a1 (by simp)
   have za2 : a2.size <= 1000000 := hwz a2 (by simp)
   refine sg_ rfl (nn_ (sr_ (mv_ rfl ?_)))
   refine wl_callx (γ := Nat × Nat) (val := (fun g => .tuple #[.slice (some ⟨g.1, 0, none⟩) g.2 g.2, .bool (wdB t)])) (φ := (fun g => g.2 = 3)) (Y := (fun g => fun wy => SlT sgEnc 1 9 wy (some ⟨g.1, 0, none⟩) g.2 ([clW, a1, a2]))) rfl cb77 rfl rfl (fun wx hm => (words_any t wx (hm.fact 0 rfl).1 hts).mono fun _ _ ⟨gw, k, he, h1, h2, hg⟩ => ⟨(gw, k), he, by have h := h1.len; rw [hw] at h; exact h.symm, hg, by rw [hw] at h1; exact h1⟩) (fun _ => SlT.lasts2 rfl) ?_
   rintro ⟨gw, kw⟩ hkw
   dsimp only at hkw ⊢
   subst hkw
   refine mv_ rfl (wl_ov (ov_extract rfl rfl) rfl (wl_ov (ov_extract rfl rfl) rfl (sg_ rfl (sg_ rfl (nn_ (gw_seq (gw_block (sr_ (mv_ rfl (wl_ov (ov_un_not rfl) rfl (sg_ rfl ?_)))))))))))
   refine nn_ ?_
   rcases Bool.eq_false_or_eq_true (!(wdB t)) with h1 | h1
   ·refine gw_set 17 rfl (congrArg Value.bool h1) ?_
    refine ct_ rfl (sr_ (sg_ rfl (nn_ ?_)))
    refine gw_ret ?_
    refine nx_blk_ret (nx_then_ret ?_)
    refine nx_ret1 rfl rfl fun wx hm => ?_
    exact ⟨v1, v2, v3, v4, (sl, cl, vl, pl), by rw [fIt_wd h1]; rfl, (fun x hx => by rw [fIt_wd h1] at hx; cases hx), (hm.pick [0, 1, 2] [0, 1, 2, 3] [1] rfl rfl).cx⟩
   refine gw_set 17 rfl (congrArg Value.bool h1) ?_
   have hI := fIt_go h1
   rw [hw] at hI
   refine cf_ rfl (sr_ (mv_ rfl ?_))
   refine wl_ov (ov_index (j := 0) es103 rfl rfl (by omega)) rfl ?_
   refine wl_ov (ov_elem1 (k := 0) (v := .string ⟨#[99, 108, 97, 115, 115]⟩) sc9 rfl (fun _ hm => (hm.fact 0 rfl)) (show ([clW, a1, a2] : List ByteArray)[0]? = some clW from rfl) rfl rfl) rfl ?_
   refine wl_ov (ov_seql rfl rfl) rfl ?_
   refine wl_set 24 (v' := .bool false) rfl (congrArg Value.bool (by decide +kernel)) ?_
   refine mv_ rfl (goff rfl rfl rfl (goff rfl rfl rfl (goff rfl rfl rfl (pf_ rfl rfl (sg_ rfl (nn_ (cf_ rfl (sr_ (mv_ rfl ?_)))))))))
   refine wl_ov (ov_index (j := 0) es103 rfl rfl (by omega)) rfl ?_
   refine wl_ov (ov_elem1 (k := 0) (v := .string ⟨#[99, 108, 97, 115, 115]⟩) sc9 rfl (fun _ hm => (hm.fact 0 rfl)) (show ([clW, a1, a2] : List ByteArray)[0]? = some clW from rfl) rfl rfl) rfl ?_
   refine wl_ov (ov_seql rfl rfl) rfl ?_
   refine wl_set 51 (v' := .bool true) rfl (congrArg Value.bool (by decide +kernel)) ?_
   refine mv_ rfl (wl_guard_on rfl rfl rfl (mv_ rfl (wl_guard_on rfl rfl rfl (wl_ov (ov_len es103 rfl) rfl ?_))))
   refine wl_set 54 (v' := .int .i64 3) rfl rfl ?_
   refine wl_guard_on rfl rfl rfl (wl_ov (ov_eql rfl rfl) rfl ?_)
   refine wl_set 55 (v' := .bool true) rfl (congrArg Value.bool (by decide)) ?_
   refine pt_ rfl rfl (sg_ rfl (nn_ (ct_ rfl (gw_seq ?_))))
   refine gd (fun wz => Blk wz gf 62 [v1, v2, v3, v4] /\ Blk wz gl 3 [.int .i64 la] /\ Blk wz gr 62 [.slice none 0 0, .slice none 0 0, .slice none 0 0, .slice none 0 0] /\ (fun wy => SlT sgEnc 1 9 wy (some ⟨gw, 0, none⟩) 3 ([clW, a1, a2])) wz /\ (TxtO w0.heap.size none) wz /\ True) mixed (fun _ hm => ⟨hm.bl 0, hm.bl 1, hm.bl 2, hm.fa 0, hm.fa 1, trivial⟩) fun z => ?_
   refine wt 0 9 1 rfl z (ov_move rfl) ?_
   refine wt 1 9 3 rfl z (ov_index (j := 1) es103 rfl rfl (by omega)) ?_
   refine wt 2 9 7 rfl z (ov_elem1 (k := 0) (v := .string a1) sc9 rfl (fun _ hm => (hm.2.2.2.1)) (show ([clW, a1, a2] : List ByteArray)[1]? = some a1 from rfl) rfl rfl) ?_
   refine wt 3 9 15 rfl z (ov_move rfl) ?_
   refine wt 4 9 31 rfl z (ov_index (j := 2) es103 rfl rfl (by omega)) ?_
   refine wt 5 9 63 rfl z (ov_elem1 (k := 0) (v := .string a2) sc9 rfl (fun _ hm => (hm.2.2.2.1)) (show ([clW, a1, a2] : List ByteArray)[2]? = some a2 from rfl) rfl rfl) ?_
   refine wt 6 9 127 rfl z (ov_build (cs := [.string a1, .string a2]) rfl (by kernel_rfl)) ?_
   refine wa1 7 rfl ?_
   refine wl_alloc zc158 rfl fun g6 => ?_
   refine wl_nil ?_
   refine nw 9 255 (fun _ hm => ⟨hm.bl 1, hm.bl 2, hm.bl 3, hm.fa 0, hm.fa 1, trivial⟩) fun z => ?_
   refine wa1 8 rfl ?_
   refine wl_stores (cs' := [.string a1, .string a2]) 0 rz158 rfl rfl rfl rfl rfl rfl rfl rfl ?_
   refine wl_nil ?_
   refine nw 9 511 (fun _ hm => ⟨hm.bl 1, hm.bl 2, hm.bl 3, hm.fa 0, hm.fa 1, trivial⟩) fun z => ?_
   refine wa_done (by kernel_rfl) ?_
   refine nx_then (gw_seq (sr_ (fd_ fo158_1 rfl rfl (lk_ sc9 0 rfl rfl rfl (wl_ov (ov_seql rfl rfl) rfl (nn_ ?_))))))
   rw [item_cs] at hI
   rcases Bool.eq_false_or_eq_true (a2.toList == (⟨#[45]⟩ : ByteArray).toList) with hd | hd
   ·refine gw_set 66 rfl (congrArg Value.bool hd) ?_
    rw [show und a2 = ⟨#[]⟩ from if_pos hd] at hI
    refine gw_look (R := ∃ A cc, v2 = .slice A cl.length cc) (fun wx hm => own_slice (hm.ownI 1 rfl)) ?_
    rintro ⟨A_, c_, rfl⟩
    refine ct_ rfl (gw_region (fd_ fo158_1 rfl rfl ?_))
    refine wl_store 0 sc9 rfl rfl rfl rfl rfl rfl ?_
    refine nn_ (gw_seq ?_)
    refine gd (fun wz => Blk wz g6 158 [.string a1, .string ⟨#[]⟩] /\ Blk wz gl 3 [.int .i64 la] /\ Blk wz gr 62 [.slice none 0 0, .slice none 0 0, .slice none 0 0, .slice none 0 0] /\ (fun wy => SlT sgEnc 1 9 wy (some ⟨gw, 0, none⟩) 3 ([clW, a1, a2])) wz /\ (TxtO w0.heap.size none) wz /\ True) mixed (fun _ hm => ⟨hm.bl 0, hm.bl 2, hm.bl 3, hm.fa 0, hm.fa 1, trivial⟩) fun z => ?_
    refine wt 0 11 1 rfl z (ov_move rfl) ?_
    refine wt 1 11 3 rfl z (ov_move rfl) ?_
    refine wt 2 11 7 rfl z (ov_nilcheck rfl) ?_
    refine wt 3 11 15 rfl z (ov_field fo62_1 rfl rfl) ?_
    refine wt 5 11 47 rfl z (ov_loads rz158 rfl (fun _ hm => hm.1) rfl rfl) ?_
    refine wa_all [4, 6] (by kernel_rfl) rfl ⟨⟨_, rfl, ?_⟩, ⟨_, rfl, ?_⟩, trivial⟩
    ·refine lk_ sc58 1 rfl rfl rfl (wl_nil ?_)
     refine nw 11 63 (fun _ hm => ⟨hm.bl 0, hm.bl 2, hm.bl 3, hm.fa 0, hm.fa 1, trivial⟩) fun z => ?_
     refine wa1 6 rfl ?_
     refine wl_buildSlice (e := 158) (cs := [.string a1, .string ⟨#[]⟩]) rfl (by kernel_rfl) rfl fun g7 => ?_
     refine wl_nil ?_
     refine nw 11 127 (fun _ hm => ⟨hm.bl 1, hm.bl 3, hm.bl 4, hm.fa 0, hm.fa 1, trivial⟩) fun z => ?_
     refine wa1 7 rfl ?_
     refine wl_append (news := [.string a1, .string ⟨#[]⟩]) 1 0 ap58 rfl rfl rfl rfl rfl rfl rfl (by omega) (by unfold maxLen; omega) rfl rfl fun v9 hv => ?_
     refine wl_look (R := ∃ A cc, v9 = .slice A (cl.length + 1) cc) (fun wx hm => own_slice (hm.ownI 1 rfl)) ?_
     rintro ⟨A5, c5, rfl⟩
     refine wl_nil ?_
     refine nw 11 255 (fun _ hm => ⟨hm.bl 1, hm.bl 3, hm.bl 4, hm.fa 0, hm.fa 1, trivial⟩) fun z => ?_
     refine wt 8 11 511 rfl z (ov_nilcheck rfl) ?_
     refine wt 9 11 1023 rfl z (ov_field fo62_1 rfl rfl) ?_
     refine wa1 10 rfl ?_
     refine wl_store 2 sc58 rfl rfl rfl rfl rfl rfl ?_
     refine wl_nil ?_
     refine nw 11 2047 (fun _ hm => ⟨hm.bl 1, hm.bl 3, hm.bl 4, hm.fa 0, hm.fa 1, trivial⟩) fun z => ?_
     refine wa_done (by kernel_rfl) ?_
     refine nx_then (sr_ (sg_ rfl (nn_ ?_)))
     refine gw_ret ?_
     refine nx_blk_ret (nx_then_ret ?_)
     rw [show cl.flatMap csEnc ++ ([.string a1, .string ⟨#[]⟩] : List Value) = (cl ++ [((⟨a1, ⟨#[]⟩⟩ : Cs))]).flatMap csEnc from by simp [csEnc]]
     refine nx_ret1 rfl rfl fun wx hm => ?_
     refine ⟨v1, .slice A5 (cl.length + 1) c5, v3, v4, (sl, cl ++ [(⟨a1, ⟨#[]⟩⟩ : Cs)], vl, pl), by rw [hI]; rfl, (fun x hx => by rw [hI] at hx; cases hx; rfl), ?_⟩
     have e9 : (cl ++ [(⟨a1, ⟨#[]⟩⟩ : Cs)]).length = cl.length + 1 := by simp
     show Mem ⟨0, w0, none, [9]⟩ (fun _ => True) (fpL gf gl gr la v1 (.slice A5 (cl.length + 1) c5) v3 v4) [⟨v1, 152, 15, (sl).length, (sl).flatMap stEnc⟩, ⟨.slice A5 (cl.length + 1) c5, 158, 2, (cl ++ [(⟨a1, ⟨#[]⟩⟩ : Cs)]).length, (cl ++ [(⟨a1, ⟨#[]⟩⟩ : Cs)]).flatMap csEnc⟩, ⟨v3, 160, 2, (vl).length, (vl).flatMap vhEnc⟩, ⟨v4, 162, 3, (pl).length, (pl).flatMap plEnc⟩] [TxtO w0.heap.size none] _
     rw [e9]
     exact (hm.pick [2, 3, 4] [0, 1, 2, 3] [1] rfl rfl).cx
    refine wl_buildSlice (e := 158) (cs := [.string a1, .string ⟨#[]⟩]) rfl (by kernel_rfl) rfl fun g8 => ?_
    refine wl_nil ?_
    refine nw 11 111 (fun _ hm => ⟨hm.bl 1, hm.bl 3, hm.bl 4, hm.fa 0, hm.fa 1, trivial⟩) fun z => ?_
    refine wa1 4 rfl ?_
    refine lk_ sc58 2 rfl rfl rfl (wl_nil ?_)
    refine nw 11 127 (fun _ hm => ⟨hm.bl 1, hm.bl 3, hm.bl 4, hm.fa 0, hm.fa 1, trivial⟩) fun z => ?_
    refine wa1 7 rfl ?_
    refine wl_append (news := [.string a1, .string ⟨#[]⟩]) 1 0 ap58 rfl rfl rfl rfl rfl rfl rfl (by omega) (by unfold maxLen; omega) rfl rfl fun v9 hv => ?_
    refine wl_look (R := ∃ A cc, v9 = .slice A (cl.length + 1) cc) (fun wx hm => own_slice (hm.ownI 1 rfl)) ?_
    rintro ⟨A5, c5, rfl⟩
    refine wl_nil ?_
    refine nw 11 255 (fun _ hm => ⟨hm.bl 1, hm.bl 3, hm.bl 4, hm.fa 0, hm.fa 1, trivial⟩) fun z => ?_
    refine wt 8 11 511 rfl z (ov_nilcheck rfl) ?_
    refine wt 9 11 1023 rfl z (ov_field fo62_1 rfl rfl) ?_
    refine wa1 10 rfl ?_
    refine wl_store 2 sc58 rfl rfl rfl rfl rfl rfl ?_
    refine wl_nil ?_
    refine nw 11 2047 (fun _ hm => ⟨hm.bl 1, hm.bl 3, hm.bl 4, hm.fa 0, hm.fa 1, trivial⟩) fun z => ?_
    refine wa_done (by kernel_rfl) ?_
    refine nx_then (sr_ (sg_ rfl (nn_ ?_)))
    refine gw_ret ?_
    refine nx_blk_ret (nx_then_ret ?_)
    rw [show cl.flatMap csEnc ++ ([.string a1, .string ⟨#[]⟩] : List Value) = (cl ++ [((⟨a1, ⟨#[]⟩⟩ : Cs))]).flatMap csEnc from by simp [csEnc]]
    refine nx_ret1 rfl rfl fun wx hm => ?_
    refine ⟨v1, .slice A5 (cl.length + 1) c5, v3, v4, (sl, cl ++ [(⟨a1, ⟨#[]⟩⟩ : Cs)], vl, pl), by rw [hI]; rfl, (fun x hx => by rw [hI] at hx; cases hx; rfl), ?_⟩
    have e9 : (cl ++ [(⟨a1, ⟨#[]⟩⟩ : Cs)]).length = cl.length + 1 := by simp
    show Mem ⟨0, w0, none, [9]⟩ (fun _ => True) (fpL gf gl gr la v1 (.slice A5 (cl.length + 1) c5) v3 v4) [⟨v1, 152, 15, (sl).length, (sl).flatMap stEnc⟩, ⟨.slice A5 (cl.length + 1) c5, 158, 2, (cl ++ [(⟨a1, ⟨#[]⟩⟩ : Cs)]).length, (cl ++ [(⟨a1, ⟨#[]⟩⟩ : Cs)]).flatMap csEnc⟩, ⟨v3, 160, 2, (vl).length, (vl).flatMap vhEnc⟩, ⟨v4, 162, 3, (pl).length, (pl).flatMap plEnc⟩] [TxtO w0.heap.size none] _
    rw [e9]
    exact (hm.pick [2, 3, 4] [0, 1, 2, 3] [1] rfl rfl).cx
   refine gw_set 66 rfl (congrArg Value.bool hd) ?_
   rw [show und a2 = a2 from if_neg (by rw [show (a2.toList == dashS.toList) = false from hd]; decide)] at hI
   refine gw_look (R := ∃ A cc, v2 = .slice A cl.length cc) (fun wx hm => own_slice (hm.ownI 1 rfl)) ?_
   rintro ⟨A_, c_, rfl⟩
   refine cf_ rfl (gw_skip (nx_then (gw_seq ?_)))
   refine gd (fun wz => Blk wz g6 158 [.string a1, .string a2] /\ Blk wz gl 3 [.int .i64 la] /\ Blk wz gr 62 [.slice none 0 0, .slice none 0 0, .slice none 0 0, .slice none 0 0] /\ (fun wy => SlT sgEnc 1 9 wy (some ⟨gw, 0, none⟩) 3 ([clW, a1, a2])) wz /\ (TxtO w0.heap.size none) wz /\ True) mixed (fun _ hm => ⟨hm.bl 0, hm.bl 2, hm.bl 3, hm.fa 0, hm.fa 1, trivial⟩) fun z => ?_
   refine wt 0 11 1 rfl z (ov_move rfl) ?_
   refine wt 1 11 3 rfl z (ov_move rfl) ?_
   refine wt 2 11 7 rfl z (ov_nilcheck rfl) ?_
   refine wt 3 11 15 rfl z (ov_field fo62_1 rfl rfl) ?_
   refine wt 5 11 47 rfl z (ov_loads rz158 rfl (fun _ hm => hm.1) rfl rfl) ?_
   refine wa_all [4, 6] (by kernel_rfl) rfl ⟨⟨_, rfl, ?_⟩, ⟨_, rfl, ?_⟩, trivial⟩
   ·refine lk_ sc58 1 rfl rfl rfl (wl_nil ?_)
    refine nw 11 63 (fun _ hm => ⟨hm.bl 0, hm.bl 2, hm.bl 3, hm.fa 0, hm.fa 1, trivial⟩) fun z => ?_
    refine wa1 6 rfl ?_
    refine wl_buildSlice (e := 158) (cs := [.string a1, .string a2]) rfl (by kernel_rfl) rfl fun g9 => ?_
    refine wl_nil ?_
    refine nw 11 127 (fun _ hm => ⟨hm.bl 1, hm.bl 3, hm.bl 4, hm.fa 0, hm.fa 1, trivial⟩) fun z => ?_
    refine wa1 7 rfl ?_
    refine wl_append (news := [.string a1, .string a2]) 1 0 ap58 rfl rfl rfl rfl rfl rfl rfl (by omega) (by unfold maxLen; omega) rfl rfl fun v9 hv => ?_
    refine wl_look (R := ∃ A cc, v9 = .slice A (cl.length + 1) cc) (fun wx hm => own_slice (hm.ownI 1 rfl)) ?_
    rintro ⟨A5, c5, rfl⟩
    refine wl_nil ?_
    refine nw 11 255 (fun _ hm => ⟨hm.bl 1, hm.bl 3, hm.bl 4, hm.fa 0, hm.fa 1, trivial⟩) fun z => ?_
    refine wt 8 11 511 rfl z (ov_nilcheck rfl) ?_
    refine wt 9 11 1023 rfl z (ov_field fo62_1 rfl rfl) ?_
    refine wa1 10 rfl ?_
    refine wl_store 2 sc58 rfl rfl rfl rfl rfl rfl ?_
    refine wl_nil ?_
    refine nw 11 2047 (fun _ hm => ⟨hm.bl 1, hm.bl 3, hm.bl 4, hm.fa 0, hm.fa 1, trivial⟩) fun z => ?_
    refine wa_done (by kernel_rfl) ?_
    refine nx_then (sr_ (sg_ rfl (nn_ ?_)))
    refine gw_ret ?_
    refine nx_blk_ret (nx_then_ret ?_)
    rw [show cl.flatMap csEnc ++ ([.string a1, .string a2] : List Value) = (cl ++ [((⟨a1, a2⟩ : Cs))]).flatMap csEnc from by simp [csEnc]]
    refine nx_ret1 rfl rfl fun wx hm => ?_
    refine ⟨v1, .slice A5 (cl.length + 1) c5, v3, v4, (sl, cl ++ [(⟨a1, a2⟩ : Cs)], vl, pl), by rw [hI]; rfl, (fun x hx => by rw [hI] at hx; cases hx; rfl), ?_⟩
    have e9 : (cl ++ [(⟨a1, a2⟩ : Cs)]).length = cl.length + 1 := by simp
    show Mem ⟨0, w0, none, [9]⟩ (fun _ => True) (fpL gf gl gr la v1 (.slice A5 (cl.length + 1) c5) v3 v4) [⟨v1, 152, 15, (sl).length, (sl).flatMap stEnc⟩, ⟨.slice A5 (cl.length + 1) c5, 158, 2, (cl ++ [(⟨a1, a2⟩ : Cs)]).length, (cl ++ [(⟨a1, a2⟩ : Cs)]).flatMap csEnc⟩, ⟨v3, 160, 2, (vl).length, (vl).flatMap vhEnc⟩, ⟨v4, 162, 3, (pl).length, (pl).flatMap plEnc⟩] [TxtO w0.heap.size none] _
    rw [e9]
    exact (hm.pick [2, 3, 4] [0, 1, 2, 3] [1] rfl rfl).cx
   refine wl_buildSlice (e := 158) (cs := [.string a1, .string a2]) rfl (by kernel_rfl) rfl fun g10 => ?_
   refine wl_nil ?_
   refine nw 11 111 (fun _ hm => ⟨hm.bl 1, hm.bl 3, hm.bl 4, hm.fa 0, hm.fa 1, trivial⟩) fun z => ?_
   refine wa1 4 rfl ?_
   refine lk_ sc58 2 rfl rfl rfl (wl_nil ?_)
   refine nw 11 127 (fun _ hm => ⟨hm.bl 1, hm.bl 3, hm.bl 4, hm.fa 0, hm.fa 1, trivial⟩) fun z => ?_
   refine wa1 7 rfl ?_
   refine wl_append (news := [.string a1, .string a2]) 1 0 ap58 rfl rfl rfl rfl rfl rfl rfl (by omega) (by unfold maxLen; omega) rfl rfl fun v9 hv => ?_
   refine wl_look (R := ∃ A cc, v9 = .slice A (cl.length + 1) cc) (fun wx hm => own_slice (hm.ownI 1 rfl)) ?_
   rintro ⟨A5, c5, rfl⟩
   refine wl_nil ?_
   refine nw 11 255 (fun _ hm => ⟨hm.bl 1, hm.bl 3, hm.bl 4, hm.fa 0, hm.fa 1, trivial⟩) fun z => ?_
   refine wt 8 11 511 rfl z (ov_nilcheck rfl) ?_
   refine wt 9 11 1023 rfl z (ov_field fo62_1 rfl rfl) ?_
   refine wa1 10 rfl ?_
   refine wl_store 2 sc58 rfl rfl rfl rfl rfl rfl ?_
   refine wl_nil ?_
   refine nw 11 2047 (fun _ hm => ⟨hm.bl 1, hm.bl 3, hm.bl 4, hm.fa 0, hm.fa 1, trivial⟩) fun z => ?_
   refine wa_done (by kernel_rfl) ?_
   refine nx_then (sr_ (sg_ rfl (nn_ ?_)))
   refine gw_ret ?_
   refine nx_blk_ret (nx_then_ret ?_)
   rw [show cl.flatMap csEnc ++ ([.string a1, .string a2] : List Value) = (cl ++ [((⟨a1, a2⟩ : Cs))]).flatMap csEnc from by simp [csEnc]]
   refine nx_ret1 rfl rfl fun wx hm => ?_
   refine ⟨v1, .slice A5 (cl.length + 1) c5, v3, v4, (sl, cl ++ [(⟨a1, a2⟩ : Cs)], vl, pl), by rw [hI]; rfl, (fun x hx => by rw [hI] at hx; cases hx; rfl), ?_⟩
   have e9 : (cl ++ [(⟨a1, a2⟩ : Cs)]).length = cl.length + 1 := by simp
   show Mem ⟨0, w0, none, [9]⟩ (fun _ => True) (fpL gf gl gr la v1 (.slice A5 (cl.length + 1) c5) v3 v4) [⟨v1, 152, 15, (sl).length, (sl).flatMap stEnc⟩, ⟨.slice A5 (cl.length + 1) c5, 158, 2, (cl ++ [(⟨a1, a2⟩ : Cs)]).length, (cl ++ [(⟨a1, a2⟩ : Cs)]).flatMap csEnc⟩, ⟨v3, 160, 2, (vl).length, (vl).flatMap vhEnc⟩, ⟨v4, 162, 3, (pl).length, (pl).flatMap plEnc⟩] [TxtO w0.heap.size none] _
   rw [e9]
   exact (hm.pick [2, 3, 4] [0, 1, 2, 3] [1] rfl rfl).cx
  refine sg_ rfl (nn_ (sr_ (mv_ rfl ?_)))
  refine wl_callx (γ := Nat × Nat) (val := (fun g => .tuple #[.slice (some ⟨g.1, 0, none⟩) g.2 g.2, .bool (wdB t)])) (φ := (fun g => g.2 = (wdL t).length /\ 1 <= g.2 /\ g.2 <= t.size + 1)) (Y := (fun g => fun wy => SlT sgEnc 1 9 wy (some ⟨g.1, 0, none⟩) g.2 (wdL t))) rfl cb77 rfl rfl (fun wx hm => (words_any t wx (hm.fact 0 rfl).1 hts).mono fun _ _ ⟨gw, k, he, h1, h2, hg⟩ => ⟨(gw, k), he, ⟨h1.len.symm, h2⟩, hg, h1⟩) (fun _ => SlT.lasts2 rfl) ?_
  rintro ⟨gw, kw⟩ hkw
  dsimp only at hkw ⊢
  obtain ⟨hkl, hk1, hk2⟩ := hkw
  refine mv_ rfl (wl_ov (ov_extract rfl rfl) rfl (wl_ov (ov_extract rfl rfl) rfl (sg_ rfl (sg_ rfl (nn_ (gw_seq (gw_block (sr_ (mv_ rfl (wl_ov (ov_un_not rfl) rfl (sg_ rfl ?_)))))))))))
  refine nn_ ?_
  rcases Bool.eq_false_or_eq_true (!(wdB t)) with h1 | h1
  ·refine gw_set 17 rfl (congrArg Value.bool h1) ?_
   refine ct_ rfl (sr_ (sg_ rfl (nn_ ?_)))
   refine gw_ret ?_
   refine nx_blk_ret (nx_then_ret ?_)
   refine nx_ret1 rfl rfl fun wx hm => ?_
   exact ⟨v1, v2, v3, v4, (sl, cl, vl, pl), by rw [fIt_wd h1]; rfl, (fun x hx => by rw [fIt_wd h1] at hx; cases hx), (hm.pick [0, 1, 2] [0, 1, 2, 3] [1] rfl rfl).cx⟩
  refine gw_set 17 rfl (congrArg Value.bool h1) ?_
  have hI : fIt t = none := (fIt_go h1).trans (fItem_bad hx0 (fun h => absurd h hN) (fun h => by decide +kernel) (fun h => by decide +kernel))
  refine cf_ rfl (sr_ (mv_ rfl ?_))
  refine wl_ov (ov_index (j := 0) es103 rfl rfl (by omega)) rfl ?_
  refine wl_ov (ov_elem1 (k := 0) (v := .string ⟨#[99, 108, 97, 115, 115]⟩) sc9 rfl (fun _ hm => (hm.fact 0 rfl)) hx0 rfl rfl) rfl ?_
  refine wl_ov (ov_seql rfl rfl) rfl ?_
  refine wl_set 24 (v' := .bool false) rfl (congrArg Value.bool (by decide +kernel)) ?_
  refine mv_ rfl (goff rfl rfl rfl (goff rfl rfl rfl (goff rfl rfl rfl (pf_ rfl rfl (sg_ rfl (nn_ (cf_ rfl (sr_ (mv_ rfl ?_)))))))))
  refine wl_ov (ov_index (j := 0) es103 rfl rfl (by omega)) rfl ?_
  refine wl_ov (ov_elem1 (k := 0) (v := .string ⟨#[99, 108, 97, 115, 115]⟩) sc9 rfl (fun _ hm => (hm.fact 0 rfl)) hx0 rfl rfl) rfl ?_
  refine wl_ov (ov_seql rfl rfl) rfl ?_
  refine wl_set 51 (v' := .bool true) rfl (congrArg Value.bool (by decide +kernel)) ?_
  refine mv_ rfl (wl_guard_on rfl rfl rfl (mv_ rfl (wl_guard_on rfl rfl rfl (wl_ov (ov_len es103 rfl) rfl (wl_guard_on rfl rfl rfl (wl_ov (ov_eql rfl rfl) rfl (pt_ rfl rfl (sg_ rfl (nn_ ?_)))))))))
  refine gw_set 47 (v' := .bool false) rfl (congrArg Value.bool (decide_eq_false (by omega))) ?_
  refine cf_ rfl (sr_ (mv_ rfl ?_))
  refine wl_ov (ov_index (j := 0) es103 rfl rfl (by omega)) rfl ?_
  refine wl_ov (ov_elem1 (k := 0) (v := .string ⟨#[99, 108, 97, 115, 115]⟩) sc9 rfl (fun _ hm => (hm.fact 0 rfl)) hx0 rfl rfl) rfl ?_
  refine wl_ov (ov_seql rfl rfl) rfl ?_
  refine wl_set 82 (v' := .bool false) rfl (congrArg Value.bool (by decide +kernel)) ?_
  refine mv_ rfl (goff rfl rfl rfl (goff rfl rfl rfl (goff rfl rfl rfl (pf_ rfl rfl (sg_ rfl (nn_ (cf_ rfl (sr_ (mv_ rfl ?_)))))))))
  refine wl_ov (ov_index (j := 0) es103 rfl rfl (by omega)) rfl ?_
  refine wl_ov (ov_elem1 (k := 0) (v := .string ⟨#[99, 108, 97, 115, 115]⟩) sc9 rfl (fun _ hm => (hm.fact 0 rfl)) hx0 rfl rfl) rfl ?_
  refine wl_ov (ov_seql rfl rfl) rfl ?_
  refine wl_set 108 (v' := .bool false) rfl (congrArg Value.bool (by decide +kernel)) ?_
  refine mv_ rfl (goff rfl rfl rfl (goff rfl rfl rfl (goff rfl rfl rfl (pf_ rfl rfl (sg_ rfl (nn_ (cf_ rfl (gw_skip (nx_blk_nrm (nx_then (sr_ ?_)))))))))))
  refine sg_ rfl (nn_ ?_)
  refine gw_ret ?_
  refine nx_ret1 rfl rfl fun wx hm => ?_
  exact ⟨v1, v2, v3, v4, (sl, cl, vl, pl), by rw [hI]; rfl, (fun x hx => by rw [hI] at hx; cases hx), (hm.pick [0, 1, 2] [0, 1, 2, 3] [1] rfl rfl).cx⟩
 ·subst h
  by_cases hN : (wdL t).length = 3
  ·obtain ⟨a0, a1, a2, hw⟩ := list3f hN
   have hb0 : a0 = vhW := by rw [hw] at hx0; simpa using hx0
   subst hb0
   rw [hw] at hwz
   have za1 : a1.size <= 1000000 := hwz a1 (by simp)
   have za2 : a2.size <= 1000000 := hwz a2 (by simp)
   refine sg_ rfl (nn_ (sr_ (mv_ rfl ?_)))
   refine wl_callx (γ := Nat × Nat) (val := (fun g => .tuple #[.slice (some ⟨g.1, 0, none⟩) g.2 g.2, .bool (wdB t)])) (φ := (fun g => g.2 = 3)) (Y := (fun g => fun wy => SlT sgEnc 1 9 wy (some ⟨g.1, 0, none⟩) g.2 ([vhW, a1, a2]))) rfl cb77 rfl rfl (fun wx hm => (words_any t wx (hm.fact 0 rfl).1 hts).mono fun _ _ ⟨gw, k, he, h1, h2, hg⟩ => ⟨(gw, k), he, by have h := h1.len; rw [hw] at h; exact h.symm, hg, by rw [hw] at h1; exact h1⟩) (fun _ => SlT.lasts2 rfl) ?_
   rintro ⟨gw, kw⟩ hkw
   dsimp only at hkw ⊢
   subst hkw
   refine mv_ rfl (wl_ov (ov_extract rfl rfl) rfl (wl_ov (ov_extract rfl rfl) rfl (sg_ rfl (sg_ rfl (nn_ (gw_seq (gw_block (sr_ (mv_ rfl (wl_ov (ov_un_not rfl) rfl (sg_ rfl ?_)))))))))))
   refine nn_ ?_
   rcases Bool.eq_false_or_eq_true (!(wdB t)) with h1 | h1
   ·refine gw_set 17 rfl (congrArg Value.bool h1) ?_
    refine ct_ rfl (sr_ (sg_ rfl (nn_ ?_)))
    refine gw_ret ?_
    refine nx_blk_ret (nx_then_ret ?_)
    refine nx_ret1 rfl rfl fun wx hm => ?_
    exact ⟨v1, v2, v3, v4, (sl, cl, vl, pl), by rw [fIt_wd h1]; rfl, (fun x hx => by rw [fIt_wd h1] at hx; cases hx), (hm.pick [0, 1, 2] [0, 1, 2, 3] [1] rfl rfl).cx⟩
   refine gw_set 17 rfl (congrArg Value.bool h1) ?_
   have hI := fIt_go h1
   rw [hw] at hI
   rw [item_vh] at hI
   refine gw_look (R := ∃ A cc, v3 = .slice A vl.length cc) (fun wx hm => own_slice (hm.ownI 2 rfl)) ?_
   rintro ⟨A_, c_, rfl⟩
   refine cf_ rfl (sr_ (mv_ rfl ?_))
   refine wl_ov (ov_index (j := 0) es103 rfl rfl (by omega)) rfl ?_
   refine wl_ov (ov_elem1 (k := 0) (v := .string ⟨#[118, 101, 104, 105, 99, 108, 101]⟩) sc9 rfl (fun _ hm => (hm.fact 0 rfl)) (show ([vhW, a1, a2] : List ByteArray)[0]? = some vhW from rfl) rfl rfl) rfl ?_
   refine wl_ov (ov_seql rfl rfl) rfl ?_
   refine wl_set 24 (v' := .bool false) rfl (congrArg Value.bool (by decide +kernel)) ?_
   refine mv_ rfl (goff rfl rfl rfl (goff rfl rfl rfl (goff rfl rfl rfl (pf_ rfl rfl (sg_ rfl (nn_ (cf_ rfl (sr_ (mv_ rfl ?_)))))))))
   refine wl_ov (ov_index (j := 0) es103 rfl rfl (by omega)) rfl ?_
   refine wl_ov (ov_elem1 (k := 0) (v := .string ⟨#[118, 101, 104, 105, 99, 108, 101]⟩) sc9 rfl (fun _ hm => (hm.fact 0 rfl)) (show ([vhW, a1, a2] : List ByteArray)[0]? = some vhW from rfl) rfl rfl) rfl ?_
   refine wl_ov (ov_seql rfl rfl) rfl ?_
   refine wl_set 51 (v' := .bool false) rfl (congrArg Value.bool (by decide +kernel)) ?_
   refine mv_ rfl (goff rfl rfl rfl (goff rfl rfl rfl (goff rfl rfl rfl (pf_ rfl rfl (sg_ rfl (nn_ (cf_ rfl (sr_ (mv_ rfl ?_)))))))))
   refine wl_ov (ov_index (j := 0) es103 rfl rfl (by omega)) rfl ?_
   refine wl_ov (ov_elem1 (k := 0) (v := .string ⟨#[118, 101, 104, 105, 99, 108, 101]⟩) sc9 rfl (fun _ hm => (hm.fact 0 rfl)) (show ([vhW, a1, a2] : List ByteArray)[0]? = some vhW from rfl) rfl rfl) rfl ?_
   refine wl_ov (ov_seql rfl rfl) rfl ?_
   refine wl_set 82 (v' := .bool true) rfl (congrArg Value.bool (by decide +kernel)) ?_
   refine mv_ rfl (wl_guard_on rfl rfl rfl (mv_ rfl (wl_guard_on rfl rfl rfl (wl_ov (ov_len es103 rfl) rfl ?_))))
   refine wl_set 85 (v' := .int .i64 3) rfl rfl ?_
   refine wl_guard_on rfl rfl rfl (wl_ov (ov_eql rfl rfl) rfl ?_)
   refine wl_set 86 (v' := .bool true) rfl (congrArg Value.bool (by decide)) ?_
   refine pt_ rfl rfl (sg_ rfl (nn_ (ct_ rfl (gw_seq ?_))))
   refine gd (fun wz => Blk wz gl 3 [.int .i64 la] /\ Blk wz gr 62 [.slice none 0 0, .slice none 0 0, .slice none 0 0, .slice none 0 0] /\ (fun wy => SlT sgEnc 1 9 wy (some ⟨gw, 0, none⟩) 3 ([vhW, a1, a2])) wz /\ (TxtO w0.heap.size none) wz /\ True) mixed (fun _ hm => ⟨hm.bl 1, hm.bl 2, hm.fa 0, hm.fa 1, trivial⟩) fun z => ?_
   refine wt 0 17 1 rfl z (ov_move rfl) ?_
   refine wt 1 17 3 rfl z (ov_move rfl) ?_
   refine wt 2 17 7 rfl z (ov_nilcheck rfl) ?_
   refine wt 3 17 15 rfl z (ov_field fo62_2 rfl rfl) ?_
   refine wt 5 17 47 rfl z (ov_move rfl) ?_
   refine wt 6 17 111 rfl z (ov_index (j := 1) es103 rfl rfl (by omega)) ?_
   refine wt 7 17 239 rfl z (ov_elem1 (k := 0) (v := .string a1) sc9 rfl (fun _ hm => (hm.2.2.1)) (show ([vhW, a1, a2] : List ByteArray)[1]? = some a1 from rfl) rfl rfl) ?_
   refine wt 8 17 495 rfl z (ov_move rfl) ?_
   refine wt 9 17 1007 rfl z (ov_index (j := 2) es103 rfl rfl (by omega)) ?_
   refine wt 10 17 2031 rfl z (ov_elem1 (k := 0) (v := .string a2) sc9 rfl (fun _ hm => (hm.2.2.1)) (show ([vhW, a1, a2] : List ByteArray)[2]? = some a2 from rfl) rfl rfl) ?_
   refine wt 11 17 4079 rfl z (ov_build (cs := [.string a1, .string a2]) rfl (by kernel_rfl)) ?_
   refine wa_all [4, 12] (by kernel_rfl) rfl ⟨⟨_, rfl, ?_⟩, ⟨_, rfl, ?_⟩, trivial⟩
   ·refine lk_ sc59 0 rfl rfl rfl (wl_nil ?_)
    refine nw 17 4095 (fun _ hm => ⟨hm.bl 1, hm.bl 2, hm.fa 0, hm.fa 1, trivial⟩) fun z => ?_
    refine wa1 12 rfl ?_
    refine wl_buildSlice (e := 160) (cs := [.string a1, .string a2]) rfl (by kernel_rfl) rfl fun g11 => ?_
    refine wl_nil ?_
    refine nw 17 8191 (fun _ hm => ⟨hm.bl 2, hm.bl 3, hm.fa 0, hm.fa 1, trivial⟩) fun z => ?_
    refine wa1 13 rfl ?_
    refine wl_append (news := [.string a1, .string a2]) 2 0 ap59 rfl rfl rfl rfl rfl rfl rfl (by omega) (by unfold maxLen; omega) rfl rfl fun v9 hv => ?_
    refine wl_look (R := ∃ A cc, v9 = .slice A (vl.length + 1) cc) (fun wx hm => own_slice (hm.ownI 2 rfl)) ?_
    rintro ⟨A5, c5, rfl⟩
    refine wl_nil ?_
    refine nw 17 16383 (fun _ hm => ⟨hm.bl 2, hm.bl 3, hm.fa 0, hm.fa 1, trivial⟩) fun z => ?_
    refine wt 14 17 32767 rfl z (ov_nilcheck rfl) ?_
    refine wt 15 17 65535 rfl z (ov_field fo62_2 rfl rfl) ?_
    refine wa1 16 rfl ?_
    refine wl_store 1 sc59 rfl rfl rfl rfl rfl rfl ?_
    refine wl_nil ?_
    refine nw 17 131071 (fun _ hm => ⟨hm.bl 2, hm.bl 3, hm.fa 0, hm.fa 1, trivial⟩) fun z => ?_
    refine wa_done (by kernel_rfl) ?_
    refine nx_then (sr_ (sg_ rfl (nn_ ?_)))
    refine gw_ret ?_
    refine nx_blk_ret (nx_then_ret ?_)
    rw [show vl.flatMap vhEnc ++ ([.string a1, .string a2] : List Value) = (vl ++ [((⟨a1, a2⟩ : Vh))]).flatMap vhEnc from by simp [vhEnc]]
    refine nx_ret1 rfl rfl fun wx hm => ?_
    refine ⟨v1, v2, .slice A5 (vl.length + 1) c5, v4, (sl, cl, vl ++ [(⟨a1, a2⟩ : Vh)], pl), by rw [hI]; rfl, (fun x hx => by rw [hI] at hx; cases hx; rfl), ?_⟩
    have e9 : (vl ++ [(⟨a1, a2⟩ : Vh)]).length = vl.length + 1 := by simp
    show Mem ⟨0, w0, none, [9]⟩ (fun _ => True) (fpL gf gl gr la v1 v2 (.slice A5 (vl.length + 1) c5) v4) [⟨v1, 152, 15, (sl).length, (sl).flatMap stEnc⟩, ⟨v2, 158, 2, (cl).length, (cl).flatMap csEnc⟩, ⟨.slice A5 (vl.length + 1) c5, 160, 2, (vl ++ [(⟨a1, a2⟩ : Vh)]).length, (vl ++ [(⟨a1, a2⟩ : Vh)]).flatMap vhEnc⟩, ⟨v4, 162, 3, (pl).length, (pl).flatMap plEnc⟩] [TxtO w0.heap.size none] _
    rw [e9]
    exact (hm.pick [1, 2, 3] [0, 1, 2, 3] [1] rfl rfl).cx
   refine wl_buildSlice (e := 160) (cs := [.string a1, .string a2]) rfl (by kernel_rfl) rfl fun g12 => ?_
   refine wl_nil ?_
   refine nw 17 8175 (fun _ hm => ⟨hm.bl 2, hm.bl 3, hm.fa 0, hm.fa 1, trivial⟩) fun z => ?_
   refine wa1 4 rfl ?_
   refine lk_ sc59 1 rfl rfl rfl (wl_nil ?_)
   refine nw 17 8191 (fun _ hm => ⟨hm.bl 2, hm.bl 3, hm.fa 0, hm.fa 1, trivial⟩) fun z => ?_
   refine wa1 13 rfl ?_
   refine wl_append (news := [.string a1, .string a2]) 2 0 ap59 rfl rfl rfl rfl rfl rfl rfl (by omega) (by unfold maxLen; omega) rfl rfl fun v9 hv => ?_
   refine wl_look (R := ∃ A cc, v9 = .slice A (vl.length + 1) cc) (fun wx hm => own_slice (hm.ownI 2 rfl)) ?_
   rintro ⟨A5, c5, rfl⟩
   refine wl_nil ?_
   refine nw 17 16383 (fun _ hm => ⟨hm.bl 2, hm.bl 3, hm.fa 0, hm.fa 1, trivial⟩) fun z => ?_
   refine wt 14 17 32767 rfl z (ov_nilcheck rfl) ?_
   refine wt 15 17 65535 rfl z (ov_field fo62_2 rfl rfl) ?_
   refine wa1 16 rfl ?_
   refine wl_store 1 sc59 rfl rfl rfl rfl rfl rfl ?_
   refine wl_nil ?_
   refine nw 17 131071 (fun _ hm => ⟨hm.bl 2, hm.bl 3, hm.fa 0, hm.fa 1, trivial⟩) fun z => ?_
   refine wa_done (by kernel_rfl) ?_
   refine nx_then (sr_ (sg_ rfl (nn_ ?_)))
   refine gw_ret ?_
   refine nx_blk_ret (nx_then_ret ?_)
   rw [show vl.flatMap vhEnc ++ ([.string a1, .string a2] : List Value) = (vl ++ [((⟨a1, a2⟩ : Vh))]).flatMap vhEnc from by simp [vhEnc]]
   refine nx_ret1 rfl rfl fun wx hm => ?_
   refine ⟨v1, v2, .slice A5 (vl.length + 1) c5, v4, (sl, cl, vl ++ [(⟨a1, a2⟩ : Vh)], pl), by rw [hI]; rfl, (fun x hx => by rw [hI] at hx; cases hx; rfl), ?_⟩
   have e9 : (vl ++ [(⟨a1, a2⟩ : Vh)]).length = vl.length + 1 := by simp
   show Mem ⟨0, w0, none, [9]⟩ (fun _ => True) (fpL gf gl gr la v1 v2 (.slice A5 (vl.length + 1) c5) v4) [⟨v1, 152, 15, (sl).length, (sl).flatMap stEnc⟩, ⟨v2, 158, 2, (cl).length, (cl).flatMap csEnc⟩, ⟨.slice A5 (vl.length + 1) c5, 160, 2, (vl ++ [(⟨a1, a2⟩ : Vh)]).length, (vl ++ [(⟨a1, a2⟩ : Vh)]).flatMap vhEnc⟩, ⟨v4, 162, 3, (pl).length, (pl).flatMap plEnc⟩] [TxtO w0.heap.size none] _
   rw [e9]
   exact (hm.pick [1, 2, 3] [0, 1, 2, 3] [1] rfl rfl).cx
  refine sg_ rfl (nn_ (sr_ (mv_ rfl ?_)))
  refine wl_callx (γ := Nat × Nat) (val := (fun g => .tuple #[.slice (some ⟨g.1, 0, none⟩) g.2 g.2, .bool (wdB t)])) (φ := (fun g => g.2 = (wdL t).length /\ 1 <= g.2 /\ g.2 <= t.size + 1)) (Y := (fun g => fun wy => SlT sgEnc 1 9 wy (some ⟨g.1, 0, none⟩) g.2 (wdL t))) rfl cb77 rfl rfl (fun wx hm => (words_any t wx (hm.fact 0 rfl).1 hts).mono fun _ _ ⟨gw, k, he, h1, h2, hg⟩ => ⟨(gw, k), he, ⟨h1.len.symm, h2⟩, hg, h1⟩) (fun _ => SlT.lasts2 rfl) ?_
  rintro ⟨gw, kw⟩ hkw
  dsimp only at hkw ⊢
  obtain ⟨hkl, hk1, hk2⟩ := hkw
  refine mv_ rfl (wl_ov (ov_extract rfl rfl) rfl (wl_ov (ov_extract rfl rfl) rfl (sg_ rfl (sg_ rfl (nn_ (gw_seq (gw_block (sr_ (mv_ rfl (wl_ov (ov_un_not rfl) rfl (sg_ rfl ?_)))))))))))
  refine nn_ ?_
  rcases Bool.eq_false_or_eq_true (!(wdB t)) with h1 | h1
  ·refine gw_set 17 rfl (congrArg Value.bool h1) ?_
   refine ct_ rfl (sr_ (sg_ rfl (nn_ ?_)))
   refine gw_ret ?_
   refine nx_blk_ret (nx_then_ret ?_)
   refine nx_ret1 rfl rfl fun wx hm => ?_
   exact ⟨v1, v2, v3, v4, (sl, cl, vl, pl), by rw [fIt_wd h1]; rfl, (fun x hx => by rw [fIt_wd h1] at hx; cases hx), (hm.pick [0, 1, 2] [0, 1, 2, 3] [1] rfl rfl).cx⟩
  refine gw_set 17 rfl (congrArg Value.bool h1) ?_
  have hI : fIt t = none := (fIt_go h1).trans (fItem_bad hx0 (fun h => absurd h hN) (fun h => by decide +kernel) (fun h => by decide +kernel))
  refine cf_ rfl (sr_ (mv_ rfl ?_))
  refine wl_ov (ov_index (j := 0) es103 rfl rfl (by omega)) rfl ?_
  refine wl_ov (ov_elem1 (k := 0) (v := .string ⟨#[118, 101, 104, 105, 99, 108, 101]⟩) sc9 rfl (fun _ hm => (hm.fact 0 rfl)) hx0 rfl rfl) rfl ?_
  refine wl_ov (ov_seql rfl rfl) rfl ?_
  refine wl_set 24 (v' := .bool false) rfl (congrArg Value.bool (by decide +kernel)) ?_
  refine mv_ rfl (goff rfl rfl rfl (goff rfl rfl rfl (goff rfl rfl rfl (pf_ rfl rfl (sg_ rfl (nn_ (cf_ rfl (sr_ (mv_ rfl ?_)))))))))
  refine wl_ov (ov_index (j := 0) es103 rfl rfl (by omega)) rfl ?_
  refine wl_ov (ov_elem1 (k := 0) (v := .string ⟨#[118, 101, 104, 105, 99, 108, 101]⟩) sc9 rfl (fun _ hm => (hm.fact 0 rfl)) hx0 rfl rfl) rfl ?_
  refine wl_ov (ov_seql rfl rfl) rfl ?_
  refine wl_set 51 (v' := .bool false) rfl (congrArg Value.bool (by decide +kernel)) ?_
  refine mv_ rfl (goff rfl rfl rfl (goff rfl rfl rfl (goff rfl rfl rfl (pf_ rfl rfl (sg_ rfl (nn_ (cf_ rfl (sr_ (mv_ rfl ?_)))))))))
  refine wl_ov (ov_index (j := 0) es103 rfl rfl (by omega)) rfl ?_
  refine wl_ov (ov_elem1 (k := 0) (v := .string ⟨#[118, 101, 104, 105, 99, 108, 101]⟩) sc9 rfl (fun _ hm => (hm.fact 0 rfl)) hx0 rfl rfl) rfl ?_
  refine wl_ov (ov_seql rfl rfl) rfl ?_
  refine wl_set 82 (v' := .bool true) rfl (congrArg Value.bool (by decide +kernel)) ?_
  refine mv_ rfl (wl_guard_on rfl rfl rfl (mv_ rfl (wl_guard_on rfl rfl rfl (wl_ov (ov_len es103 rfl) rfl (wl_guard_on rfl rfl rfl (wl_ov (ov_eql rfl rfl) rfl (pt_ rfl rfl (sg_ rfl (nn_ ?_)))))))))
  refine gw_set 78 (v' := .bool false) rfl (congrArg Value.bool (decide_eq_false (by omega))) ?_
  refine cf_ rfl (sr_ (mv_ rfl ?_))
  refine wl_ov (ov_index (j := 0) es103 rfl rfl (by omega)) rfl ?_
  refine wl_ov (ov_elem1 (k := 0) (v := .string ⟨#[118, 101, 104, 105, 99, 108, 101]⟩) sc9 rfl (fun _ hm => (hm.fact 0 rfl)) hx0 rfl rfl) rfl ?_
  refine wl_ov (ov_seql rfl rfl) rfl ?_
  refine wl_set 108 (v' := .bool false) rfl (congrArg Value.bool (by decide +kernel)) ?_
  refine mv_ rfl (goff rfl rfl rfl (goff rfl rfl rfl (goff rfl rfl rfl (pf_ rfl rfl (sg_ rfl (nn_ (cf_ rfl (gw_skip (nx_blk_nrm (nx_then (sr_ ?_)))))))))))
  refine sg_ rfl (nn_ ?_)
  refine gw_ret ?_
  refine nx_ret1 rfl rfl fun wx hm => ?_
  exact ⟨v1, v2, v3, v4, (sl, cl, vl, pl), by rw [hI]; rfl, (fun x hx => by rw [hI] at hx; cases hx), (hm.pick [0, 1, 2] [0, 1, 2, 3] [1] rfl rfl).cx⟩
 ·subst h
  by_cases hN : (wdL t).length = 4
  ·obtain ⟨a0, a1, a2, a3, hw⟩ := list4f hN
   have hb0 : a0 = plW := by rw [hw] at hx0; simpa using hx0
   subst hb0
   rw [hw] at hwz
   have za1 : a1.size <= 1000000 := hwz a1 (by simp)
   have za2 : a2.size <= 1000000 := hwz a2 (by simp)
   have za3 : a3.size <= 1000000 := hwz a3 (by simp)
   refine sg_ rfl (nn_ (sr_ (mv_ rfl ?_)))
   refine wl_callx (γ := Nat × Nat) (val := (fun g => .tuple #[.slice (some ⟨g.1, 0, none⟩) g.2 g.2, .bool (wdB t)])) (φ := (fun g => g.2 = 4)) (Y := (fun g => fun wy => SlT sgEnc 1 9 wy (some ⟨g.1, 0, none⟩) g.2 ([plW, a1, a2, a3]))) rfl cb77 rfl rfl (fun wx hm => (words_any t wx (hm.fact 0 rfl).1 hts).mono fun _ _ ⟨gw, k, he, h1, h2, hg⟩ => ⟨(gw, k), he, by have h := h1.len; rw [hw] at h; exact h.symm, hg, by rw [hw] at h1; exact h1⟩) (fun _ => SlT.lasts2 rfl) ?_
   rintro ⟨gw, kw⟩ hkw
   dsimp only at hkw ⊢
   subst hkw
   refine mv_ rfl (wl_ov (ov_extract rfl rfl) rfl (wl_ov (ov_extract rfl rfl) rfl (sg_ rfl (sg_ rfl (nn_ (gw_seq (gw_block (sr_ (mv_ rfl (wl_ov (ov_un_not rfl) rfl (sg_ rfl ?_)))))))))))
   refine nn_ ?_
   rcases Bool.eq_false_or_eq_true (!(wdB t)) with h1 | h1
   ·refine gw_set 17 rfl (congrArg Value.bool h1) ?_
    refine ct_ rfl (sr_ (sg_ rfl (nn_ ?_)))
    refine gw_ret ?_
    refine nx_blk_ret (nx_then_ret ?_)
    refine nx_ret1 rfl rfl fun wx hm => ?_
    exact ⟨v1, v2, v3, v4, (sl, cl, vl, pl), by rw [fIt_wd h1]; rfl, (fun x hx => by rw [fIt_wd h1] at hx; cases hx), (hm.pick [0, 1, 2] [0, 1, 2, 3] [1] rfl rfl).cx⟩
   refine gw_set 17 rfl (congrArg Value.bool h1) ?_
   have hI := fIt_go h1
   rw [hw] at hI
   refine cf_ rfl (sr_ (mv_ rfl ?_))
   refine wl_ov (ov_index (j := 0) es103 rfl rfl (by omega)) rfl ?_
   refine wl_ov (ov_elem1 (k := 0) (v := .string ⟨#[112, 108, 97, 116, 101]⟩) sc9 rfl (fun _ hm => (hm.fact 0 rfl)) (show ([plW, a1, a2, a3] : List ByteArray)[0]? = some plW from rfl) rfl rfl) rfl ?_
   refine wl_ov (ov_seql rfl rfl) rfl ?_
   refine wl_set 24 (v' := .bool false) rfl (congrArg Value.bool (by decide +kernel)) ?_
   refine mv_ rfl (goff rfl rfl rfl (goff rfl rfl rfl (goff rfl rfl rfl (pf_ rfl rfl (sg_ rfl (nn_ (cf_ rfl (sr_ (mv_ rfl ?_)))))))))
   refine wl_ov (ov_index (j := 0) es103 rfl rfl (by omega)) rfl ?_
   refine wl_ov (ov_elem1 (k := 0) (v := .string ⟨#[112, 108, 97, 116, 101]⟩) sc9 rfl (fun _ hm => (hm.fact 0 rfl)) (show ([plW, a1, a2, a3] : List ByteArray)[0]? = some plW from rfl) rfl rfl) rfl ?_
   refine wl_ov (ov_seql rfl rfl) rfl ?_
   refine wl_set 51 (v' := .bool false) rfl (congrArg Value.bool (by decide +kernel)) ?_
   refine mv_ rfl (goff rfl rfl rfl (goff rfl rfl rfl (goff rfl rfl rfl (pf_ rfl rfl (sg_ rfl (nn_ (cf_ rfl (sr_ (mv_ rfl ?_)))))))))
   refine wl_ov (ov_index (j := 0) es103 rfl rfl (by omega)) rfl ?_
   refine wl_ov (ov_elem1 (k := 0) (v := .string ⟨#[112, 108, 97, 116, 101]⟩) sc9 rfl (fun _ hm => (hm.fact 0 rfl)) (show ([plW, a1, a2, a3] : List ByteArray)[0]? = some plW from rfl) rfl rfl) rfl ?_
   refine wl_ov (ov_seql rfl rfl) rfl ?_
   refine wl_set 82 (v' := .bool false) rfl (congrArg Value.bool (by decide +kernel)) ?_
   refine mv_ rfl (goff rfl rfl rfl (goff rfl rfl rfl (goff rfl rfl rfl (pf_ rfl rfl (sg_ rfl (nn_ (cf_ rfl (sr_ (mv_ rfl ?_)))))))))
   refine wl_ov (ov_index (j := 0) es103 rfl rfl (by omega)) rfl ?_
   refine wl_ov (ov_elem1 (k := 0) (v := .string ⟨#[112, 108, 97, 116, 101]⟩) sc9 rfl (fun _ hm => (hm.fact 0 rfl)) (show ([plW, a1, a2, a3] : List ByteArray)[0]? = some plW from rfl) rfl rfl) rfl ?_
   refine wl_ov (ov_seql rfl rfl) rfl ?_
   refine wl_set 108 (v' := .bool true) rfl (congrArg Value.bool (by decide +kernel)) ?_
   refine mv_ rfl (wl_guard_on rfl rfl rfl (mv_ rfl (wl_guard_on rfl rfl rfl (wl_ov (ov_len es103 rfl) rfl ?_))))
   refine wl_set 111 (v' := .int .i64 4) rfl rfl ?_
   refine wl_guard_on rfl rfl rfl (wl_ov (ov_eql rfl rfl) rfl ?_)
   refine wl_set 112 (v' := .bool true) rfl (congrArg Value.bool (by decide)) ?_
   refine pt_ rfl rfl (sg_ rfl (nn_ (ct_ rfl (sr_ (mv_ rfl ?_)))))
   refine wl_ov (ov_index (j := 1) es103 rfl rfl (by omega)) rfl ?_
   refine wl_ov (ov_elem1 (k := 0) (v := .string a1) sc9 rfl (fun _ hm => (hm.fact 0 rfl)) (show ([plW, a1, a2, a3] : List ByteArray)[1]? = some a1 from rfl) rfl rfl) rfl ?_
   refine wl_callx (γ := Int) (val := (fun g => .tuple #[.int .i64 g, .bool (numB a1)])) (φ := (fun g => numB a1 = true -> g = numV a1)) (Y := (fun g => fun _ => True)) rfl cb118 rfl rfl (fun wx hm => (number_any a1 wx (hm.fact 1 rfl).1 za1).mono fun _ _ ⟨v, he, hv, hg⟩ => ⟨v, he, hv, hg, trivial⟩) (fun _ => Lasts2.true_) ?_
   rintro nv hnv
   refine mv_ rfl (wl_ov (ov_extract rfl rfl) rfl (wl_ov (ov_extract rfl rfl) rfl (sg_ rfl (sg_ rfl (nn_ (gw_seq (sr_ (mv_ rfl (wl_ov (ov_un_not rfl) rfl (nn_ ?_))))))))))
   rcases Bool.eq_false_or_eq_true (!(numB a1)) with hb | hb
   ·refine gw_set 122 rfl (congrArg Value.bool hb) ?_
    rw [item_pl_no a2 a3 (fnot_t hb)] at hI
    refine ct_ rfl (sr_ (sg_ rfl (nn_ ?_)))
    refine gw_ret ?_
    refine nx_then_ret (nx_blk_ret (nx_then_ret ?_))
    refine nx_ret1 rfl rfl fun wx hm => ?_
    exact ⟨v1, v2, v3, v4, (sl, cl, vl, pl), by rw [hI]; rfl, (fun x hx => by rw [hI] at hx; cases hx), (hm.pick [0, 1, 2] [0, 1, 2, 3] [2] rfl rfl).cx⟩
   refine gw_set 122 rfl (congrArg Value.bool hb) ?_
   have hb := fnot_f hb
   obtain rfl := hnv hb
   rw [item_pl a2 a3 hb] at hI
   refine gw_look (R := ∃ A cc, v4 = .slice A pl.length cc) (fun wx hm => own_slice (hm.ownI 3 rfl)) ?_
   rintro ⟨A_, c_, rfl⟩
   refine cf_ rfl (gw_skip (nx_then (gw_seq ?_)))
   refine gd (fun wz => Blk wz gl 3 [.int .i64 la] /\ Blk wz gr 62 [.slice none 0 0, .slice none 0 0, .slice none 0 0, .slice none 0 0] /\ (fun _ => True) wz /\ (fun wy => SlT sgEnc 1 9 wy (some ⟨gw, 0, none⟩) 4 ([plW, a1, a2, a3])) wz /\ (TxtO w0.heap.size none) wz /\ True) mixed (fun _ hm => ⟨hm.bl 1, hm.bl 2, hm.fa 0, hm.fa 1, hm.fa 2, trivial⟩) fun z => ?_
   refine wt 0 18 1 rfl z (ov_move rfl) ?_
   refine wt 1 18 3 rfl z (ov_move rfl) ?_
   refine wt 2 18 7 rfl z (ov_nilcheck rfl) ?_
   refine wt 3 18 15 rfl z (ov_field fo62_3 rfl rfl) ?_
   refine wt 5 18 47 rfl z (ov_move rfl) ?_
   refine wt 6 18 111 rfl z (ov_move rfl) ?_
   refine wt 7 18 239 rfl z (ov_index (j := 2) es103 rfl rfl (by omega)) ?_
   refine wt 8 18 495 rfl z (ov_elem1 (k := 0) (v := .string a2) sc9 rfl (fun _ hm => (hm.2.2.2.1)) (show ([plW, a1, a2, a3] : List ByteArray)[2]? = some a2 from rfl) rfl rfl) ?_
   refine wt 9 18 1007 rfl z (ov_move rfl) ?_
   refine wt 10 18 2031 rfl z (ov_index (j := 3) es103 rfl rfl (by omega)) ?_
   refine wt 11 18 4079 rfl z (ov_elem1 (k := 0) (v := .string a3) sc9 rfl (fun _ hm => (hm.2.2.2.1)) (show ([plW, a1, a2, a3] : List ByteArray)[3]? = some a3 from rfl) rfl rfl) ?_
   refine wt 12 18 8175 rfl z (ov_build (cs := [.int .i64 (numV a1), .string a2, .string a3]) rfl (by kernel_rfl)) ?_
   refine wa_all [4, 13] (by kernel_rfl) rfl ⟨⟨_, rfl, ?_⟩, ⟨_, rfl, ?_⟩, trivial⟩
   ·refine lk_ sc60 0 rfl rfl rfl (wl_nil ?_)
    refine nw 18 8191 (fun _ hm => ⟨hm.bl 1, hm.bl 2, hm.fa 0, hm.fa 1, hm.fa 2, trivial⟩) fun z => ?_
    refine wa1 13 rfl ?_
    refine wl_buildSlice (e := 162) (cs := [.int .i64 (numV a1), .string a2, .string a3]) rfl (by kernel_rfl) rfl fun g14 => ?_
    refine wl_nil ?_
    refine nw 18 16383 (fun _ hm => ⟨hm.bl 2, hm.bl 3, hm.fa 0, hm.fa 1, hm.fa 2, trivial⟩) fun z => ?_
    refine wa1 14 rfl ?_
    refine wl_append (news := [.int .i64 (numV a1), .string a2, .string a3]) 3 0 ap60 rfl rfl rfl rfl rfl rfl rfl (by omega) (by unfold maxLen; omega) rfl rfl fun v9 hv => ?_
    refine wl_look (R := ∃ A cc, v9 = .slice A (pl.length + 1) cc) (fun wx hm => own_slice (hm.ownI 3 rfl)) ?_
    rintro ⟨A5, c5, rfl⟩
    refine wl_nil ?_
    refine nw 18 32767 (fun _ hm => ⟨hm.bl 2, hm.bl 3, hm.fa 0, hm.fa 1, hm.fa 2, trivial⟩) fun z => ?_
    refine wt 15 18 65535 rfl z (ov_nilcheck rfl) ?_
    refine wt 16 18 131071 rfl z (ov_field fo62_3 rfl rfl) ?_
    refine wa1 17 rfl ?_
    refine wl_store 1 sc60 rfl rfl rfl rfl rfl rfl ?_
    refine wl_nil ?_
    refine nw 18 262143 (fun _ hm => ⟨hm.bl 2, hm.bl 3, hm.fa 0, hm.fa 1, hm.fa 2, trivial⟩) fun z => ?_
    refine wa_done (by kernel_rfl) ?_
    refine nx_then (sr_ (sg_ rfl (nn_ ?_)))
    refine gw_ret ?_
    refine nx_blk_ret (nx_then_ret ?_)
    rw [show pl.flatMap plEnc ++ ([.int .i64 (numV a1), .string a2, .string a3] : List Value) = (pl ++ [((⟨numV a1, a2, a3⟩ : Pl))]).flatMap plEnc from by simp [plEnc]]
    refine nx_ret1 rfl rfl fun wx hm => ?_
    refine ⟨v1, v2, v3, .slice A5 (pl.length + 1) c5, (sl, cl, vl, pl ++ [(⟨numV a1, a2, a3⟩ : Pl)]), by rw [hI]; rfl, (fun x hx => by rw [hI] at hx; cases hx; rfl), ?_⟩
    have e9 : (pl ++ [(⟨numV a1, a2, a3⟩ : Pl)]).length = pl.length + 1 := by simp
    show Mem ⟨0, w0, none, [9]⟩ (fun _ => True) (fpL gf gl gr la v1 v2 v3 (.slice A5 (pl.length + 1) c5)) [⟨v1, 152, 15, (sl).length, (sl).flatMap stEnc⟩, ⟨v2, 158, 2, (cl).length, (cl).flatMap csEnc⟩, ⟨v3, 160, 2, (vl).length, (vl).flatMap vhEnc⟩, ⟨.slice A5 (pl.length + 1) c5, 162, 3, (pl ++ [(⟨numV a1, a2, a3⟩ : Pl)]).length, (pl ++ [(⟨numV a1, a2, a3⟩ : Pl)]).flatMap plEnc⟩] [TxtO w0.heap.size none] _
    rw [e9]
    exact (hm.pick [1, 2, 3] [0, 1, 2, 3] [2] rfl rfl).cx
   refine wl_buildSlice (e := 162) (cs := [.int .i64 (numV a1), .string a2, .string a3]) rfl (by kernel_rfl) rfl fun g15 => ?_
   refine wl_nil ?_
   refine nw 18 16367 (fun _ hm => ⟨hm.bl 2, hm.bl 3, hm.fa 0, hm.fa 1, hm.fa 2, trivial⟩) fun z => ?_
   refine wa1 4 rfl ?_
   refine lk_ sc60 1 rfl rfl rfl (wl_nil ?_)
   refine nw 18 16383 (fun _ hm => ⟨hm.bl 2, hm.bl 3, hm.fa 0, hm.fa 1, hm.fa 2, trivial⟩) fun z => ?_
   refine wa1 14 rfl ?_
   refine wl_append (news := [.int .i64 (numV a1), .string a2, .string a3]) 3 0 ap60 rfl rfl rfl rfl rfl rfl rfl (by omega) (by unfold maxLen; omega) rfl rfl fun v9 hv => ?_
   refine wl_look (R := ∃ A cc, v9 = .slice A (pl.length + 1) cc) (fun wx hm => own_slice (hm.ownI 3 rfl)) ?_
   rintro ⟨A5, c5, rfl⟩
   refine wl_nil ?_
   refine nw 18 32767 (fun _ hm => ⟨hm.bl 2, hm.bl 3, hm.fa 0, hm.fa 1, hm.fa 2, trivial⟩) fun z => ?_
   refine wt 15 18 65535 rfl z (ov_nilcheck rfl) ?_
   refine wt 16 18 131071 rfl z (ov_field fo62_3 rfl rfl) ?_
   refine wa1 17 rfl ?_
   refine wl_store 1 sc60 rfl rfl rfl rfl rfl rfl ?_
   refine wl_nil ?_
   refine nw 18 262143 (fun _ hm => ⟨hm.bl 2, hm.bl 3, hm.fa 0, hm.fa 1, hm.fa 2, trivial⟩) fun z => ?_
   refine wa_done (by kernel_rfl) ?_
   refine nx_then (sr_ (sg_ rfl (nn_ ?_)))
   refine gw_ret ?_
   refine nx_blk_ret (nx_then_ret ?_)
   rw [show pl.flatMap plEnc ++ ([.int .i64 (numV a1), .string a2, .string a3] : List Value) = (pl ++ [((⟨numV a1, a2, a3⟩ : Pl))]).flatMap plEnc from by simp [plEnc]]
   refine nx_ret1 rfl rfl fun wx hm => ?_
   refine ⟨v1, v2, v3, .slice A5 (pl.length + 1) c5, (sl, cl, vl, pl ++ [(⟨numV a1, a2, a3⟩ : Pl)]), by rw [hI]; rfl, (fun x hx => by rw [hI] at hx; cases hx; rfl), ?_⟩
   have e9 : (pl ++ [(⟨numV a1, a2, a3⟩ : Pl)]).length = pl.length + 1 := by simp
   show Mem ⟨0, w0, none, [9]⟩ (fun _ => True) (fpL gf gl gr la v1 v2 v3 (.slice A5 (pl.length + 1) c5)) [⟨v1, 152, 15, (sl).length, (sl).flatMap stEnc⟩, ⟨v2, 158, 2, (cl).length, (cl).flatMap csEnc⟩, ⟨v3, 160, 2, (vl).length, (vl).flatMap vhEnc⟩, ⟨.slice A5 (pl.length + 1) c5, 162, 3, (pl ++ [(⟨numV a1, a2, a3⟩ : Pl)]).length, (pl ++ [(⟨numV a1, a2, a3⟩ : Pl)]).flatMap plEnc⟩] [TxtO w0.heap.size none] _
   rw [e9]
   exact (hm.pick [1, 2, 3] [0, 1, 2, 3] [2] rfl rfl).cx
  refine sg_ rfl (nn_ (sr_ (mv_ rfl ?_)))
  refine wl_callx (γ := Nat × Nat) (val := (fun g => .tuple #[.slice (some ⟨g.1, 0, none⟩) g.2 g.2, .bool (wdB t)])) (φ := (fun g => g.2 = (wdL t).length /\ 1 <= g.2 /\ g.2 <= t.size + 1)) (Y := (fun g => fun wy => SlT sgEnc 1 9 wy (some ⟨g.1, 0, none⟩) g.2 (wdL t))) rfl cb77 rfl rfl (fun wx hm => (words_any t wx (hm.fact 0 rfl).1 hts).mono fun _ _ ⟨gw, k, he, h1, h2, hg⟩ => ⟨(gw, k), he, ⟨h1.len.symm, h2⟩, hg, h1⟩) (fun _ => SlT.lasts2 rfl) ?_
  rintro ⟨gw, kw⟩ hkw
  dsimp only at hkw ⊢
  obtain ⟨hkl, hk1, hk2⟩ := hkw
  refine mv_ rfl (wl_ov (ov_extract rfl rfl) rfl (wl_ov (ov_extract rfl rfl) rfl (sg_ rfl (sg_ rfl (nn_ (gw_seq (gw_block (sr_ (mv_ rfl (wl_ov (ov_un_not rfl) rfl (sg_ rfl ?_)))))))))))
  refine nn_ ?_
  rcases Bool.eq_false_or_eq_true (!(wdB t)) with h1 | h1
  ·refine gw_set 17 rfl (congrArg Value.bool h1) ?_
   refine ct_ rfl (sr_ (sg_ rfl (nn_ ?_)))
   refine gw_ret ?_
   refine nx_blk_ret (nx_then_ret ?_)
   refine nx_ret1 rfl rfl fun wx hm => ?_
   exact ⟨v1, v2, v3, v4, (sl, cl, vl, pl), by rw [fIt_wd h1]; rfl, (fun x hx => by rw [fIt_wd h1] at hx; cases hx), (hm.pick [0, 1, 2] [0, 1, 2, 3] [1] rfl rfl).cx⟩
  refine gw_set 17 rfl (congrArg Value.bool h1) ?_
  have hI : fIt t = none := (fIt_go h1).trans (fItem_bad hx0 (fun h => ⟨by decide +kernel, by decide +kernel⟩) (fun h => absurd h hN) (fun h => by decide +kernel))
  refine cf_ rfl (sr_ (mv_ rfl ?_))
  refine wl_ov (ov_index (j := 0) es103 rfl rfl (by omega)) rfl ?_
  refine wl_ov (ov_elem1 (k := 0) (v := .string ⟨#[112, 108, 97, 116, 101]⟩) sc9 rfl (fun _ hm => (hm.fact 0 rfl)) hx0 rfl rfl) rfl ?_
  refine wl_ov (ov_seql rfl rfl) rfl ?_
  refine wl_set 24 (v' := .bool false) rfl (congrArg Value.bool (by decide +kernel)) ?_
  refine mv_ rfl (goff rfl rfl rfl (goff rfl rfl rfl (goff rfl rfl rfl (pf_ rfl rfl (sg_ rfl (nn_ (cf_ rfl (sr_ (mv_ rfl ?_)))))))))
  refine wl_ov (ov_index (j := 0) es103 rfl rfl (by omega)) rfl ?_
  refine wl_ov (ov_elem1 (k := 0) (v := .string ⟨#[112, 108, 97, 116, 101]⟩) sc9 rfl (fun _ hm => (hm.fact 0 rfl)) hx0 rfl rfl) rfl ?_
  refine wl_ov (ov_seql rfl rfl) rfl ?_
  refine wl_set 51 (v' := .bool false) rfl (congrArg Value.bool (by decide +kernel)) ?_
  refine mv_ rfl (goff rfl rfl rfl (goff rfl rfl rfl (goff rfl rfl rfl (pf_ rfl rfl (sg_ rfl (nn_ (cf_ rfl (sr_ (mv_ rfl ?_)))))))))
  refine wl_ov (ov_index (j := 0) es103 rfl rfl (by omega)) rfl ?_
  refine wl_ov (ov_elem1 (k := 0) (v := .string ⟨#[112, 108, 97, 116, 101]⟩) sc9 rfl (fun _ hm => (hm.fact 0 rfl)) hx0 rfl rfl) rfl ?_
  refine wl_ov (ov_seql rfl rfl) rfl ?_
  refine wl_set 82 (v' := .bool false) rfl (congrArg Value.bool (by decide +kernel)) ?_
  refine mv_ rfl (goff rfl rfl rfl (goff rfl rfl rfl (goff rfl rfl rfl (pf_ rfl rfl (sg_ rfl (nn_ (cf_ rfl (sr_ (mv_ rfl ?_)))))))))
  refine wl_ov (ov_index (j := 0) es103 rfl rfl (by omega)) rfl ?_
  refine wl_ov (ov_elem1 (k := 0) (v := .string ⟨#[112, 108, 97, 116, 101]⟩) sc9 rfl (fun _ hm => (hm.fact 0 rfl)) hx0 rfl rfl) rfl ?_
  refine wl_ov (ov_seql rfl rfl) rfl ?_
  refine wl_set 108 (v' := .bool true) rfl (congrArg Value.bool (by decide +kernel)) ?_
  refine mv_ rfl (wl_guard_on rfl rfl rfl (mv_ rfl (wl_guard_on rfl rfl rfl (wl_ov (ov_len es103 rfl) rfl (wl_guard_on rfl rfl rfl (wl_ov (ov_eql rfl rfl) rfl (pt_ rfl rfl (sg_ rfl (nn_ ?_)))))))))
  refine gw_set 104 (v' := .bool false) rfl (congrArg Value.bool (decide_eq_false (by omega))) ?_
  refine cf_ rfl (gw_skip (nx_blk_nrm (nx_then (sr_ (sg_ rfl (nn_ ?_))))))
  refine gw_ret ?_
  refine nx_ret1 rfl rfl fun wx hm => ?_
  exact ⟨v1, v2, v3, v4, (sl, cl, vl, pl), by rw [hI]; rfl, (fun x hx => by rw [hI] at hx; cases hx), (hm.pick [0, 1, 2] [0, 1, 2, 3] [1] rfl rfl).cx⟩
 refine sg_ rfl (nn_ (sr_ (mv_ rfl ?_)))
 refine wl_callx (γ := Nat × Nat) (val := (fun g => .tuple #[.slice (some ⟨g.1, 0, none⟩) g.2 g.2, .bool (wdB t)])) (φ := (fun g => g.2 = (wdL t).length /\ 1 <= g.2 /\ g.2 <= t.size + 1)) (Y := (fun g => fun wy => SlT sgEnc 1 9 wy (some ⟨g.1, 0, none⟩) g.2 (wdL t))) rfl cb77 rfl rfl (fun wx hm => (words_any t wx (hm.fact 0 rfl).1 hts).mono fun _ _ ⟨gw, k, he, h1, h2, hg⟩ => ⟨(gw, k), he, ⟨h1.len.symm, h2⟩, hg, h1⟩) (fun _ => SlT.lasts2 rfl) ?_
 rintro ⟨gw, kw⟩ hkw
 dsimp only at hkw ⊢
 obtain ⟨hkl, hk1, hk2⟩ := hkw
 refine mv_ rfl (wl_ov (ov_extract rfl rfl) rfl (wl_ov (ov_extract rfl rfl) rfl (sg_ rfl (sg_ rfl (nn_ (gw_seq (gw_block (sr_ (mv_ rfl (wl_ov (ov_un_not rfl) rfl (sg_ rfl ?_)))))))))))
 refine nn_ ?_
 rcases Bool.eq_false_or_eq_true (!(wdB t)) with h1 | h1
 ·refine gw_set 17 rfl (congrArg Value.bool h1) ?_
  refine ct_ rfl (sr_ (sg_ rfl (nn_ ?_)))
  refine gw_ret ?_
  refine nx_blk_ret (nx_then_ret ?_)
  refine nx_ret1 rfl rfl fun wx hm => ?_
  exact ⟨v1, v2, v3, v4, (sl, cl, vl, pl), by rw [fIt_wd h1]; rfl, (fun x hx => by rw [fIt_wd h1] at hx; cases hx), (hm.pick [0, 1, 2] [0, 1, 2, 3] [1] rfl rfl).cx⟩
 refine gw_set 17 rfl (congrArg Value.bool h1) ?_
 have hI : fIt t = none := (fIt_go h1).trans (fItem_bad hx0 (fun _ => ⟨n2, n3⟩) (fun _ => n4) (fun _ => n1))
 refine cf_ rfl (sr_ (mv_ rfl ?_))
 refine wl_ov (ov_index (j := 0) es103 rfl rfl (by omega)) rfl ?_
 refine wl_ov (ov_elem1 (k := 0) (v := .string a0) sc9 rfl (fun _ hm => (hm.fact 0 rfl)) hx0 rfl rfl) rfl ?_
 refine wl_ov (ov_seql rfl rfl) rfl (mv_ rfl ?_)
 refine wl_set 25 (v' := .bool false) rfl (congrArg Value.bool n1) ?_
 refine goff rfl rfl rfl (goff rfl rfl rfl (goff rfl rfl rfl (pf_ rfl rfl (sg_ rfl (nn_ (cf_ rfl (sr_ (mv_ rfl ?_))))))))
 refine wl_ov (ov_index (j := 0) es103 rfl rfl (by omega)) rfl ?_
 refine wl_ov (ov_elem1 (k := 0) (v := .string a0) sc9 rfl (fun _ hm => (hm.fact 0 rfl)) hx0 rfl rfl) rfl ?_
 refine wl_ov (ov_seql rfl rfl) rfl (mv_ rfl ?_)
 refine wl_set 52 (v' := .bool false) rfl (congrArg Value.bool n2) ?_
 refine goff rfl rfl rfl (goff rfl rfl rfl (goff rfl rfl rfl (pf_ rfl rfl (sg_ rfl (nn_ (cf_ rfl (sr_ (mv_ rfl ?_))))))))
 refine wl_ov (ov_index (j := 0) es103 rfl rfl (by omega)) rfl ?_
 refine wl_ov (ov_elem1 (k := 0) (v := .string a0) sc9 rfl (fun _ hm => (hm.fact 0 rfl)) hx0 rfl rfl) rfl ?_
 refine wl_ov (ov_seql rfl rfl) rfl (mv_ rfl ?_)
 refine wl_set 83 (v' := .bool false) rfl (congrArg Value.bool n3) ?_
 refine goff rfl rfl rfl (goff rfl rfl rfl (goff rfl rfl rfl (pf_ rfl rfl (sg_ rfl (nn_ (cf_ rfl (sr_ (mv_ rfl ?_))))))))
 refine wl_ov (ov_index (j := 0) es103 rfl rfl (by omega)) rfl ?_
 refine wl_ov (ov_elem1 (k := 0) (v := .string a0) sc9 rfl (fun _ hm => (hm.fact 0 rfl)) hx0 rfl rfl) rfl ?_
 refine wl_ov (ov_seql rfl rfl) rfl (mv_ rfl ?_)
 refine wl_set 109 (v' := .bool false) rfl (congrArg Value.bool n4) ?_
 refine goff rfl rfl rfl (goff rfl rfl rfl (goff rfl rfl rfl (pf_ rfl rfl (sg_ rfl (nn_ (cf_ rfl (gw_skip (nx_blk_nrm (nx_then (sr_ (sg_ rfl ?_)))))))))))
 refine nn_ ?_
 refine gw_ret ?_
 refine nx_ret1 rfl rfl fun wx hm => ?_
 exact ⟨v1, v2, v3, v4, (sl, cl, vl, pl), by rw [hI]; rfl, (fun x hx => by rw [hI] at hx; cases hx), (hm.pick [0, 1, 2] [0, 1, 2, 3] [1] rfl rfl).cx⟩
theorem fRead1_w (t : ByteArray) (w0 w : World) (gf gl gr : Nat) (la : Int) (v1 v2 v3 v4 : Value) (sl : List St) (cl : List Cs) (vl : List Vh) (pl : List Pl) (hts : t.size <= 1000000) (bsl : sl.length <= 1000000) (bcl : cl.length <= 1000000) (bvl : vl.length <= 1000000) (bpl : pl.length <= 1000000) (hla : 1 <= la) (hm : Mem ⟨0, w0, none, [9]⟩ (fun _ => True) (fpL gf gl gr la v1 v2 v3 v4) (fpO (sl, cl, vl, pl) v1 v2 v3 v4) [TxtO w0.heap.size none] w) :
  Calls Tryz.prog 109 #[.string t, .pointer (some ⟨gf, 0, none⟩), .pointer (some ⟨gl, 0, none⟩)] w (fun e w' => ∃ (u1 u2 u3 u4 : Value) (st' : FsZ), e = .returned (.bool (fStep t ⟨sl, cl, vl, pl, la⟩).2) /\ ((fStep t ⟨sl, cl, vl, pl, la⟩).2 = true -> st' = (fStep t ⟨sl, cl, vl, pl, la⟩).1) /\ Mem ⟨0, w0, none, [9]⟩ (fun _ => True) (fpL gf gl gr st'.last u1 u2 u3 u4) (fpO (f4 st') u1 u2 u3 u4) [TxtO w0.heap.size none] w') := by
 replace hm : Mem ⟨0, w0, none, [9]⟩ (fun _ => True) [(gf, 62, [v1, v2, v3, v4]), (gl, 3, [.int .i64 la]), (gr, 62, [.slice none 0 0, .slice none 0 0, .slice none 0 0, .slice none 0 0])] [⟨v1, 152, 15, sl.length, sl.flatMap stEnc⟩, ⟨v2, 158, 2, cl.length, cl.flatMap csEnc⟩, ⟨v3, 160, 2, vl.length, vl.flatMap vhEnc⟩, ⟨v4, 162, 3, pl.length, pl.flatMap plEnc⟩] [TxtO w0.heap.size none] w := hm
 refine gw_enter ⟨12, w0, none, [9]⟩ Tryz.func109 rfl Tryz.ntmps109 rfl hm.cx ?_
 refine sr_ (sg_ rfl (nn_ (sr_ (mv_ rfl ?_))))
 refine wl_callG (γ := Value × Value × Value × Value × (List St × List Cs × List Vh × List Pl)) (val := fun _ => .int .i64 (itK (fIt t))) (φ := fun z => ∀ x, fIt t = some x -> z.2.2.2.2 = f4 (fPush ⟨sl, cl, vl, pl, 0⟩ x)) (K' := fun _ => (fun _ => True)) (L' := fun z => [(gf, 62, [z.1, z.2.1, z.2.2.1, z.2.2.2.1]), (gl, 3, [.int .i64 la]), (gr, 62, [.slice none 0 0, .slice none 0 0, .slice none 0 0, .slice none 0 0])]) (O' := fun z => [⟨z.1, 152, 15, z.2.2.2.2.1.length, z.2.2.2.2.1.flatMap stEnc⟩, ⟨z.2.1, 158, 2, z.2.2.2.2.2.1.length, z.2.2.2.2.2.1.flatMap csEnc⟩, ⟨z.2.2.1, 160, 2, z.2.2.2.2.2.2.1.length, z.2.2.2.2.2.2.1.flatMap vhEnc⟩, ⟨z.2.2.2.1, 162, 3, z.2.2.2.2.2.2.2.length, z.2.2.2.2.2.2.2.flatMap plEnc⟩]) (X' := fun _ => [TxtO w0.heap.size none]) rfl cb110 rfl rfl (fun wx hm => (take_w t w0 wx gf gl gr la v1 v2 v3 v4 sl cl vl pl hts bsl bcl bvl bpl (hm.pick [0, 1, 2] [0, 1, 2, 3] [0] rfl rfl).cx).mono fun e w' ⟨u1, u2, u3, u4, q, he, h1, hM⟩ => ⟨(u1, u2, u3, u4, q), he, h1, hM.cx⟩) ?_
 rintro ⟨u1, u2, u3, u4, q⟩ hq
 dsimp only at hq ⊢
 obtain ⟨KD, hKD⟩ : ∃ z, z = itK (fIt t) := ⟨_, rfl⟩
 rw [<- hKD]
 refine sg_ rfl (nn_ (gw_seq (sr_ (mv_ rfl (lk_ sc3 1 rfl rfl rfl (wl_ov (ov_lss rfl rfl) rfl (nn_ ?_)))))))
 refine gw_cond rfl (fun hh => ?_) (fun hh => ?_)
 ·have hk : KD < la := by simpa using hh
  clear hh
  refine sr_ ?_
  have hN : (fStep t ⟨sl, cl, vl, pl, la⟩).2 = false := by
   cases hi : fIt t with
   | none => rw [fStep_no hi]
   | some x =>
    rw [hi] at hKD
    have e : KD = x.kd := hKD
    rw [fStep_low (s := ⟨sl, cl, vl, pl, la⟩) hi (show x.kd < la by rw [<- e]; exact hk)]
  refine sg_ rfl (nn_ ?_)
  refine gw_ret ?_
  refine nx_then_ret ?_
  refine nx_ret1 rfl rfl fun wx hm => ?_
  exact ⟨u1, u2, u3, u4, ⟨q.1, q.2.1, q.2.2.1, q.2.2.2, la⟩, by rw [hN], (fun h => by rw [hN] at h; cases h), (hm.pick [0, 1, 2] [0, 1, 2, 3] [0] rfl rfl).cx⟩
 have hk : ¬ (KD < la) := by simpa using hh
 clear hh
 refine gw_skip (nx_then (sr_ (mv_ rfl ?_)))
 refine wl_store 1 sc3 rfl rfl rfl rfl rfl rfl ?_
 refine nn_ (sr_ (sg_ rfl (nn_ ?_)))
 refine gw_ret ?_
 obtain ⟨x, hi⟩ : ∃ x, fIt t = some x := by
  cases hi : fIt t with
  | none => rw [hi] at hKD; exact absurd (show KD < la by rw [hKD]; show (0 : Int) < la; omega) hk
  | some x => exact ⟨x, rfl⟩
 have hKx : KD = x.kd := by rw [hKD, hi]; rfl
 have hY := fStep_yes (s := ⟨sl, cl, vl, pl, la⟩) hi (show ¬ x.kd < la by rw [<- hKx]; exact hk)
 obtain rfl := hq x hi
 refine nx_ret1 rfl rfl fun wx hm => ?_
 refine ⟨u1, u2, u3, u4, fPush ⟨sl, cl, vl, pl, la⟩ x, by rw [hY], (fun _ => by rw [hY]), ?_⟩
 show Mem ⟨0, w0, none, [9]⟩ (fun _ => True) (fpL gf gl gr (fPush ⟨sl, cl, vl, pl, la⟩ x).last u1 u2 u3 u4) (fpO (f4 (fPush ⟨sl, cl, vl, pl, la⟩ x)) u1 u2 u3 u4) [TxtO w0.heap.size none] _
 rw [push_last, <- hKx, push_f4 ⟨sl, cl, vl, pl, la⟩ ⟨sl, cl, vl, pl, 0⟩ x rfl]
 exact (hm.pick [0, 1, 2] [0, 1, 2, 3] [0] rfl rfl).cx
end Go.Proofs.YtempjmpfdniecaaGreatDoor
namespace Go.Proofs.YtempjmpfdniecaaGreatDoor
open Go.RowKit
section
variable {c : Cx} {K : World -> Prop} {L : List (Nat × TypeId × List Value)} {O : List Own} {X X' : List (World -> Prop)} {w w' : World}
theorem Mem.handedK {i g : Nat} {T e : TypeId} {sz m : Nat} {cs0 cs1 : List Value} {v : Value} {xs : List Value} (hm : Mem c (fun _ => True) L O X w) (hi : L[i]? = some (g, T, cs0)) (hg : w.grownBy w' (some g)) (hb : Blk w' g T cs1) (ho : w'.ownsRow w.heap.size e sz v m xs)
    (hX : ∀ A ∈ X', (∀ w w', c.w0.heap.size <= g -> w.grownBy w' (some g) -> A w -> A w') /\ A ∈ X) : Mem c (fun _ => True) (L.set i (g, T, cs1)) [⟨v, e, sz, m, xs⟩] X' w' := by
  have hil := (List.getElem?_eq_some_iff.1 hi).1
  have hiv := (List.getElem?_eq_some_iff.1 hi).2
  have h1 := hm.b _ (List.mem_of_getElem? hi)
  have hlt : g < w.heap.size := h1.2.lt
  have hN : c.w0.heap.size <= w.heap.size := hm.g.size
  have hin : ∀ x ∈ L.set i (g, T, cs1), x = (g, T, cs1) ∨ (x ∈ L /\ x.1 ≠ g) := fun x hx => by
    obtain ⟨j, hj⟩ := List.getElem?_of_mem hx
    rw [List.getElem?_set] at hj
    by_cases hij : i = j
    · rw [if_pos hij, if_pos hil] at hj
      exact .inl (Option.some.inj hj).symm
    · rw [if_neg hij] at hj
      have hjl := (List.getElem?_eq_some_iff.1 hj).1
      have hjv := (List.getElem?_eq_some_iff.1 hj).2
      refine .inr ⟨List.mem_of_getElem? hj, fun he => ?_⟩
      have hp := List.pairwise_iff_getElem.1 hm.nd
      rcases Nat.lt_or_gt_of_ne hij with h1 | h1
      · exact hp i j hil hjl h1 (by rw [hiv, hjv]; exact he.symm)
      · exact hp j i hjl hil h1 (by rw [hiv, hjv]; exact he)
  have hlx : ∀ x ∈ L.set i (g, T, cs1), x.1 < w.heap.size := fun x hx => by
    rcases hin x hx with rfl | ⟨h, _⟩
    · exact hlt
    · exact (hm.b x h).2.lt
  refine ⟨⟨hg.os.trans hm.g.os, hg.tape.trans hm.g.tape, hg.output.trans hm.g.output, Nat.le_trans hm.g.size hg.size, fun k hk hne => ?_⟩, trivial, fun x hx => ?_, ?_, fun r hr => ?_, fun r hr x hx => ?_, List.pairwise_singleton _ _, fun A hA => (hX A hA).1 _ _ h1.1 hg (hm.x A (hX A hA).2), Keeps.true_, fun A hA => hm.l A (hX A hA).2, hm.rs⟩
  · exact (hg.block k (Nat.lt_of_lt_of_le hk hm.g.size) (fun e => by
      have e2 : k = g := by injection e
      have := h1.1
      omega)).trans (hm.g.block k hk hne)
  · rcases hin x hx with rfl | ⟨hxL, hxg⟩
    · exact ⟨h1.1, hb⟩
    · have h2 := hm.b x hxL
      have h3 : w.heap[x.1]? = some (.cells x.2.2.toArray x.2.1 (0, 0)) := h2.2
      exact ⟨h2.1, (hg.block x.1 h2.2.lt (fun e => hxg (by injection e))).trans h3⟩
  · have h2 : (L.map (·.1)).Pairwise (fun a b => a ≠ b) := List.pairwise_map.2 hm.nd
    have h3 : (L.set i (g, T, cs1)).map (·.1) = L.map (·.1) := by
      rw [List.map_set]
      apply List.ext_getElem?
      intro j
      rw [List.getElem?_set, List.length_map]
      by_cases hij : i = j
      · subst hij
        rw [if_pos rfl, if_pos hil, List.getElem?_map, hi]; rfl
      · rw [if_neg hij]
    rw [<- h3] at h2
    exact List.pairwise_map.1 h2
  · rw [List.mem_singleton.1 hr]
    refine ⟨ho.1, ?_⟩
    rcases ho.2 with h | ⟨g', cap, cur, h2, h3, h4⟩
    · exact .inl h
    · exact .inr ⟨g', cap, cur, h2, Nat.le_trans hN h3, h4⟩
  · rw [List.mem_singleton.1 hr]
    intro e
    have := (ho.lt _ e).1
    have := hlx x hx
    omega
end
theorem farX_nil {N g : Nat} {X : List (World -> Prop)} : ∀ A ∈ ([] : List (World -> Prop)), (∀ w w' : World, N <= g -> w.grownBy w' (some g) -> A w -> A w') /\ A ∈ X := fun _ h => by cases h
theorem farX_cons {N g i : Nat} {X X' : List (World -> Prop)} {A : World -> Prop} (h : ∀ w w' : World, N <= g -> w.grownBy w' (some g) -> A w -> A w') (hi : X[i]? = some A) (t : ∀ B ∈ X', (∀ w w' : World, N <= g -> w.grownBy w' (some g) -> B w -> B w') /\ B ∈ X) :
  ∀ B ∈ A :: X', (∀ w w' : World, N <= g -> w.grownBy w' (some g) -> B w -> B w') /\ B ∈ X := fun B hB => by
 rcases List.mem_cons.1 hB with rfl | hB
 ·exact ⟨h, List.mem_of_getElem? hi⟩
 ·exact t B hB
end Go.Proofs.YtempjmpfdniecaaGreatDoor
namespace Go.Proofs
open Go.Shelf
def Tryz.lays125_ren : Go.Shelf.Ren := ⟨fun | 125 => 195 | 128 => 262 | 129 => 263 | n => n, fun | 46 => 247 | 3 => 3 | 51 => 298 | 53 => 300 | 4 => 4 | 5 => 5 | 9 => 9 | n => n, fun | n => n⟩
theorem Tryz.lays125 : Go.Proofs.Lays.n125 Tryz.prog Tryz.lays125_ren := {
 mixed := by kernel_rfl
 f125 := Tryz.func195.trans (congrArg some (by kernel_rfl))
 f128 := Tryz.func262.trans (congrArg some (by kernel_rfl))
 f129 := Tryz.func263.trans (congrArg some (by kernel_rfl))
 t3 := Tryz.underlying3
 a3 := Tryz.isAgg3
 z3 := Tryz.sizeOf3
 v3 := Tryz.zeroValue3
 t4 := Tryz.underlying4
 a4 := Tryz.isAgg4
 z4 := Tryz.sizeOf4
 v4 := Tryz.zeroValue4
 t5 := Tryz.underlying5
 a5 := Tryz.isAgg5
 z5 := Tryz.sizeOf5
 v5 := Tryz.zeroValue5
 t9 := Tryz.underlying9
 a9 := Tryz.isAgg9
 z9 := Tryz.sizeOf9
 v9 := Tryz.zeroValue9
 t46 := Tryz.underlying247
 a46 := Tryz.isAgg247
 z46 := Tryz.sizeOf247
 v46 := Tryz.zeroValue247
 t51 := Tryz.underlying298
 a51 := Tryz.isAgg298
 z51 := Tryz.sizeOf298
 v51 := Tryz.zeroValue298
 t53 := Tryz.underlying300
 a53 := Tryz.isAgg300
 z53 := Tryz.sizeOf300
 v53 := Tryz.zeroValue300 }
end Go.Proofs
namespace Go.Proofs
open Go.Shelf
def Tryz.lays106_ren : Go.Shelf.Ren := ⟨fun | 106 => 87 | 213 => 185 | 265 => 252 | n => n, fun | 9 => 9 | 3 => 3 | n => n, fun | n => n⟩
theorem Tryz.lays106 : Go.Proofs.Lays.n106 Tryz.prog Tryz.lays106_ren := {
 mixed := by kernel_rfl
 f106 := Tryz.func87.trans (congrArg some (by kernel_rfl))
 f213 := Tryz.func185.trans (congrArg some (by kernel_rfl))
 f265 := Tryz.func252.trans (congrArg some (by kernel_rfl))
 t3 := Tryz.underlying3
 a3 := Tryz.isAgg3
 z3 := Tryz.sizeOf3
 v3 := Tryz.zeroValue3
 t9 := Tryz.underlying9
 a9 := Tryz.isAgg9
 z9 := Tryz.sizeOf9
 v9 := Tryz.zeroValue9 }
end Go.Proofs
namespace Go.Proofs.YtempjmpfdniecaaGreatDoor
open Go.RowKit
theorem cmpB_eq : ∀ a b : List UInt8, Lib.compareBytes a b = if Go.Op.bytesLess a b = true then -1 else if (Go.Op.bytesLess a b || a == b) = false then 1 else 0
  | [], [] => rfl
  | [], b :: y => by simp [Lib.compareBytes, Go.Op.bytesLess]
  | a :: x, [] => by simp [Lib.compareBytes, Go.Op.bytesLess]
  | a :: x, b :: y => by
    have ih := cmpB_eq x y
    unfold Lib.compareBytes Go.Op.bytesLess
    by_cases h1 : a < b
    · simp [h1]
    · by_cases h2 : b < a
      · have h3 : ¬ a = b := fun e => by subst e; exact h1 h2
        simp [h1, h2, h3]
      · have h3 : a = b := by
          rcases Decidable.em (a = b) with h | h
          · exact h
          · rcases UInt8.lt_or_lt_of_ne h with h | h
            · exact absurd h h1
            · exact absurd h h2
        subst h3
        simp only [h1, if_false, ih, decide_false, Bool.false_or, beq_self_eq_true, Bool.true_and, List.cons_beq_cons]
theorem strCompare_any (a b : ByteArray) (w : World) : Calls Tryz.prog 87 #[.string a, .string b] w (fun e w' => e = .returned (.int .i64 (cmpS a b)) /\ w.grownBy w' none) := by
 have hcon := Any.strings_Compare Tryz.lays106 a b w
 refine Calls.mono hcon ?_
 rintro e w' ⟨rfl, rfl⟩
 refine ⟨?_, World.grownBy.refl _ _⟩
 unfold cmpS
 rw [cmpB_eq, ByteArray.toList_eq, ByteArray.toList_eq]
theorem bitsLen_any (n : Nat) (w : World) (hn : n <= 1000000) : Calls Tryz.prog 195 #[.int .u64 ((n : Nat) : Int)] w (fun e w' => ∃ v : Int, e = .returned (.int .i64 v) /\ w.grownBy w' none) := by
 have hcon := Any.bits_Len Tryz.lays125 ((n : Nat) : Int) w (by omega) (by omega)
 refine Calls.mono hcon ?_
 rintro e w' ⟨rfl, rfl⟩
 exact ⟨_, rfl, World.grownBy.refl _ _⟩
end Go.Proofs.YtempjmpfdniecaaGreatDoor
namespace Go.Proofs.YtempjmpfdniecaaGreatDoor
open Go.RowKit
theorem info_lg : (Tryz.prog.info? 135).map (·.size) = some 9 := by kernel_rfl
theorem rd_neq (at_ : Int) (st : ByteArray) (m f : Int) (w : World) :
  (binOp .neq 48 (.agg #[.int .i64 at_, .string st, .int .i64 m, .int .i64 f]) (.agg #[.int .i64 (-1), .string ⟨#[]⟩, .int .i64 0, .int .i64 0])).run Tryz.prog w = .ok (.bool (rdOut ⟨at_, st, m, f⟩)) w := by
 have hS : Tryz.prog.underlying 48 = some (.struct (Tryz.prog.fieldsOf 48)) := by kernel_rfl
 have hp : Tryz.prog.stoodInHeld 48 = false := by kernel_rfl
 rw [run_neq_struct, show (10000 : Nat) = 9999 + 1 from rfl, run_equalIn_agg w 9999 48 _ _ hS hp]
 simp only [Program.fieldsOf, Tryz.underlying48]
 have u3 := Tryz.underlying3
 have u9 := Tryz.underlying9
 go_simp
 by_cases h1 : at_ = -1 <;> by_cases h2 : st.toList = [] <;> by_cases h3 : m = 0 <;> by_cases h4 : f = 0 <;> simp [rdOut, h1, h2, h3, h4]
theorem firstE_zero (x : Int) : firstE [0, x] = x := by
 simp only [firstE]; split <;> simp_all
theorem legE_stop1 {fr : Int} {p : Option Lg} {last : Bool} {g : Lg} {e : Int} (h : firstE [whenE (!keyB g.veh) 5, readingE g.out] = e) (hne : e ≠ 0) : legE fr p last g = e := by
 unfold legE
 simp only [firstE] at h ⊢
 split
 ·rename_i h1
  rw [if_pos h1] at h
  split
  ·rename_i h2
   rw [if_pos h2] at h
   exact absurd h.symm hne
  ·rename_i h2
   rw [if_neg h2] at h
   exact h
 ·rename_i h1
  rw [if_neg h1] at h
  exact h
theorem legE_pass1 {fr : Int} {p : Option Lg} {last : Bool} {g : Lg} (h : firstE [whenE (!keyB g.veh) 5, readingE g.out] = 0) : legE fr p last g = firstE [legPrevE fr p g, legInE last g] := by
 have := firstE_two h
 unfold legE
 rw [this.1, this.2]
 rfl
set_option maxRecDepth 100000 in
set_option maxHeartbeats 1000000 in
theorem checkLeg_any (key driver : ByteArray) (fr to_ : Int) (l : List Lg) (A : Option Addr) (n c i : Nat) (g : Lg) (w : World) (hl : SlT lgEnc 9 135 w A n l) (hi : l[i]? = some g) (hok : ∀ g ∈ l, LgOk g) (hn : n <= 1000000) :
  Calls Tryz.prog 71 #[.agg #[.string key, .string driver, .int .i64 fr, .int .i64 to_, .slice A n c], .int .i64 (i : Int)] w (GotE w (legE fr (prevOf l i) (decide (i + 1 = n)) g)) := by
 have hin : i < n := by have := (List.getElem?_eq_some_iff.1 hi).1; have := hl.len; omega
 obtain ⟨b, off, rfl, hbl, hrg⟩ := hl.get (by omega)
 have hgo := hok g (List.mem_of_getElem? hi)
 have hpv : ∀ q, l[i - 1]? = some q -> LgOk q := fun q hq => hok q (List.mem_of_getElem? hq)
 have hr0 := hrg i g hi
 obtain ⟨E1, hE1⟩ : ∃ E, E = firstE [whenE (!keyB g.veh) 5, readingE g.out] := ⟨_, rfl⟩
 have hstop := fun (h : E1 ≠ 0) => legE_stop1 (fr := fr) (p := prevOf l i) (last := decide (i + 1 = n)) hE1.symm h
 have hpass := fun (h : E1 = 0) => legE_pass1 (fr := fr) (p := prevOf l i) (last := decide (i + 1 = n)) (g := g) (hE1.symm.trans h)
 have Hstop := Lib.hid hstop
 have Hpass := Lib.hid hpass
 obtain ⟨R, hR⟩ : ∃ R, R = legE fr (prevOf l i) (decide (i + 1 = n)) g := ⟨_, rfl⟩
 rw [<- hR] at Hstop Hpass ⊢
 obtain ⟨veh, ⟨a1, s1, m1, f1⟩, ⟨a2, s2, m2, f2⟩⟩ := g
 have cK : ∀ w, Calls Tryz.prog 69 #[.string veh] w fun e w' => e = .returned (.bool (keyB veh)) /\ w' = w := fun w => flipw (isKey_any _ _ (by have := hgo.1; simp at this; omega))
 have hE1' : E1 = firstE [whenE (!keyB veh) 5, readingE ⟨a1, s1, m1, f1⟩] := hE1
 generalize keyB veh = K at cK hE1'
 have hr : w.rangeAt b (off + i * 9) [.string veh, .int .i64 a1, .string s1, .int .i64 m1, .int .i64 f1, .int .i64 a2, .string s2, .int .i64 m2, .int .i64 f2] := hr0
 have ho1 : RdOk ⟨a1, s1, m1, f1⟩ := hgo.2.1
 have ho2 : RdOk ⟨a2, s2, m2, f2⟩ := hgo.2.2
 have CK := Lib.hid cK
 have HE1 := Lib.hid hE1'
 have Hrg := Lib.hid hrg
 have Ho1 := Lib.hid ho1
 have Ho2 := Lib.hid ho2
 have hr' := fun (o : Obj) => (show (w.alloc o).rangeAt b (off + i * 9) [.string veh, .int .i64 a1, .string s1, .int .i64 m1, .int .i64 f1, .int .i64 a2, .string s2, .int .i64 m2, .int .i64 f2] from fun j v hv => (World.cell?_alloc_lt w o _ hbl).trans (hr j v hv))
 clear hstop hpass hE1 hE1' cK hrg ho1 ho2 hr0 hr hgo hR
 go_enter Tryz.func71, Tryz.ntmps71
 go_wp2_with (with_reducible refine wpList_load_rng rfl 135 (.tmp 11) rfl b (off + i * 9) rfl _ _ (hr' _) Tryz.underlying135 rfl 9 info_lg rfl ?_)
 refine wp_region_still_tail 7 (by kernel_rfl) (by kernel_rfl) ?_
 change wpStill _ _ (World.drew _) _ _ _
 simp only [List.take_succ_cons, List.take_zero, List.drop_succ_cons, List.drop_zero]
 repeat still_step
 still_call (CK.out _)
 repeat still_step
 still_call (flipw (when_any _ _ _))
 repeat still_step
 refine wpStill_nil ?_
 change wpList _ _ _ _ _ (World.drew _)
 go_wp2_with fail
 refine (checkReading_any ⟨a1, s1, m1, f1⟩ _ Ho1.out).mono ?_
 rintro e w1 ⟨rfl, hg1⟩
 obtain ⟨R1, hR1⟩ : ∃ R, R = readingE ⟨a1, s1, m1, f1⟩ := ⟨_, rfl⟩
 rw [<- hR1] at HE1 ⊢
 clear hR1
 have hz := hg1.size
 simp at hz
 have hb0 : Blk w1 w.heap.size 30 [.string key, .string driver, .int .i64 fr, .int .i64 to_, .slice (some ⟨b, off, none⟩) n c] := (((Blk.at_ w rfl _ _).alloc _).drew).grown hg1 (by simp)
 have hb1 : Blk w1 (w.heap.size + 1) 135 [.string veh, .int .i64 a1, .string s1, .int .i64 m1, .int .i64 f1, .int .i64 a2, .string s2, .int .i64 m2, .int .i64 f2] := ((Blk.at_ (w.alloc _) (by simp) _ _).drew).grown hg1 (by simp)
 have hgw : w.grownBy w1 none := grow_trans (grow_drew (grow_alloc (grow_alloc (World.grownBy.refl _ _) _) _)) hg1
 clear hg1 hr'
 go_wp2_with fail
 refine (first_any [whenE (!K) 5, R1] _ _ _ _ (Blk.at_ _ rfl _ _) (by simp)).mono ?_
 rintro e w2 ⟨rfl, rfl⟩
 rw [<- HE1.out]
 obtain ⟨w2, hw2⟩ : ∃ w2, w2 = w1.alloc (.cells (List.map (Value.int .i64) [whenE (!K) 5, R1]).toArray 33) := ⟨_, rfl⟩
 have hg2 : w1.grownBy w2 none := by rw [hw2]; exact grow_alloc (World.grownBy.refl _ _) _
 rw [<- hw2]
 have hb0 := hb0.grown hg2 (by simp)
 have hb1 := hb1.grown hg2 (by simp)
 have hgw := grow_trans hgw hg2
 have hz := Nat.lt_of_lt_of_le (show w.heap.size + 1 < w1.heap.size by omega) hg2.size
 clear hw2 hg2
 by_cases hE0 : E1 = 0
 ·have hpass := Hpass.out hE0
  have HP := Lib.hid hpass
  subst hE0
  clear hpass
  have h2 := hb0.cell_of (i := 2) (v := .int .i64 fr) rfl
  have h3 := hb0.cell_of (i := 3) (v := .int .i64 to_) rfl
  have h4 := hb0.cell_of (i := 4) (v := .slice (some ⟨b, off, none⟩) n c) rfl
  have g0 := hb1.cell_of (i := 0) (v := .string veh) rfl
  have g1 := hb1.cell_of (i := 1) (v := .int .i64 a1) rfl
  have g2 := hb1.cell_of (i := 2) (v := .string s1) rfl
  have g3 := hb1.cell_of (i := 3) (v := .int .i64 m1) rfl
  have g4 := hb1.cell_of (i := 4) (v := .int .i64 f1) rfl
  have g5 := hb1.cell_of (i := 5) (v := .int .i64 a2) rfl
  have g6 := hb1.cell_of (i := 6) (v := .string s2) rfl
  have g7 := hb1.cell_of (i := 7) (v := .int .i64 m2) rfl
  have g8 := hb1.cell_of (i := 8) (v := .int .i64 f2) rfl
  go_upto_if 27 with fail
  go_cut [] (fun wx => legPrevE fr (prevOf l i) ⟨veh, ⟨a1, s1, m1, f1⟩, ⟨a2, s2, m2, f2⟩⟩ = 0 /\ w2.grownBy wx none)
  case first =>
   by_cases hi0 : i = 0
   ·subst hi0
    have hq : (((0 : Nat) : Int) == 0) = true := rfl
    have hV : legPrevE fr (prevOf l 0) ⟨veh, ⟨a1, s1, m1, f1⟩, ⟨a2, s2, m2, f2⟩⟩ = if a1 = fr then 0 else 7 := rfl
    have HV := Lib.hid hV
    by_cases hf : a1 = fr
    ·have hne : (a1 != fr) = false := by simpa using hf
     have HW := Lib.hid (show legPrevE fr (prevOf l 0) ⟨veh, ⟨a1, s1, m1, f1⟩, ⟨a2, s2, m2, f2⟩⟩ = 0 by rw [HV.out, if_pos hf])
     clear hV hf
     go_wp2_with fail
     go_meet
     exact ⟨HW.out, World.grownBy.refl _ _⟩
    ·have hne : (a1 != fr) = true := by simpa using hf
     have HW := Lib.hid (show legPrevE fr (prevOf l 0) ⟨veh, ⟨a1, s1, m1, f1⟩, ⟨a2, s2, m2, f2⟩⟩ = 7 by rw [HV.out, if_neg hf])
     clear hV hf
     go_wp2_with fail
     go_ret
     exact ⟨ret_int (by rw [HP.out, HW.out]; rfl), hgw⟩
   ·have hq : ((i : Int) == 0) = false := by simpa using hi0
    obtain ⟨⟨qveh, ⟨qa1, qs1, qm1, qf1⟩, ⟨qa2, qs2, qm2, qf2⟩⟩, hq1⟩ : ∃ q, l[i - 1]? = some q := ⟨_, List.getElem?_eq_getElem (by have := (List.getElem?_eq_some_iff.1 hi).1; omega)⟩
    have hpo : prevOf l i = some ⟨qveh, ⟨qa1, qs1, qm1, qf1⟩, ⟨qa2, qs2, qm2, qf2⟩⟩ := by simp [prevOf, hi0, hq1]
    have hrq0 := Hrg.out (i - 1) _ hq1
    have hrq : w.rangeAt b (off + (i - 1) * 9) [.string qveh, .int .i64 qa1, .string qs1, .int .i64 qm1, .int .i64 qf1, .int .i64 qa2, .string qs2, .int .i64 qm2, .int .i64 qf2] := hrq0
    have hki : (i : Int) - 1 = ((i - 1 : Nat) : Int) := by omega
    have hk1n : (i : Int) - 1 < (n : Int) := by omega
    have hr2 := rangeAt_grow hrq hbl hgw
    have hV : legPrevE fr (prevOf l i) ⟨veh, ⟨a1, s1, m1, f1⟩, ⟨a2, s2, m2, f2⟩⟩ = if a1 = qa2 then (if eqS veh qveh then 16 else if eqS s1 qs2 then 0 else 8) else 7 := by rw [hpo]; rfl
    have HV := Lib.hid hV
    clear hV hpo hrq hrq0 hq1 hi0
    go_wp2_with (with_reducible refine wpList_load_rng rfl 135 (.tmp 39) rfl b (off + (i - 1) * 9) rfl _ _ hr2 Tryz.underlying135 rfl 9 info_lg rfl ?_)
    ·go_ret
     rename_i h1
     have h1' : ¬ a1 = qa2 := by simpa using h1
     exact ⟨ret_int (by rw [HP.out, HV.out, if_neg h1']; rfl), grow_alloc hgw _⟩
    ·go_ret
     rename_i h1 h2
     have h1' : a1 = qa2 := by simpa using h1
     have h2' : eqS veh qveh = true := h2
     exact ⟨ret_int (by rw [HP.out, HV.out, if_pos h1', if_pos h2']; rfl), grow_alloc hgw _⟩
    ·go_ret
     rename_i h1 h2 h3
     have h1' : a1 = qa2 := by simpa using h1
     have h2' : ¬ eqS veh qveh = true := by simpa [eqS] using h2
     have h3' : ¬ eqS s1 qs2 = true := by simpa [eqS] using h3
     exact ⟨ret_int (by rw [HP.out, HV.out, if_pos h1', if_neg h2', if_neg h3']; rfl), grow_alloc hgw _⟩
    ·go_meet
     rename_i h1 h2 h3
     have h1' : a1 = qa2 := by simpa using h1
     have h2' : ¬ eqS veh qveh = true := by simpa [eqS] using h2
     have h3' : eqS s1 qs2 = true := by simpa [eqS] using h3
     exact ⟨by rw [HV.out, if_pos h1', if_neg h2', if_pos h3'], grow_alloc (World.grownBy.refl _ _) _⟩
  case rest =>
   obtain ⟨hp0, hg3⟩ := hcut
   obtain ⟨w3, hw3⟩ : ∃ w3 : World, w3 = wc := ⟨_, rfl⟩
   rw [<- hw3] at hg3 ⊢
   clear hw3
   have hb0 := hb0.grown hg3 (by simp)
   have hb1 := hb1.grown hg3 (by simp)
   have hgw := grow_trans hgw hg3
   have HR := Lib.hid (show R = firstE [0, legInE (decide (i + 1 = n)) ⟨veh, ⟨a1, s1, m1, f1⟩, ⟨a2, s2, m2, f2⟩⟩] by rw [HP.out, hp0])
   have k4 := hb0.cell_of (i := 4) (v := .slice (some ⟨b, off, none⟩) n c) rfl
   have k1 := hb1.cell_of (i := 1) (v := .int .i64 a1) rfl
   have k5 := hb1.cell_of (i := 5) (v := .int .i64 a2) rfl
   have k6 := hb1.cell_of (i := 6) (v := .string s2) rfl
   have k7 := hb1.cell_of (i := 7) (v := .int .i64 m2) rfl
   have k8 := hb1.cell_of (i := 8) (v := .int .i64 f2) rfl
   clear hp0 HP h2 h3 h4 g0 g1 g2 g3 g4 g5 g6 g7 g8
   by_cases ha : a2 = -1
   ·subst ha
    have hq := fun w => rd_neq (-1) s2 m2 f2 w
    obtain ⟨Z, hZ⟩ : ∃ Z, Z = rdOut ⟨-1, s2, m2, f2⟩ := ⟨_, rfl⟩
    rw [<- hZ] at hq
    have HZ := Lib.hid hZ
    have hlt : decide ((i : Int) < (n : Int) - 1) = !decide (i + 1 = n) := by
     by_cases hl : i + 1 = n <;> simp [hl] <;> omega
    obtain ⟨L, hL⟩ : ∃ L, L = decide (i + 1 = n) := ⟨_, rfl⟩
    rw [<- hL] at hlt HR
    clear hZ hL
    go_wp2_with fail
    refine wp_region_still_tail 12 (by kernel_rfl) (by kernel_rfl) ?_
    change wpStill _ _ (World.drew _) _ _ _
    simp only [List.take_succ_cons, List.take_zero, List.drop_succ_cons, List.drop_zero]
    repeat still_step
    still_call (flipw (when_any _ _ _))
    repeat still_step
    still_call (flipw (when_any _ _ _))
    repeat still_step
    refine wpStill_nil ?_
    change wpList _ _ _ _ _ (World.drew _)
    go_wp2_with fail
    refine (first_any [whenE Z 3, whenE (!L) 11] _ _ _ _ ((Blk.at_ _ rfl _ _).drew) (by simp)).mono ?_
    rintro e w4 ⟨rfl, rfl⟩
    go_wp2_with fail
    go_ret
    refine ⟨ret_int ?_, grow_drew (grow_alloc hgw _)⟩
    rw [HR.out, HZ.out]; simp [legInE, firstE_zero]
   ·have hne : (a2 == -1) = false := by simpa using ha
    have hfin := fun (e : Int) (h : e = firstE [readingE ⟨a2, s2, m2, f2⟩, whenE (decide (a2 <= a1)) 7]) => (show e = R by rw [HR.out, h]; simp only [legInE, if_neg ha, firstE_zero])
    have Hfin := Lib.hid hfin
    clear hfin
    go_wp2_with fail
    go_region_held3 (fun wx => wx.cell? ⟨w.heap.size + 1, 1, none⟩ = some (.int .i64 a1) /\ wx.cell? ⟨w.heap.size + 1, 5, none⟩ = some (.int .i64 a2) /\ wx.cell? ⟨w.heap.size + 1, 6, none⟩ = some (.string s2) /\ wx.cell? ⟨w.heap.size + 1, 7, none⟩ = some (.int .i64 m2) /\ wx.cell? ⟨w.heap.size + 1, 8, none⟩ = some (.int .i64 f2))
     (first
      | exact ⟨k1, k5, k6, k7, k8⟩
      | exact q4
      | exact q5 _)
     (first
      | (go_at_call 174; refine (checkReading_any ⟨a2, s2, m2, f2⟩ _ Ho2.out).mono ?_; rintro e w4 ⟨rfl, hg4⟩; have hb2 : Blk w4 (w.heap.size + 1) 135 [.string veh, .int .i64 a1, .string s1, .int .i64 m1, .int .i64 f1, .int .i64 a2, .string s2, .int .i64 m2, .int .i64 f2] := (hb1.drewN 1).grown hg4 (by simp); have q5 := fun o => And.intro ((hb2.alloc o).cell_of (i := 1) (v := .int .i64 a1) rfl) (And.intro ((hb2.alloc o).cell_of (i := 5) (v := .int .i64 a2) rfl) (And.intro ((hb2.alloc o).cell_of (i := 6) (v := .string s2) rfl) (And.intro ((hb2.alloc o).cell_of (i := 7) (v := .int .i64 m2) rfl) ((hb2.alloc o).cell_of (i := 8) (v := .int .i64 f2) rfl)))); have q4 := And.intro (hb2.cell_of (i := 1) (v := .int .i64 a1) rfl) (And.intro (hb2.cell_of (i := 5) (v := .int .i64 a2) rfl) (And.intro (hb2.cell_of (i := 6) (v := .string s2) rfl) (And.intro (hb2.cell_of (i := 7) (v := .int .i64 m2) rfl) (hb2.cell_of (i := 8) (v := .int .i64 f2) rfl)))))
      | (go_at_call 68; refine (when_any _ _ _).mono ?_; rintro e w5 ⟨rfl, rfl⟩)
      | (go_at_call 67; refine (first_any [readingE ⟨a2, s2, m2, f2⟩, whenE (decide (a2 <= a1)) 7] _ _ _ _ (Blk.at_ _ rfl _ _) (by simp)).mono ?_; rintro e w6 ⟨rfl, rfl⟩))
    all_goals
     go_wp2_with fail
     go_ret
     exact ⟨ret_int (Hfin.out _ rfl), grow_alloc (grow_trans (grow_drew hgw) hg4) _⟩
 ·have hne : (E1 != 0) = true := by simpa using hE0
  have HR := Lib.hid (Hstop.out hE0)
  clear hE0
  go_wp2_with fail
  go_ret
  exact ⟨ret_int HR.out.symm, hgw⟩
end Go.Proofs.YtempjmpfdniecaaGreatDoor
namespace Go.Proofs.YtempjmpfdniecaaGreatDoor
open Go.RowKit
theorem b_ne_self (a : ByteArray) : (!(a.toList == a.toList)) = false := by simp
theorem i_ne_self (a : Int) : (!decide (a = a)) = false := by simp
theorem nan_string (a : ByteArray) (w : World) : Calls Tryz.prog 184 #[.string a] w (fun e w' => e = .returned (.bool false) /\ w.grownBy w' none) := by
 refine gw_enter ⟨6, w, none, []⟩ Tryz.func184 rfl Tryz.ntmps184 rfl (mem0 (X := []) allF_nil allL_nil) ?_
 refine sr_ (sg_ rfl (nn_ (sr_ (mv_ rfl (mv_ rfl (wl_ov (ov_sneq rfl rfl) rfl ?_))))))
 refine wl_set 5 (v' := .bool false) rfl (congrArg Value.bool (b_ne_self a)) ?_
 refine sg_ rfl (nn_ ?_)
 refine gw_ret ?_
 refine nx_ret1 rfl rfl fun wx hm => ?_
 exact ⟨rfl, hm.g⟩
theorem cmp_string (a b : ByteArray) (w : World) : Calls Tryz.prog 84 #[.string a, .string b] w (fun e w' => e = .returned (.int .i64 (cmpS a b)) /\ w.grownBy w' none) := by
 refine gw_enter ⟨20, w, none, []⟩ Tryz.func84 rfl Tryz.ntmps84 rfl (mem0 (X := []) allF_nil allL_nil) ?_
 refine sr_ (sg_ rfl (nn_ (sr_ (mv_ rfl ?_))))
 refine wl_callv rfl cb184 rfl rfl (fun wx hm => (nan_string _ wx)) ?_
 refine sg_ rfl (nn_ (sr_ (mv_ rfl ?_)))
 refine wl_callv rfl cb184 rfl rfl (fun wx hm => (nan_string _ wx)) ?_
 refine sg_ rfl (nn_ (gw_seq (sr_ (mv_ rfl (nn_ (cf_ rfl (gw_skip (nx_then (gw_seq (gw_seq ?_))))))))))
 refine gw_region (mv_ rfl (nn_ (cf_ rfl (gw_skip (nx_then (gw_seq (sr_ (mv_ rfl (mv_ rfl ?_)))))))))
 refine wl_ov (ov_slss rfl rfl) rfl ?_
 refine nn_ ?_
 refine gw_cond rfl (fun hh => ?_) (fun hh => ?_)
 ·have h1 : (Op.bytesLess a.toList b.toList) = true := by simpa using hh
  clear hh
  refine sr_ (sg_ rfl ?_)
  refine wl_set 4 (v' := .int .i64 (-1)) rfl rfl ?_
  refine nn_ ?_
  refine gw_ret ?_
  refine nx_then_ret ?_
  refine nx_ret1 rfl rfl fun wx hm => ?_
  refine ⟨?_, hm.g⟩
  unfold cmpS; rw [if_pos h1]
 have h1 : (Op.bytesLess a.toList b.toList) = false := by simpa using hh
 clear hh
 refine gw_skip (nx_then (gw_seq (sr_ (mv_ rfl (mv_ rfl ?_)))))
 refine wl_ov (ov_sgtr rfl rfl) rfl ?_
 refine nn_ ?_
 refine gw_cond rfl (fun hh => ?_) (fun hh => ?_)
 ·have h2 : (Op.bytesLess a.toList b.toList || a.toList == b.toList) = false := by simpa only [Bool.not_eq_true', Bool.not_eq_false'] using hh
  clear hh
  refine sr_ (sg_ rfl (nn_ ?_))
  refine gw_ret ?_
  refine nx_then_ret ?_
  refine nx_ret1 rfl rfl fun wx hm => ?_
  refine ⟨?_, hm.g⟩
  unfold cmpS; rw [if_neg (by rw [h1]; decide), if_pos h2]
 have h2 : (Op.bytesLess a.toList b.toList || a.toList == b.toList) = true := by simpa only [Bool.not_eq_true', Bool.not_eq_false'] using hh
 clear hh
 refine gw_skip (nx_then (sr_ (sg_ rfl (nn_ ?_))))
 refine gw_ret ?_
 refine nx_ret1 rfl rfl fun wx hm => ?_
 refine ⟨?_, hm.g⟩
 unfold cmpS; rw [if_neg (by rw [h1]; decide), if_neg (by rw [h2]; decide)]
theorem nan_int (a : Int) (w : World) : Calls Tryz.prog 183 #[.int .i64 a] w (fun e w' => e = .returned (.bool false) /\ w.grownBy w' none) := by
 refine gw_enter ⟨6, w, none, []⟩ Tryz.func183 rfl Tryz.ntmps183 rfl (mem0 (X := []) allF_nil allL_nil) ?_
 refine sr_ (sg_ rfl (nn_ (sr_ (mv_ rfl (mv_ rfl (wl_ov (ov_neq rfl rfl) rfl ?_))))))
 refine wl_set 5 (v' := .bool false) rfl (congrArg Value.bool (i_ne_self a)) ?_
 refine sg_ rfl (nn_ ?_)
 refine gw_ret ?_
 refine nx_ret1 rfl rfl fun wx hm => ?_
 exact ⟨rfl, hm.g⟩
theorem cmp_int (a b : Int) (w : World) : Calls Tryz.prog 83 #[.int .i64 a, .int .i64 b] w (fun e w' => e = .returned (.int .i64 (cmpI a b)) /\ w.grownBy w' none) := by
 refine gw_enter ⟨20, w, none, []⟩ Tryz.func83 rfl Tryz.ntmps83 rfl (mem0 (X := []) allF_nil allL_nil) ?_
 refine sr_ (sg_ rfl (nn_ (sr_ (mv_ rfl ?_))))
 refine wl_callv rfl cb183 rfl rfl (fun wx hm => (nan_int _ wx)) ?_
 refine sg_ rfl (nn_ (sr_ (mv_ rfl ?_)))
 refine wl_callv rfl cb183 rfl rfl (fun wx hm => (nan_int _ wx)) ?_
 refine sg_ rfl (nn_ (gw_seq (sr_ (mv_ rfl (nn_ (cf_ rfl (gw_skip (nx_then (gw_seq (gw_seq ?_))))))))))
 refine gw_region (mv_ rfl (nn_ (cf_ rfl (gw_skip (nx_then (gw_seq (sr_ (mv_ rfl (mv_ rfl (wl_ov (ov_lss rfl rfl) rfl (wl_nil ?_)))))))))))
 refine nx_then ?_
 refine gw_cond rfl (fun hh => ?_) (fun hh => ?_)
 ·have h1 : a < b := by simpa using hh
  clear hh
  refine sr_ (sg_ rfl ?_)
  refine wl_set 4 (v' := .int .i64 (-1)) rfl rfl ?_
  refine nn_ ?_
  refine gw_ret ?_
  refine nx_then_ret ?_
  refine nx_ret1 rfl rfl fun wx hm => ?_
  refine ⟨?_, hm.g⟩
  unfold cmpI; rw [if_pos h1]
 have h1 : ¬ (a < b) := by simpa using hh
 clear hh
 refine gw_skip (nx_then (gw_seq (sr_ (mv_ rfl (mv_ rfl ?_)))))
 refine wl_ov (ov_gtr rfl rfl) rfl ?_
 refine nn_ ?_
 refine gw_cond rfl (fun hh => ?_) (fun hh => ?_)
 ·have h2 : b < a := by simpa using hh
  clear hh
  refine sr_ (sg_ rfl (nn_ ?_))
  refine gw_ret ?_
  refine nx_then_ret ?_
  refine nx_ret1 rfl rfl fun wx hm => ?_
  refine ⟨?_, hm.g⟩
  unfold cmpI; rw [if_neg h1, if_pos h2]
 have h2 : ¬ (b < a) := by simpa using hh
 clear hh
 refine gw_skip (nx_then (sr_ (sg_ rfl (nn_ ?_))))
 refine gw_ret ?_
 refine nx_ret1 rfl rfl fun wx hm => ?_
 refine ⟨?_, hm.g⟩
 unfold cmpI; rw [if_neg h1, if_neg h2]
theorem or_two (a b : Int) (g T c : Nat) (w : World) (h : Blk w g T [.int .i64 a, .int .i64 b]) : Calls Tryz.prog 82 #[.slice (some ⟨g, 0, none⟩) 2 c] w (fun e w' => e = .returned (.int .i64 (firstE [a, b])) /\ w.grownBy w' none) := by
 refine gw_enter ⟨18, w, none, []⟩ Tryz.func82 rfl Tryz.ntmps82 rfl (mem0 (X := [BlkOld w.heap.size none g T [.int .i64 a, .int .i64 b] ]) (allF_cons h.old allF_nil) (allL_cons BlkOld.lasts allL_nil)) ?_
 refine sr_ (sg_ rfl (nn_ (sr_ (sg_ rfl (nn_ (gw_seq (sr_ (mv_ rfl ?_))))))))
 refine wl_ov (ov_len es22 rfl) rfl ?_
 refine wl_set 7 (v' := .int .i64 2) rfl rfl ?_
 refine mv_ rfl (nn_ (gw_block ?_))
 refine gw_rounds 3 ?_
 refine gr_next ?_
 refine sr_ (wl_ov (ov_lss rfl rfl) rfl ?_)
 refine wl_set 9 (v' := .bool true) rfl (congrArg Value.bool (by decide)) ?_
 refine nn_ (gw_seq (ct_ rfl (gw_skip (nx_then (gw_seq (gw_block (sr_ ?_)))))))
 refine wl_ov (ov_index (j := 0) es22 rfl rfl (by decide)) rfl ?_
 refine wl_ov (ov_load (v := .int .i64 a) sc3 rfl (fun _ hm => (hm.fact 0 rfl).2) rfl) rfl ?_
 refine sg_ rfl (nn_ (sr_ (mv_ rfl (mv_ rfl (wl_ov (ov_neq rfl rfl) rfl (nn_ ?_))))))
 refine gw_cond rfl (fun hh => ?_) (fun hh => ?_)
 ·have h1 : ¬ (a = 0) := by simpa using hh
  clear hh
  refine sr_ (mv_ rfl (sg_ rfl (nn_ ?_)))
  refine gw_ret ?_
  refine nx_blk_ret (nx_then_ret (nx_then_ret (nx_blk_ret (nx_then_ret ?_))))
  refine nx_ret1 rfl rfl fun wx hm => ?_
  refine ⟨?_, hm.g⟩
  rw [firstE_pair, if_neg h1]
 have h1 : a = 0 := by simpa using hh
 clear hh
 refine gw_skip (nx_blk_nrm (nx_then (gw_region (ad_ rfl rfl ?_))))
 refine wl_set 16 (v' := .int .i64 1) rfl rfl ?_
 refine mv_ rfl (wl_nil ?_)
 refine nx_next ?_
 refine gr_next ?_
 refine sr_ (wl_ov (ov_lss rfl rfl) rfl ?_)
 refine wl_set 9 (v' := .bool true) rfl (congrArg Value.bool (by decide)) ?_
 refine nn_ (gw_seq (ct_ rfl (gw_skip (nx_then (gw_seq (gw_block (sr_ ?_)))))))
 refine wl_ov (ov_index (j := 1) es22 rfl rfl (by decide)) rfl ?_
 refine wl_ov (ov_load (v := .int .i64 b) sc3 rfl (fun _ hm => (hm.fact 0 rfl).2) rfl) rfl ?_
 refine sg_ rfl (nn_ (sr_ (mv_ rfl (mv_ rfl (wl_ov (ov_neq rfl rfl) rfl (nn_ ?_))))))
 refine gw_cond rfl (fun hh => ?_) (fun hh => ?_)
 ·have h2 : ¬ (b = 0) := by simpa using hh
  clear hh
  refine sr_ (mv_ rfl (sg_ rfl (nn_ ?_)))
  refine gw_ret ?_
  refine nx_blk_ret (nx_then_ret (nx_then_ret (nx_blk_ret (nx_then_ret ?_))))
  refine nx_ret1 rfl rfl fun wx hm => ?_
  refine ⟨?_, hm.g⟩
  rw [firstE_pair, if_pos h1]
 have h2 : b = 0 := by simpa using hh
 clear hh
 refine gw_skip (nx_blk_nrm (nx_then (gw_region (ad_ rfl rfl ?_))))
 refine wl_set 16 (v' := .int .i64 2) rfl rfl ?_
 refine mv_ rfl (wl_nil ?_)
 refine nx_next ?_
 refine gr_next ?_
 refine sr_ (wl_ov (ov_lss rfl rfl) rfl ?_)
 refine wl_set 9 (v' := .bool false) rfl (congrArg Value.bool (by decide)) ?_
 refine nn_ (gw_seq (cf_ rfl ?_))
 refine gw_exit ?_
 refine nx_then_exit (nx_then_exit ?_)
 refine nx_blk_here ?_
 refine nx_then (sr_ (mv_ rfl (sg_ rfl (nn_ ?_))))
 refine gw_ret ?_
 refine nx_ret1 rfl rfl fun wx hm => ?_
 refine ⟨?_, hm.g⟩
 rw [firstE_pair, if_pos h1, h2]
end Go.Proofs.YtempjmpfdniecaaGreatDoor
namespace Go.Proofs.YtempjmpfdniecaaGreatDoor
open Go.RowKit
theorem pred_VehicleAt_1_rentref1 (vk : ByteArray) (vc : ByteArray) (gk : Nat) (k : ByteArray) (w : World) (hk : Blk w gk 9 [.string k]) :
  Calls Tryz.prog 266 #[.agg #[.string vk, .string vc], .pointer (some ⟨gk, 0, none⟩)] w (fun e w' => e = .returned (.bool (vhP k ⟨vk, vc⟩)) /\ w.grownBy w' none) := by
 refine gw_enter ⟨8, w, none, []⟩ Tryz.func266 rfl Tryz.ntmps266 rfl (mem0 (X := [BlkOld w.heap.size none gk 9 [.string k]]) (allF_cons hk.old allF_nil) (allL_cons BlkOld.lasts allL_nil)) ?_
 refine sr_ ?_
 refine wl_box rfl rfl rfl fun g1 => ?_
 refine sg_ rfl (nn_ (sr_ (fd_ fo160_0 rfl rfl (lk_ sc9 0 rfl rfl rfl ?_))))
 refine wl_ov (ov_load (v := .string k) sc9 rfl (fun _ hm => (hm.fact 0 rfl).2) rfl) rfl ?_
 refine wl_ov (ov_seql rfl rfl) rfl (sg_ rfl (nn_ ?_))
 refine gw_ret ?_
 refine nx_ret1 rfl rfl fun wx hm => ?_
 exact ⟨rfl, hm.g⟩
theorem index_VehicleAt_1_rentref1 (l : List Vh) (A : Option Addr) (n c0 : Nat) (gk : Nat) (k : ByteArray) (w : World) (hl : SlT vhEnc 2 160 w A n l) (hn : n <= 1000000) (hk : Blk w gk 9 [.string k]) :
  Calls Tryz.prog 265 #[.slice A n c0, .func (.func 266) #[] #[.pointer (some ⟨gk, 0, none⟩)]] w (GotE w (ixP (vhP k) l 0)) := by
 refine gw_enter ⟨19, w, none, []⟩ Tryz.func265 rfl Tryz.ntmps265 rfl (mem0 (X := [SlOld vhEnc 2 160 w.heap.size none A n l, BlkOld w.heap.size none gk 9 [.string k]]) (allF_cons hl.old (allF_cons hk.old allF_nil)) (allL_cons SlOld.lasts (allL_cons BlkOld.lasts allL_nil))) ?_
 refine sr_ ?_
 have hlen := hl.len
 refine sg_ rfl (nn_ (gw_seq (sr_ (mv_ rfl (wl_ov (ov_len es59 rfl) rfl (mv_ rfl (nn_ (gw_block ?_))))))))
 refine gw_loop (γ := Nat) (fun (i : Nat) => i <= n /\ ixP (vhP k) l 0 = ixP (vhP k) (l.drop i) i) (fun (i : Nat) => [(0, .slice A n c0), (1, .func (.func 266) #[] #[.pointer (some ⟨gk, 0, none⟩)]), (7, .int .i64 ((n : Nat) : Int)), (8, .int .i64 ((i : Nat) : Int))]) (fun (i : Nat) => fun _ => True) (fun (i : Nat) => []) (fun (i : Nat) => []) (fun (i : Nat) => [SlOld vhEnc 2 160 w.heap.size none A n l, BlkOld w.heap.size none gk 9 [.string k]]) (fun (i : Nat) => n - i) 0 ⟨Nat.zero_le _, rfl⟩ ⟨rfl, rfl, rfl, rfl, trivial⟩ (fun _ hm => hm.pick [] [] [0, 1] rfl rfl) ?_
 intro i hinv
 replace hinv : i <= n /\ ixP (vhP k) l 0 = ixP (vhP k) (l.drop i) i := hinv
 refine sr_ (wl_ov (ov_lss rfl rfl) rfl (nn_ (gw_seq ?_)))
 refine gw_cond rfl (fun hh => ?_) (fun hh => ?_)
 ·have hi : ((i : Nat) : Int) < ((n : Nat) : Int) := by simpa using hh
  clear hh
  refine gw_skip (nx_then (gw_seq (gw_block (sr_ ?_))))
  obtain ⟨b, off, hA, _, _⟩ := hl.get (by omega)
  subst hA
  obtain ⟨x, hx⟩ : ∃ x, l[i]? = some x := ⟨_, List.getElem?_eq_getElem (by omega)⟩
  obtain ⟨vk, vc⟩ := x
  have hat := ixP_at (p := vhP k) hx
  refine mv_ rfl (sg_ rfl (nn_ (sr_ (mv_ rfl (mv_ rfl (mv_ rfl ?_))))))
  refine wl_ov (ov_index (j := i) es59 rfl rfl (by omega)) rfl ?_
  refine wl_ov (ov_elem (vs := [.string vk, .string vc]) rz160 rfl (fun _ hm => (hm.fact 0 rfl).1) hx rfl rfl) rfl ?_
  refine wl_callv rfl cb266 rfl rfl (fun wx hm => (pred_VehicleAt_1_rentref1 vk vc gk k wx (hm.fact 1 rfl).2)) ?_
  refine nn_ ?_
  refine gw_cond rfl (fun hh => ?_) (fun hh => ?_)
  ·have hq : (vhP k ⟨vk, vc⟩) = true := by simpa using hh
   clear hh
   refine sr_ (mv_ rfl (sg_ rfl (nn_ ?_)))
   refine gw_ret ?_
   refine nx_blk_ret (nx_then_ret (nx_then_ret (nx_blk_ret (nx_then_ret ?_))))
   refine nx_ret1 rfl rfl fun wx hm => ?_
   exact ⟨ret_int (by rw [hinv.2, hat, if_pos hq]), hm.g⟩
  have hq : (vhP k ⟨vk, vc⟩) = false := by simpa using hh
  clear hh
  refine gw_skip (nx_blk_nrm (nx_then (gw_region (ad_ rfl rfl (mv_ rfl (wl_nil ?_))))))
  exact nx_round (i + 1) ⟨by omega, by rw [hinv.2, hat, if_neg (by rw [hq]; decide)]⟩ (by omega) ⟨rfl, rfl, rfl, (some_int (by omega)), trivial⟩ (fun _ hm => hm.pick [] [] [0, 1] rfl rfl)
 have hi : ¬ (((i : Nat) : Int) < ((n : Nat) : Int)) := by simpa using hh
 clear hh
 refine gw_exit ?_
 refine nx_then_exit (nx_then_exit ?_)
 refine nx_blk_here ?_
 refine nx_then (sr_ (sg_ rfl ?_))
 refine wl_set 4 (v' := .int .i64 (-1)) rfl rfl ?_
 refine nn_ ?_
 refine gw_ret ?_
 refine nx_ret1 rfl rfl fun wx hm => ?_
 exact ⟨ret_int (by rw [hinv.2, List.drop_eq_nil_of_le (by omega)]; rfl), hm.g⟩
theorem rVehicleAt_any (vl : List Vh) (sA cA vA pA : Option Addr) (sn sc cn cc vn vc pn pc : Nat) (k : ByteArray) (w : World) (hv : SlT vhEnc 2 160 w vA vn vl) (hn : vn <= 1000000) :
  Calls Tryz.prog 199 #[.agg #[.slice sA sn sc, .slice cA cn cc, .slice vA vn vc, .slice pA pn pc], .string k] w (GotE w (ixP (vhP k) vl 0)) := by
 refine gw_enter ⟨9, w, none, []⟩ Tryz.func199 rfl Tryz.ntmps199 rfl (mem0 (X := [SlOld vhEnc 2 160 w.heap.size none vA vn vl]) (allF_cons hv.old allF_nil) (allL_cons SlOld.lasts allL_nil)) ?_
 refine sr_ ?_
 refine wl_box rfl rfl rfl fun g1 => ?_
 refine wl_box rfl rfl rfl fun g2 => ?_
 refine sg_ rfl (nn_ (sr_ (fd_ fo62_2 rfl rfl (lk_ sc59 1 rfl rfl rfl (wl_ov (ov_makeFunc rfl rfl) rfl ?_)))))
 refine wl_callv rfl cb265 rfl rfl (fun wx hm => (index_VehicleAt_1_rentref1 vl vA vn vc _ k wx (hm.fact 0 rfl).1 hn (hm.blkI 0 rfl))) ?_
 refine sg_ rfl (nn_ ?_)
 refine gw_ret ?_
 refine nx_ret1 rfl rfl fun wx hm => ?_
 exact ⟨rfl, hm.g⟩
theorem vehCmp (vk vc k : ByteArray) (w : World) : Calls Tryz.prog 279 #[.agg #[.string vk, .string vc], .string k] w (fun e w' => e = .returned (.int .i64 (cmpS vk k)) /\ w.grownBy w' none) := by
 refine gw_enter ⟨9, w, none, []⟩ Tryz.func279 rfl Tryz.ntmps279 rfl (mem0 (X := []) allF_nil allL_nil) ?_
 refine sr_ ?_
 refine wl_box rfl rfl rfl fun g1 => ?_
 refine sg_ rfl (nn_ (sr_ (fd_ fo160_0 rfl rfl (lk_ sc9 0 rfl rfl rfl (mv_ rfl ?_)))))
 refine wl_callv rfl cb84 rfl rfl (fun wx hm => (cmp_string _ _ wx)) ?_
 refine sg_ rfl (nn_ ?_)
 refine gw_ret ?_
 refine nx_ret1 rfl rfl fun wx hm => ?_
 exact ⟨rfl, hm.g⟩
theorem bsearch_any (vl : List Vh) (vA : Option Addr) (vn vc : Nat) (k : ByteArray) (w : World) (hv : SlT vhEnc 2 160 w vA vn vl) (hn : vn <= 1000000) (hr : Rise vl) :
  Calls Tryz.prog 278 #[.slice vA vn vc, .string k, .func (.func 279) #[] #[]] w (fun e w' => ∃ (i : Nat) (f : Bool), e = .returned (.tuple #[.int .i64 ((i : Nat) : Int), .bool f]) /\ (f = true -> ixP (vhP k) vl 0 = (i : Int)) /\ (f = false -> ixP (vhP k) vl 0 = -1) /\ w.grownBy w' none) := by
 refine gw_enter ⟨49, w, none, []⟩ Tryz.func278 rfl Tryz.ntmps278 rfl (mem0 (X := [SlOld vhEnc 2 160 w.heap.size none vA vn vl]) (allF_cons hv.old allF_nil) (allL_cons SlOld.lasts allL_nil)) ?_
 refine sr_ ?_
 have hlen := hv.len
 refine sg_ rfl (sg_ rfl (nn_ (sr_ (mv_ rfl (wl_ov (ov_len es59 rfl) rfl (sg_ rfl (nn_ (sr_ (mv_ rfl ?_)))))))))
 refine sg_ rfl (sg_ rfl (nn_ (gw_seq (gw_block ?_))))
 refine gw_loop (γ := Nat × Nat) (fun g => (g.1 <= g.2 /\ g.2 <= vn) /\ Low vl k g.1 /\ High vl k g.2) (fun g => [(0, .slice vA vn vc), (1, .string k), (2, .func (.func 279) #[] #[]), (6, .int .i64 0), (7, .bool false), (8, .int .i64 ((vn : Nat) : Int)), (9, .int .i64 ((g.1 : Nat) : Int)), (10, .int .i64 ((g.2 : Nat) : Int))]) (fun g => fun _ => True) (fun g => []) (fun g => []) (fun g => [SlOld vhEnc 2 160 w.heap.size none vA vn vl]) (fun g => g.2 - g.1) (0, vn) ⟨⟨Nat.zero_le _, Nat.le_refl _⟩, (fun i h => by omega), fun i h x hx => by have := (List.getElem?_eq_some_iff.1 hx).1; omega⟩ ⟨rfl, rfl, rfl, rfl, rfl, rfl, (some_int (by omega)), rfl, trivial⟩ (fun _ hm => hm.pick [] [] [0] rfl rfl) ?_
 rintro ⟨a, b⟩ hinv
 replace hinv : (a <= b /\ b <= vn) /\ Low vl k a /\ High vl k b := hinv
 dsimp only
 refine gw_seq (sr_ ?_)
 obtain ⟨⟨hab, hbn⟩, hlow, hhigh⟩ := hinv
 refine mv_ rfl (mv_ rfl (wl_ov (ov_lss rfl rfl) rfl (nn_ ?_)))
 refine gw_cond rfl (fun hh => ?_) (fun hh => ?_)
 ·have hc : ((a : Nat) : Int) < ((b : Nat) : Int) := by simpa using hh
  clear hh
  refine gw_skip (nx_then (gw_block (sr_ ?_)))
  obtain ⟨h, hh⟩ : ∃ h, h = (a + b) / 2 := ⟨_, rfl⟩
  have hha : a <= h := by omega
  have hhb : h < b := by omega
  obtain ⟨x, hx⟩ : ∃ x, vl[h]? = some x := ⟨_, List.getElem?_eq_getElem (by omega)⟩
  obtain ⟨vk, vc2⟩ := x
  obtain ⟨bv, ov, hA, _, _⟩ := hv.get (by omega)
  subst hA
  refine mv_ rfl (mv_ rfl (ad_ rfl rfl ?_))
  refine wl_set 20 (v' := .int .i64 (((a + b) : Nat) : Int)) rfl (congrArg (Value.int .i64) (by omega)) ?_
  refine wl_ov (ov_u64 (a := (a + b)) (by kernel_rfl) (by kernel_rfl) rfl (by omega)) rfl ?_
  refine wl_ov (ov_shru1 (a := (a + b)) rfl rfl) rfl ?_
  refine wl_ov (ov_i64 (a := (a + b) / 2) (by kernel_rfl) (by kernel_rfl) rfl (by omega)) rfl ?_
  refine wl_set 23 (v' := .int .i64 ((h : Nat) : Int)) rfl (congrArg (Value.int .i64) (by omega)) ?_
  refine sg_ rfl (nn_ (sr_ (mv_ rfl (mv_ rfl (mv_ rfl ?_)))))
  refine wl_ov (ov_index (j := h) es59 rfl rfl (by omega)) rfl ?_
  refine wl_ov (ov_elem (vs := [.string vk, .string vc2]) rz160 rfl (fun _ hm => (hm.fact 0 rfl).1) hx rfl rfl) rfl ?_
  refine mv_ rfl ?_
  refine wl_callv rfl cb279 rfl rfl (fun wx hm => (vehCmp vk vc2 k wx)) ?_
  refine wl_ov (ov_lss rfl rfl) rfl (nn_ ?_)
  refine gw_cond rfl (fun hh => ?_) (fun hh => ?_)
  ·have hl : cmpS vk k < 0 := by simpa using hh
   clear hh
   refine gw_region (mv_ rfl (ad_ rfl rfl (sg_ rfl (wl_nil (nx_blk_nrm ?_)))))
   exact nx_round (h + 1, b) ⟨⟨by dsimp only; omega, hbn⟩, low_next hr hx hl, hhigh⟩ (by dsimp only; omega) ⟨rfl, rfl, rfl, rfl, rfl, rfl, (some_int (by omega)), rfl, trivial⟩ (fun _ hm => hm.pick [] [] [0] rfl rfl)
  have hl : ¬ (cmpS vk k < 0) := by simpa using hh
  clear hh
  refine gw_region (mv_ rfl (sg_ rfl (wl_nil (nx_blk_nrm ?_))))
  exact nx_round (a, h) ⟨⟨by dsimp only; omega, by dsimp only; omega⟩, hlow, high_next hr hx hl⟩ (by dsimp only; omega) ⟨rfl, rfl, rfl, rfl, rfl, rfl, rfl, (some_int (by omega)), trivial⟩ (fun _ hm => hm.pick [] [] [0] rfl rfl)
 have hc : ¬ (((a : Nat) : Int) < ((b : Nat) : Int)) := by simpa using hh
 clear hh
 refine gw_exit ?_
 refine nx_then_exit (nx_then_exit ?_)
 refine nx_blk_here ?_
 refine nx_then (sr_ ?_)
 obtain rfl : b = a := by omega
 by_cases hbv : b < vn
 ·obtain ⟨x, hx⟩ : ∃ x, vl[b]? = some x := ⟨_, List.getElem?_eq_getElem (by omega)⟩
  obtain ⟨vk, vc2⟩ := x
  obtain ⟨bv, ov, hA, _, _⟩ := hv.get (by omega)
  subst hA
  refine mv_ rfl (mv_ rfl (mv_ rfl (wl_ov (ov_lss rfl rfl) rfl ?_)))
  refine wl_set 38 (v' := .bool true) rfl (congrArg Value.bool (decide_eq_true (by omega))) ?_
  refine mv_ rfl (wl_guard_on rfl rfl rfl (mv_ rfl (wl_guard_on rfl rfl rfl (mv_ rfl (wl_guard_on rfl rfl rfl (mv_ rfl (wl_guard_on rfl rfl rfl ?_)))))))
  refine wl_ov (ov_index (j := b) es59 rfl rfl (by omega)) rfl ?_
  refine wl_guard_on rfl rfl rfl ?_
  refine wl_ov (ov_elem (vs := [.string vk, .string vc2]) rz160 rfl (fun _ hm => (hm.fact 0 rfl).1) hx rfl rfl) rfl ?_
  refine wl_guard_on rfl rfl rfl (mv_ rfl (wl_guard_on rfl rfl rfl ?_))
  refine wl_callv rfl cb279 rfl rfl (fun wx hm => (vehCmp vk vc2 k wx)) ?_
  refine wl_guard_on rfl rfl rfl (wl_ov (ov_eql rfl rfl) rfl (pt_ rfl rfl (sg_ rfl (sg_ rfl (nn_ ?_)))))
  refine gw_ret ?_
  refine nx_ret2 rfl rfl rfl fun wx hm => ?_
  exact ⟨_, _, rfl, fun h => bs_yes hlow hx (of_decide_eq_true h), fun h => bs_no hr hlow hhigh (fun y hy => by rw [hx] at hy; cases hy; exact of_decide_eq_false h), hm.g⟩
 refine mv_ rfl (mv_ rfl (mv_ rfl (wl_ov (ov_lss rfl rfl) rfl ?_)))
 refine wl_set 38 (v' := .bool false) rfl (congrArg Value.bool (decide_eq_false (by omega))) ?_
 refine mv_ rfl (goff rfl rfl rfl (goff rfl rfl rfl (goff rfl rfl rfl (goff rfl rfl rfl (goff rfl rfl rfl (goff rfl rfl rfl (goff rfl rfl rfl (goff rfl rfl rfl (pf_ rfl rfl (sg_ rfl (sg_ rfl (nn_ ?_))))))))))))
 refine gw_ret ?_
 refine nx_ret2 rfl rfl rfl fun wx hm => ?_
 exact ⟨_, _, rfl, (fun h => by cases h), fun _ => bs_no hr hlow hhigh (fun y hy => by have := (List.getElem?_eq_some_iff.1 hy).1; omega), hm.g⟩
theorem vehicleAt_any (vl : List Vh) (sA cA vA pA : Option Addr) (sn sc cn cc vn vc pn pc : Nat) (k : ByteArray) (w : World) (hv : SlT vhEnc 2 160 w vA vn vl) (hn : vn <= 1000000) (hr : Rise vl) :
  Calls Tryz.prog 215 #[.agg #[.slice sA sn sc, .slice cA cn cc, .slice vA vn vc, .slice pA pn pc], .string k] w (GotE w (ixP (vhP k) vl 0)) := by
 refine gw_enter ⟨17, w, none, []⟩ Tryz.func215 rfl Tryz.ntmps215 rfl (mem0 (X := [SlOld vhEnc 2 160 w.heap.size none vA vn vl]) (allF_cons hv.old allF_nil) (allL_cons SlOld.lasts allL_nil)) ?_
 refine sr_ ?_
 refine wl_box rfl rfl rfl fun g1 => ?_
 refine sg_ rfl (nn_ (sr_ (fd_ fo62_2 rfl rfl (lk_ sc59 0 rfl rfl rfl (mv_ rfl ?_)))))
 refine wl_callx (γ := Nat × Bool) (val := (fun g => .tuple #[.int .i64 ((g.1 : Nat) : Int), .bool g.2])) (φ := (fun g => (g.2 = true -> ixP (vhP k) vl 0 = (g.1 : Int)) /\ (g.2 = false -> ixP (vhP k) vl 0 = -1))) (Y := (fun g => fun _ => True)) rfl cb278 rfl rfl (fun wx hm => (bsearch_any vl vA vn vc k wx (hm.fact 0 rfl).1 hn hr).mono fun _ _ ⟨i, f, he, h1, h2, hg⟩ => ⟨(i, f), he, ⟨h1, h2⟩, hg, trivial⟩) (fun _ => Lasts2.true_) ?_
 rintro ⟨i, f⟩ hif
 dsimp only at hif ⊢
 refine mv_ rfl (wl_ov (ov_extract rfl rfl) rfl (wl_ov (ov_extract rfl rfl) rfl (sg_ rfl (sg_ rfl (nn_ (gw_seq (sr_ (mv_ rfl (wl_ov (ov_un_not rfl) rfl (nn_ ?_))))))))))
 refine gw_cond rfl (fun hh => ?_) (fun hh => ?_)
 ·have hf : f = false := by simpa using hh
  clear hh
  refine sr_ (sg_ rfl ?_)
  refine wl_set 4 (v' := .int .i64 (-1)) rfl rfl ?_
  refine nn_ ?_
  refine gw_ret ?_
  refine nx_then_ret ?_
  refine nx_ret1 rfl rfl fun wx hm => ?_
  exact ⟨ret_int (by rw [hif.2 hf]), hm.g⟩
 have hf : f = true := by simpa using hh
 clear hh
 refine gw_skip (nx_then (sr_ (mv_ rfl (sg_ rfl (nn_ ?_)))))
 refine gw_ret ?_
 refine nx_ret1 rfl rfl fun wx hm => ?_
 exact ⟨ret_int (by rw [hif.1 hf]), hm.g⟩
theorem plateForm_any (p : ByteArray) (w : World) (hp : p.size <= 1000000) : Calls Tryz.prog 200 #[.string p] w (fun e w' => e = .returned (.bool (plateB p)) /\ w.grownBy w' none) := by
 refine gw_enter ⟨10, w, none, []⟩ Tryz.func200 rfl Tryz.ntmps200 rfl (mem0 (X := []) allF_nil allL_nil) ?_
 refine sr_ ?_
 obtain ⟨Q, hQ⟩ : ∃ Q, Q = onlyB p.data.toList plateBytes := ⟨_, rfl⟩
 refine sg_ rfl (nn_ (sr_ (mv_ rfl ?_)))
 refine wl_ov (ov_lens us9 rfl) rfl ?_
 refine wl_callw rfl cb154 rfl rfl (fun wx hm => (rin_any _ _ _ wx)) ?_
 refine mv_ rfl ?_
 rcases Bool.eq_false_or_eq_true (inB ((p).size : Int) 2 10) with hI2 | hI2
 ·refine wl_set 6 rfl (congrArg Value.bool hI2) ?_
  refine wl_guard_on rfl rfl rfl (mv_ rfl (wl_guard_on rfl rfl rfl ?_))
  refine wl_callv (v := .bool Q) rfl cb264 rfl rfl (fun wx hm => (by rw [hQ]; exact only_plate p wx (by omega))) ?_
  refine pt_ rfl rfl (sg_ rfl (nn_ ?_))
  refine gw_ret ?_
  refine nx_ret1 rfl rfl fun wx hm => ?_
  exact ⟨by rw [plate_only, <- hQ, hI2]; rfl, hm.g⟩
 refine wl_set 6 rfl (congrArg Value.bool hI2) ?_
 refine goff rfl rfl rfl (goff rfl rfl rfl (pf_ rfl rfl (sg_ rfl (nn_ ?_))))
 refine gw_ret ?_
 refine nx_ret1 rfl rfl fun wx hm => ?_
 exact ⟨by rw [plate_only, hI2]; rfl, hm.g⟩
theorem compare2_any (g1 g2 : Nat) (a1 a2 b1 b2 : ByteArray) (w : World) (h1 : Blk w g1 9 [.string a1, .string a2]) (h2 : Blk w g2 9 [.string b1, .string b2]) :
  Calls Tryz.prog 267 #[.slice (some ⟨g1, 0, none⟩) 2 2, .slice (some ⟨g2, 0, none⟩) 2 2] w (GotE w (firstE [cmpS a1 b1, cmpS a2 b2])) := by
 refine gw_enter ⟨36, w, none, []⟩ Tryz.func267 rfl Tryz.ntmps267 rfl (mem0 (X := [BlkOld w.heap.size none g1 9 [.string a1, .string a2], BlkOld w.heap.size none g2 9 [.string b1, .string b2]]) (allF_cons h1.old (allF_cons h2.old allF_nil)) (allL_cons BlkOld.lasts (allL_cons BlkOld.lasts allL_nil))) ?_
 refine sr_ (sg_ rfl (nn_ (gw_seq (sr_ (mv_ rfl (wl_ov (ov_len es103 rfl) rfl ?_))))))
 refine wl_set 10 (v' := .int .i64 2) rfl rfl ?_
 refine mv_ rfl (nn_ (gw_block ?_))
 refine gw_rounds 3 ?_
 refine gr_next ?_
 refine sr_ (wl_ov (ov_lss rfl rfl) rfl ?_)
 refine wl_set 12 (v' := .bool true) rfl (congrArg Value.bool (by decide)) ?_
 refine nn_ (gw_seq (ct_ rfl (gw_skip (nx_then (gw_seq (gw_block (sr_ (mv_ rfl ?_))))))))
 refine wl_ov (ov_index (j := 0) es103 rfl rfl (by decide)) rfl ?_
 refine wl_ov (ov_load (v := .string a1) sc9 rfl (fun _ hm => (hm.fact 0 rfl).2) rfl) rfl ?_
 refine sg_ rfl (sg_ rfl (nn_ (gw_seq (sr_ (mv_ rfl (mv_ rfl (wl_ov (ov_len es103 rfl) rfl ?_)))))))
 refine wl_set 18 (v' := .int .i64 2) rfl rfl ?_
 refine wl_ov (ov_geq rfl rfl) rfl ?_
 refine wl_set 19 (v' := .bool false) rfl (congrArg Value.bool (by decide)) ?_
 refine nn_ (cf_ rfl (gw_skip (nx_then (sr_ (mv_ rfl (mv_ rfl ?_))))))
 refine wl_ov (ov_index (j := 0) es103 rfl rfl (by decide)) rfl ?_
 refine wl_ov (ov_load (v := .string b1) sc9 rfl (fun _ hm => (hm.fact 1 rfl).2) rfl) rfl ?_
 refine sg_ rfl (nn_ (sr_ (mv_ rfl (mv_ rfl ?_))))
 refine wl_callv rfl cb84 rfl rfl (fun wx hm => (cmp_string _ _ wx)) ?_
 refine sg_ rfl (nn_ (sr_ (mv_ rfl (wl_ov (ov_neq rfl rfl) rfl (nn_ ?_)))))
 refine gw_cond rfl (fun hh => ?_) (fun hh => ?_)
 ·have h3 : ¬ (cmpS a1 b1 = 0) := by simpa using hh
  clear hh
  refine sr_ (mv_ rfl (sg_ rfl (nn_ ?_)))
  refine gw_ret ?_
  refine nx_blk_ret (nx_then_ret (nx_then_ret (nx_blk_ret (nx_then_ret ?_))))
  refine nx_ret1 rfl rfl fun wx hm => ?_
  exact ⟨ret_int (by simp [firstE, h3]), hm.g⟩
 have h3 : cmpS a1 b1 = 0 := by simpa using hh
 clear hh
 refine gw_skip (nx_blk_nrm (nx_then (gw_region (ad_ rfl rfl ?_))))
 refine wl_set 30 (v' := .int .i64 1) rfl rfl ?_
 refine mv_ rfl (wl_nil ?_)
 refine nx_next ?_
 refine gr_next ?_
 refine sr_ (wl_ov (ov_lss rfl rfl) rfl ?_)
 refine wl_set 12 (v' := .bool true) rfl (congrArg Value.bool (by decide)) ?_
 refine nn_ (gw_seq (ct_ rfl (gw_skip (nx_then (gw_seq (gw_block (sr_ (mv_ rfl ?_))))))))
 refine wl_ov (ov_index (j := 1) es103 rfl rfl (by decide)) rfl ?_
 refine wl_ov (ov_load (v := .string a2) sc9 rfl (fun _ hm => (hm.fact 0 rfl).2) rfl) rfl ?_
 refine sg_ rfl (sg_ rfl (nn_ (gw_seq (sr_ (mv_ rfl (mv_ rfl (wl_ov (ov_len es103 rfl) rfl ?_)))))))
 refine wl_set 18 (v' := .int .i64 2) rfl rfl ?_
 refine wl_ov (ov_geq rfl rfl) rfl ?_
 refine wl_set 19 (v' := .bool false) rfl (congrArg Value.bool (by decide)) ?_
 refine nn_ (cf_ rfl (gw_skip (nx_then (sr_ (mv_ rfl (mv_ rfl ?_))))))
 refine wl_ov (ov_index (j := 1) es103 rfl rfl (by decide)) rfl ?_
 refine wl_ov (ov_load (v := .string b2) sc9 rfl (fun _ hm => (hm.fact 1 rfl).2) rfl) rfl ?_
 refine sg_ rfl (nn_ (sr_ (mv_ rfl (mv_ rfl ?_))))
 refine wl_callv rfl cb84 rfl rfl (fun wx hm => (cmp_string _ _ wx)) ?_
 refine sg_ rfl (nn_ (sr_ (mv_ rfl (wl_ov (ov_neq rfl rfl) rfl (nn_ ?_)))))
 refine gw_cond rfl (fun hh => ?_) (fun hh => ?_)
 ·have h4 : ¬ (cmpS a2 b2 = 0) := by simpa using hh
  clear hh
  refine sr_ (mv_ rfl (sg_ rfl (nn_ ?_)))
  refine gw_ret ?_
  refine nx_blk_ret (nx_then_ret (nx_then_ret (nx_blk_ret (nx_then_ret ?_))))
  refine nx_ret1 rfl rfl fun wx hm => ?_
  exact ⟨ret_int (by simp [firstE, h3, h4]), hm.g⟩
 have h4 : cmpS a2 b2 = 0 := by simpa using hh
 clear hh
 refine gw_skip (nx_blk_nrm (nx_then (gw_region (ad_ rfl rfl ?_))))
 refine wl_set 30 (v' := .int .i64 2) rfl rfl ?_
 refine mv_ rfl (wl_nil ?_)
 refine nx_next ?_
 refine gr_next ?_
 refine sr_ (wl_ov (ov_lss rfl rfl) rfl ?_)
 refine wl_set 12 (v' := .bool false) rfl (congrArg Value.bool (by decide)) ?_
 refine nn_ (gw_seq (cf_ rfl ?_))
 refine gw_exit ?_
 refine nx_then_exit (nx_then_exit ?_)
 refine nx_blk_here ?_
 refine nx_then (gw_seq (sr_ (mv_ rfl (wl_ov (ov_len es103 rfl) rfl ?_))))
 refine wl_set 32 (v' := .int .i64 2) rfl rfl ?_
 refine mv_ rfl (wl_ov (ov_len es103 rfl) rfl ?_)
 refine wl_set 34 (v' := .int .i64 2) rfl rfl ?_
 refine wl_ov (ov_lss rfl rfl) rfl ?_
 refine wl_set 35 (v' := .bool false) rfl (congrArg Value.bool (by decide)) ?_
 refine nn_ (cf_ rfl (gw_skip (nx_then (sr_ (sg_ rfl (nn_ ?_))))))
 refine gw_ret ?_
 refine nx_ret1 rfl rfl fun wx hm => ?_
 exact ⟨ret_int (by simp [firstE, h3, h4]), hm.g⟩
end Go.Proofs.YtempjmpfdniecaaGreatDoor
namespace Go.Proofs.YtempjmpfdniecaaGreatDoor
open Go.RowKit
def sgV3 (n : Int) : Int := if n < 0 then -1 else if 0 < n then 1 else 0
theorem ord_fr {a b : Pl} (h : ¬ a.fr = b.fr) : sgV3 (a.fr - b.fr) = plOrd a b := by
 unfold sgV3 plOrd cmpI
 by_cases h1 : a.fr < b.fr
 ·simp [firstE, h1, show a.fr - b.fr < 0 by omega]
 ·have h2 : b.fr < a.fr := by omega
  simp [firstE, h1, h2, show ¬ a.fr - b.fr < 0 by omega]
theorem ord_eq {a b : Pl} (h : a.fr = b.fr) : firstE [cmpS a.veh b.veh, cmpS a.plate b.plate] = plOrd a b := by
 unfold plOrd cmpI
 rw [if_neg (by omega), if_neg (by omega)]
 simp [firstE]
theorem ord_le {a b : Pl} (h : ¬ 0 <= plOrd a b) : a.fr <= b.fr := by
 refine Classical.byContradiction fun hn => h ?_
 unfold plOrd cmpI
 rw [if_neg (by omega), if_pos (by omega)]
 simp [firstE]
def PSort (l : List Pl) : Prop := l.Pairwise fun q r => q.fr <= r.fr
theorem psort_snoc {l : List Pl} {p : Pl} (h : PSort l) (hl : ∀ q, l.getLast? = some q -> q.fr <= p.fr) : PSort (l ++ [p]) := by
 unfold PSort at *
 rw [List.pairwise_append]
 refine ⟨h, List.pairwise_singleton _ _, fun q hq r hr => ?_⟩
 rw [List.mem_singleton.1 hr]
 cases hg : l.getLast? with
 | none =>
  rw [List.getLast?_eq_none_iff.1 hg] at hq; cases hq
 | some z =>
  have hz := hl z hg
  rcases List.getLast?_eq_some_iff.1 hg with ⟨ys, rfl⟩
  rw [List.pairwise_append] at h
  rcases List.mem_append.1 hq with h1 | h1
  ·have := h.2.2 q h1 z (by simp); omega
  ·rw [List.mem_singleton.1 h1]; exact hz
theorem psort_at {l : List Pl} (h : PSort l) {i j : Nat} {x y : Pl} (hij : i <= j) (hx : l[i]? = some x) (hy : l[j]? = some y) : x.fr <= y.fr := by
 rcases Nat.eq_or_lt_of_le hij with rfl | h1
 ·rw [hx] at hy; cases hy; exact Int.le_refl _
 ·obtain ⟨hi, rfl⟩ := List.getElem?_eq_some_iff.1 hx
  obtain ⟨hj, rfl⟩ := List.getElem?_eq_some_iff.1 hy
  exact List.pairwise_iff_getElem.1 h i j hi hj h1
theorem plG_at {vs : List Vh} {l : List Pl} {i : Nat} {p : Pl} (h : l[i]? = some p) : plG vs (l.take i) (l.drop i) = if plE vs (l.take i) p = 0 then plG vs (l.take (i + 1)) (l.drop (i + 1)) else plE vs (l.take i) p := by
 obtain ⟨hi, rfl⟩ := List.getElem?_eq_some_iff.1 h
 rw [List.drop_eq_getElem_cons hi, List.take_succ_eq_append_getElem hi]
 rfl
theorem last_take {l : List Pl} {i : Nat} (hi : i <= l.length) : (l.take i).getLast? = if i = 0 then none else l[i - 1]? := by
 rw [List.getLast?_eq_getElem?, List.length_take, Nat.min_eq_left hi]
 by_cases h : i = 0
 ·subst h; simp
 ·rw [if_neg h, List.getElem?_take, if_pos (by omega)]
theorem plE_one {vs : List Vh} {pre : List Pl} {p : Pl} (h1 : inB p.fr 0 5761439 = false) : plE vs pre p = 1 := by unfold plE; rw [h1]; rfl
theorem plE_two {vs : List Vh} {pre : List Pl} {p : Pl} (h1 : inB p.fr 0 5761439 = true) (h2 : ixP (vhP p.veh) vs 0 < 0) : plE vs pre p = 8 := by unfold plE; rw [h1, if_neg (by decide), if_pos h2]
theorem plE_three {vs : List Vh} {pre : List Pl} {p : Pl} (h1 : inB p.fr 0 5761439 = true) (h2 : ¬ ixP (vhP p.veh) vs 0 < 0) (h3 : plateB p.plate = false) : plE vs pre p = 3 := by unfold plE; rw [h1, if_neg (by decide), if_neg h2, h3]; rfl
def plO (pre : List Pl) (p : Pl) : Bool := match pre.getLast? with | none => false | some q => decide (0 <= plOrd q p)
theorem plE_four {vs : List Vh} {pre : List Pl} {p : Pl} (h1 : inB p.fr 0 5761439 = true) (h2 : ¬ ixP (vhP p.veh) vs 0 < 0) (h3 : plateB p.plate = true) : plE vs pre p = if plO pre p = true then 7 else if pre.any (plTwin p) = true then 6 else 0 := by
 unfold plE
 rw [h1, if_neg (by decide), if_neg h2, h3, if_neg (by decide)]; rfl
theorem plO_zero {l : List Pl} {p : Pl} : plO (l.take 0) p = false := rfl
theorem plO_pos {l : List Pl} {i : Nat} {p q : Pl} (hi : i < l.length) (h0 : ¬ i = 0) (hq : l[i - 1]? = some q) : plO (l.take i) p = decide (0 <= plOrd q p) := by
 unfold plO
 rw [last_take (by omega), if_neg h0, hq]
theorem twin_none {l : List Pl} {i j : Nat} {p : Pl} (hs : PSort (l.take i)) (hi : i <= l.length) (hj : j <= i) (hlast : ∀ q, l[i - 1]? = some q -> ¬ i = 0 -> q.fr <= p.fr) (hno : ∀ t, j <= t -> t < i -> ∀ x, l[t]? = some x -> plTwin p x = false) (hend : j = 0 ∨ ∃ x, l[j - 1]? = some x /\ x.fr ≠ p.fr) : (l.take i).any (plTwin p) = false := by
 rw [List.any_eq_false]
 intro x hx
 obtain ⟨t, ht⟩ := List.getElem?_of_mem hx
 have hti : t < i := by
  have := (List.getElem?_eq_some_iff.1 ht).1
  rw [List.length_take] at this; omega
 have hlt : l[t]? = some x := by rw [List.getElem?_take, if_pos hti] at ht; exact ht
 rcases Nat.lt_or_ge t j with h1 | h1
 ·rcases hend with rfl | ⟨y, hy, hne⟩
  ·omega
  ·have hyt : (l.take i)[j - 1]? = some y := by rw [List.getElem?_take, if_pos (by omega)]; exact hy
   have h2 := psort_at hs (show t <= j - 1 by omega) ht hyt
   obtain ⟨z, hz⟩ : ∃ z, l[i - 1]? = some z := ⟨_, List.getElem?_eq_getElem (by omega)⟩
   have hzt : (l.take i)[i - 1]? = some z := by rw [List.getElem?_take, if_pos (by omega)]; exact hz
   have h3 := psort_at hs (show j - 1 <= i - 1 by omega) hyt hzt
   have h4 := hlast z hz (by omega)
   have h5 : ¬ x.fr = p.fr := by omega
   unfold plTwin
   rw [decide_eq_false h5]; simp
 ·rw [hno t h1 hti x hlt]; decide
theorem sign3_any (n : Int) (w : World) : Calls Tryz.prog 86 #[.int .i64 n] w (GotE w (sgV3 n)) := by
 refine gw_enter ⟨9, w, none, []⟩ Tryz.func86 rfl Tryz.ntmps86 rfl (mem0 (X := []) allF_nil allL_nil) ?_
 refine sr_ (sg_ rfl (nn_ (gw_seq (gw_block (sr_ (mv_ rfl (wl_ov (ov_lss rfl rfl) rfl (sg_ rfl (nn_ ?_)))))))))
 refine gw_cond rfl (fun hh => ?_) (fun hh => ?_)
 ·have h0 : n < 0 := by simpa using hh
  clear hh
  refine sr_ (sg_ rfl ?_)
  refine wl_set 2 (v' := .int .i64 (-1)) rfl rfl ?_
  refine nn_ ?_
  refine gw_ret ?_
  refine nx_blk_ret (nx_then_ret ?_)
  refine nx_ret1 rfl rfl fun wx hm => ?_
  exact ⟨ret_int (by unfold sgV3; simp [h0]), hm.g⟩
 have h0 : ¬ (n < 0) := by simpa using hh
 clear hh
 refine sr_ (mv_ rfl ?_)
 refine wl_ov (ov_gtr rfl rfl) rfl ?_
 refine sg_ rfl (nn_ ?_)
 refine gw_cond rfl (fun hh => ?_) (fun hh => ?_)
 ·have h1 : 0 < n := by simpa using hh
  clear hh
  refine sr_ (sg_ rfl (nn_ ?_))
  refine gw_ret ?_
  refine nx_blk_ret (nx_then_ret ?_)
  refine nx_ret1 rfl rfl fun wx hm => ?_
  exact ⟨ret_int (by unfold sgV3; simp [h0, h1]), hm.g⟩
 have h1 : ¬ (0 < n) := by simpa using hh
 clear hh
 refine gw_skip (nx_blk_nrm (nx_then (sr_ (sg_ rfl (nn_ ?_)))))
 refine gw_ret ?_
 refine nx_ret1 rfl rfl fun wx hm => ?_
 exact ⟨ret_int (by unfold sgV3; simp [h0, h1]), hm.g⟩
theorem plateOrder_any (af : Int) (av ap : ByteArray) (bf : Int) (bv bp : ByteArray) (w : World) (hA : -4000000000000000000 <= af /\ af <= 4000000000000000000) (hB : -4000000000000000000 <= bf /\ bf <= 4000000000000000000) :
  Calls Tryz.prog 201 #[.agg #[.int .i64 af, .string av, .string ap], .agg #[.int .i64 bf, .string bv, .string bp]] w (GotE w (plOrd ⟨af, av, ap⟩ ⟨bf, bv, bp⟩)) := by
 refine gw_enter ⟨27, w, none, []⟩ Tryz.func201 rfl Tryz.ntmps201 rfl (mem0 (X := []) allF_nil allL_nil) ?_
 refine sr_ ?_
 refine wl_box rfl rfl rfl fun g1 => ?_
 refine wl_box rfl rfl rfl fun g2 => ?_
 refine sg_ rfl (nn_ (gw_seq (sr_ (fd_ fo162_0 rfl rfl (lk_ sc3 1 rfl rfl rfl (fd_ fo162_0 rfl rfl (lk_ sc3 0 rfl rfl rfl (wl_ov (ov_neq rfl rfl) rfl (nn_ ?_)))))))))
 refine gw_cond rfl (fun hh => ?_) (fun hh => ?_)
 ·have h1 : ¬ (af = bf) := by simpa using hh
  clear hh
  refine sr_ ?_
  have h2 : ¬ af = bf := by simpa using h1
  have hs1 : -9223372036854775808 <= af - bf := by omega
  have hs2 : af - bf <= 9223372036854775807 := by omega
  refine fd_ fo162_0 rfl rfl (lk_ sc3 1 rfl rfl rfl (fd_ fo162_0 rfl rfl (lk_ sc3 0 rfl rfl rfl ?_)))
  refine wl_ov (ov_sub rfl rfl hs1 hs2) rfl ?_
  refine wl_callv rfl cb86 rfl rfl (fun wx hm => (sign3_any _ wx)) ?_
  refine sg_ rfl (nn_ ?_)
  refine gw_ret ?_
  refine nx_then_ret ?_
  refine nx_ret1 rfl rfl fun wx hm => ?_
  exact ⟨ret_int (ord_fr (a := ⟨af, av, ap⟩) (b := ⟨bf, bv, bp⟩) h2), hm.g⟩
 have h1 : af = bf := by simpa using hh
 clear hh
 refine gw_skip (nx_then (sr_ (fd_ fo162_1 rfl rfl (lk_ sc9 1 rfl rfl rfl (fd_ fo162_2 rfl rfl (lk_ sc9 1 rfl rfl rfl ?_))))))
 refine wl_buildSlice (e := 9) (cs := [.string av, .string ap]) rfl (by kernel_rfl) rfl fun g3 => ?_
 refine fd_ fo162_1 rfl rfl (lk_ sc9 1 rfl rfl rfl (fd_ fo162_2 rfl rfl (lk_ sc9 1 rfl rfl rfl ?_)))
 refine wl_buildSlice (e := 9) (cs := [.string bv, .string bp]) rfl (by kernel_rfl) rfl fun g4 => ?_
 refine wl_callv rfl cb267 rfl rfl (fun wx hm => (compare2_any g3 g4 av ap bv bp wx (hm.blkI 1 rfl) (hm.blkI 0 rfl))) ?_
 refine sg_ rfl (nn_ ?_)
 refine gw_ret ?_
 refine nx_ret1 rfl rfl fun wx hm => ?_
 exact ⟨ret_int (ord_eq (a := ⟨af, av, ap⟩) (b := ⟨bf, bv, bp⟩) (by simpa using h1)), hm.g⟩
theorem or_three (g : Nat) (a b c : Int) (w : World) (h : Blk w g 3 [.int .i64 a, .int .i64 b, .int .i64 c]) :
  Calls Tryz.prog 82 #[.slice (some ⟨g, 0, none⟩) 3 3] w (GotE w (firstE [a, b, c])) := by
 refine gw_enter ⟨18, w, none, []⟩ Tryz.func82 rfl Tryz.ntmps82 rfl (mem0 (X := [BlkOld w.heap.size none g 3 [.int .i64 a, .int .i64 b, .int .i64 c]]) (allF_cons h.old allF_nil) (allL_cons BlkOld.lasts allL_nil)) ?_
 refine sr_ (sg_ rfl (nn_ (sr_ (sg_ rfl (nn_ (gw_seq (sr_ (mv_ rfl ?_))))))))
 refine wl_ov (ov_len es22 rfl) rfl ?_
 refine wl_set 7 (v' := .int .i64 3) rfl rfl ?_
 refine mv_ rfl (nn_ (gw_block ?_))
 refine gw_rounds 4 ?_
 refine gr_next ?_
 refine sr_ (wl_ov (ov_lss rfl rfl) rfl ?_)
 refine wl_set 9 (v' := .bool true) rfl (congrArg Value.bool (by decide)) ?_
 refine nn_ (gw_seq (ct_ rfl (gw_skip (nx_then (gw_seq (gw_block (sr_ ?_)))))))
 refine wl_ov (ov_index (j := 0) es22 rfl rfl (by decide)) rfl ?_
 refine wl_ov (ov_load (v := .int .i64 a) sc3 rfl (fun _ hm => (hm.fact 0 rfl).2) rfl) rfl ?_
 refine sg_ rfl (nn_ (sr_ (mv_ rfl (mv_ rfl (wl_ov (ov_neq rfl rfl) rfl (nn_ ?_))))))
 refine gw_cond rfl (fun hh => ?_) (fun hh => ?_)
 ·have h1 : ¬ (a = 0) := by simpa using hh
  clear hh
  refine sr_ (mv_ rfl (sg_ rfl (nn_ ?_)))
  refine gw_ret ?_
  refine nx_blk_ret (nx_then_ret (nx_then_ret (nx_blk_ret (nx_then_ret ?_))))
  refine nx_ret1 rfl rfl fun wx hm => ?_
  exact ⟨ret_int (by simp [firstE, h1]), hm.g⟩
 have h1 : a = 0 := by simpa using hh
 clear hh
 refine gw_skip (nx_blk_nrm (nx_then (gw_region (ad_ rfl rfl ?_))))
 refine wl_set 16 (v' := .int .i64 1) rfl rfl ?_
 refine mv_ rfl (wl_nil ?_)
 refine nx_next ?_
 refine gr_next ?_
 refine sr_ (wl_ov (ov_lss rfl rfl) rfl ?_)
 refine wl_set 9 (v' := .bool true) rfl (congrArg Value.bool (by decide)) ?_
 refine nn_ (gw_seq (ct_ rfl (gw_skip (nx_then (gw_seq (gw_block (sr_ ?_)))))))
 refine wl_ov (ov_index (j := 1) es22 rfl rfl (by decide)) rfl ?_
 refine wl_ov (ov_load (v := .int .i64 b) sc3 rfl (fun _ hm => (hm.fact 0 rfl).2) rfl) rfl ?_
 refine sg_ rfl (nn_ (sr_ (mv_ rfl (mv_ rfl (wl_ov (ov_neq rfl rfl) rfl (nn_ ?_))))))
 refine gw_cond rfl (fun hh => ?_) (fun hh => ?_)
 ·have h2 : ¬ (b = 0) := by simpa using hh
  clear hh
  refine sr_ (mv_ rfl (sg_ rfl (nn_ ?_)))
  refine gw_ret ?_
  refine nx_blk_ret (nx_then_ret (nx_then_ret (nx_blk_ret (nx_then_ret ?_))))
  refine nx_ret1 rfl rfl fun wx hm => ?_
  exact ⟨ret_int (by simp [firstE, h1, h2]), hm.g⟩
 have h2 : b = 0 := by simpa using hh
 clear hh
 refine gw_skip (nx_blk_nrm (nx_then (gw_region (ad_ rfl rfl ?_))))
 refine wl_set 16 (v' := .int .i64 2) rfl rfl ?_
 refine mv_ rfl (wl_nil ?_)
 refine nx_next ?_
 refine gr_next ?_
 refine sr_ (wl_ov (ov_lss rfl rfl) rfl ?_)
 refine wl_set 9 (v' := .bool true) rfl (congrArg Value.bool (by decide)) ?_
 refine nn_ (gw_seq (ct_ rfl (gw_skip (nx_then (gw_seq (gw_block (sr_ ?_)))))))
 refine wl_ov (ov_index (j := 2) es22 rfl rfl (by decide)) rfl ?_
 refine wl_ov (ov_load (v := .int .i64 c) sc3 rfl (fun _ hm => (hm.fact 0 rfl).2) rfl) rfl ?_
 refine sg_ rfl (nn_ (sr_ (mv_ rfl (mv_ rfl (wl_ov (ov_neq rfl rfl) rfl (nn_ ?_))))))
 refine gw_cond rfl (fun hh => ?_) (fun hh => ?_)
 ·have h3 : ¬ (c = 0) := by simpa using hh
  clear hh
  refine sr_ (mv_ rfl (sg_ rfl (nn_ ?_)))
  refine gw_ret ?_
  refine nx_blk_ret (nx_then_ret (nx_then_ret (nx_blk_ret (nx_then_ret ?_))))
  refine nx_ret1 rfl rfl fun wx hm => ?_
  exact ⟨ret_int (by simp [firstE, h1, h2, h3]), hm.g⟩
 have h3 : c = 0 := by simpa using hh
 clear hh
 refine gw_skip (nx_blk_nrm (nx_then (gw_region (ad_ rfl rfl ?_))))
 refine wl_set 16 (v' := .int .i64 3) rfl rfl ?_
 refine mv_ rfl (wl_nil ?_)
 refine nx_next ?_
 refine gr_next ?_
 refine sr_ (wl_ov (ov_lss rfl rfl) rfl ?_)
 refine wl_set 9 (v' := .bool false) rfl (congrArg Value.bool (by decide)) ?_
 refine nn_ (gw_seq (cf_ rfl ?_))
 refine gw_exit ?_
 refine nx_then_exit (nx_then_exit ?_)
 refine nx_blk_here ?_
 refine nx_then (sr_ (mv_ rfl (sg_ rfl (nn_ ?_))))
 refine gw_ret ?_
 refine nx_ret1 rfl rfl fun wx hm => ?_
 exact ⟨ret_int (by simp [firstE, h1, h2, h3]), hm.g⟩
end Go.Proofs.YtempjmpfdniecaaGreatDoor
namespace Go.Proofs.YtempjmpfdniecaaGreatDoor
open Go.RowKit
theorem ord_last {l : List Pl} {i : Nat} {p : Pl} (hi : i < l.length) (hO : plO (l.take i) p = false) : ∀ q, l[i - 1]? = some q -> ¬ i = 0 -> q.fr <= p.fr := fun q hq h0 => by
 rw [plO_pos hi h0 hq] at hO
 exact ord_le (of_decide_eq_false hO)
theorem psort_next {l : List Pl} {i : Nat} {p : Pl} (hs : PSort (l.take i)) (hp : l[i]? = some p) (hO : plO (l.take i) p = false) : PSort (l.take (i + 1)) := by
 have hi := (List.getElem?_eq_some_iff.1 hp).1
 rw [List.take_add_one, hp]
 refine psort_snoc hs fun q hq => ?_
 rw [last_take (by omega)] at hq
 split at hq
 ·cases hq
 ·rename_i h0
  exact ord_last hi hO q hq h0
theorem plates_end {vs : List Vh} {l : List Pl} {i : Nat} (h : l.length <= i) (hh : platesE vs l = plG vs (l.take i) (l.drop i)) : platesE vs l = 0 := by
 rw [hh, List.drop_eq_nil_of_le h]; rfl
theorem checkPlates_any (vl : List Vh) (pl : List Pl) (sA cA vA pA : Option Addr) (sn sc cn cc vn vc pn pc : Nat) (w : World) (hv : SlT vhEnc 2 160 w vA vn vl) (hp : SlT plEnc 3 162 w pA pn pl) (hvn : vn <= 1000000) (hpn : pn <= 1000000) (hr : Rise vl) (hpok : ∀ x ∈ pl, PlOk x) :
  Calls Tryz.prog 210 #[.agg #[.slice sA sn sc, .slice cA cn cc, .slice vA vn vc, .slice pA pn pc]] w (GotE w (platesE vl pl)) := by
 refine gw_enter ⟨97, w, none, []⟩ Tryz.func210 rfl Tryz.ntmps210 rfl (mem0 (X := [SlOld vhEnc 2 160 w.heap.size none vA vn vl, SlOld plEnc 3 162 w.heap.size none pA pn pl]) (allF_cons hv.old (allF_cons hp.old allF_nil)) (allL_cons SlOld.lasts (allL_cons SlOld.lasts allL_nil))) ?_
 refine sr_ ?_
 have hlen := hp.len
 refine wl_box rfl rfl rfl fun g1 => ?_
 refine sg_ rfl (nn_ (gw_seq (sr_ (fd_ fo62_3 rfl rfl (lk_ sc60 0 rfl rfl rfl (wl_ov (ov_len es60 rfl) rfl ?_))))))
 refine wl_ov (ov_gtr rfl rfl) rfl ?_
 refine nn_ ?_
 refine gw_cond rfl (fun hh => ?_) (fun hh => ?_)
 ·have h1 : 1000 < ((pn : Nat) : Int) := by simpa using hh
  clear hh
  refine sr_ (sg_ rfl (nn_ ?_))
  refine gw_ret ?_
  refine nx_then_ret ?_
  refine nx_ret1 rfl rfl fun wx hm => ?_
  exact ⟨ret_int (by unfold platesE; rw [if_pos (by omega)]), hm.g⟩
 have h1 : ¬ (1000 < ((pn : Nat) : Int)) := by simpa using hh
 clear hh
 refine gw_skip (nx_then (gw_seq (sr_ (fd_ fo62_3 rfl rfl (lk_ sc60 0 rfl rfl rfl (wl_ov (ov_len es60 rfl) rfl (mv_ rfl (nn_ (gw_block ?_)))))))))
 refine gw_loop (γ := Nat) (fun (i : Nat) => i <= pn /\ platesE vl pl = plG vl (pl.take i) (pl.drop i) /\ PSort (pl.take i)) (fun (i : Nat) => [(1, .pointer (some ⟨g1, 0, none⟩)), (13, .slice pA pn pc), (14, .int .i64 ((pn : Nat) : Int)), (15, .int .i64 ((i : Nat) : Int))]) (fun (i : Nat) => fun _ => True) (fun (i : Nat) => [(g1, 62, [.slice sA sn sc, .slice cA cn cc, .slice vA vn vc, .slice pA pn pc])]) (fun (i : Nat) => []) (fun (i : Nat) => [SlOld vhEnc 2 160 w.heap.size none vA vn vl, SlOld plEnc 3 162 w.heap.size none pA pn pl]) (fun (i : Nat) => pn - i) 0 ⟨Nat.zero_le _, by unfold platesE; rw [if_neg (by omega)]; rfl, List.Pairwise.nil⟩ ⟨rfl, rfl, rfl, rfl, trivial⟩ (fun _ hm => hm.pick [0] [] [0, 1] rfl rfl) ?_
 intro i hinv
 replace hinv : i <= pn /\ platesE vl pl = plG vl (pl.take i) (pl.drop i) /\ PSort (pl.take i) := hinv
 refine sr_ ?_
 obtain ⟨hi0, hpe, hps⟩ := hinv
 refine wl_ov (ov_lss rfl rfl) rfl (nn_ (gw_seq ?_))
 refine gw_cond rfl (fun hh => ?_) (fun hh => ?_)
 ·have hi : ((i : Nat) : Int) < ((pn : Nat) : Int) := by simpa using hh
  clear hh
  refine gw_skip (nx_then (gw_seq (gw_block (sr_ ?_))))
  obtain ⟨bp, op, hA, _, _⟩ := hp.get (by omega)
  subst hA
  obtain ⟨x, hx⟩ : ∃ x, pl[i]? = some x := ⟨_, List.getElem?_eq_getElem (by omega)⟩
  obtain ⟨pf, pv, pp⟩ := x
  have hat := plG_at (vs := vl) hx
  obtain ⟨hpf, hpv, hpp⟩ := hpok _ (List.mem_of_getElem? hx)
  have hpv : pv.size <= 1000000 := hpv
  have hpp : pp.size <= 1000000 := hpp
  have hil : i < pl.length := by omega
  refine mv_ rfl ?_
  refine wl_ov (ov_index (j := i) es60 rfl rfl (by omega)) rfl ?_
  refine wl_ov (ov_elem (vs := [.int .i64 pf, .string pv, .string pp]) rz162 rfl (fun _ hm => (hm.fact 1 rfl).1) hx rfl rfl) rfl ?_
  refine wl_alloc zc162 rfl fun g2 => ?_
  refine sg_ rfl ?_
  refine wl_stores (cs' := [.int .i64 pf, .string pv, .string pp]) 0 rz162 rfl rfl rfl rfl rfl rfl rfl rfl ?_
  refine nn_ (gw_seq (gw_block (sr_ (fd_ fo162_0 rfl rfl (lk_ sc3 0 rfl rfl rfl ?_)))))
  refine wl_callv rfl cb214 rfl rfl (fun wx hm => ((isMoment_any _ wx).mono fun _ _ ⟨he, hw⟩ => ⟨he, hw ▸ World.grownBy.refl _ _⟩)) ?_
  refine wl_ov (ov_un_not rfl) rfl (sg_ rfl (nn_ ?_))
  refine gw_cond rfl (fun hh => ?_) (fun hh => ?_)
  ·have h2 : (inB pf 0 5761439) = false := by simpa using hh
   clear hh
   refine sr_ (sg_ rfl (nn_ ?_))
   refine gw_ret ?_
   refine nx_blk_ret (nx_then_ret (nx_blk_ret (nx_then_ret (nx_then_ret (nx_blk_ret (nx_then_ret ?_))))))
   have hE : plE vl (pl.take i) ⟨pf, pv, pp⟩ = 1 := plE_one (by simpa using h2)
   refine nx_ret1 rfl rfl fun wx hm => ?_
   exact ⟨ret_int (by rw [hpe, hat, if_neg (by rw [hE]; decide), hE]), hm.g⟩
  have h2 : (inB pf 0 5761439) = true := by simpa using hh
  clear hh
  refine sr_ ?_
  refine wl_ov (ov_loads rz62 rfl (fun _ hm => hm.blkI 1 rfl) rfl rfl) rfl ?_
  refine fd_ fo162_1 rfl rfl (lk_ sc9 0 rfl rfl rfl ?_)
  refine wl_callv rfl cb215 rfl rfl (fun wx hm => (vehicleAt_any vl sA cA vA (some ⟨bp, op, none⟩) sn sc cn cc vn vc pn pc pv wx (hm.fact 0 rfl).1 hvn hr)) ?_
  refine wl_ov (ov_lss rfl rfl) rfl (sg_ rfl (nn_ ?_))
  refine gw_cond rfl (fun hh => ?_) (fun hh => ?_)
  ·have h3 : ixP (vhP pv) vl 0 < 0 := by simpa using hh
   clear hh
   refine sr_ (sg_ rfl (nn_ ?_))
   refine gw_ret ?_
   refine nx_blk_ret (nx_then_ret (nx_blk_ret (nx_then_ret (nx_then_ret (nx_blk_ret (nx_then_ret ?_))))))
   have hE : plE vl (pl.take i) ⟨pf, pv, pp⟩ = 8 := plE_two (by simpa using h2) h3
   refine nx_ret1 rfl rfl fun wx hm => ?_
   exact ⟨ret_int (by rw [hpe, hat, if_neg (by rw [hE]; decide), hE]), hm.g⟩
  have h3 : ¬ (ixP (vhP pv) vl 0 < 0) := by simpa using hh
  clear hh
  refine sr_ (fd_ fo162_2 rfl rfl (lk_ sc9 0 rfl rfl rfl ?_))
  refine wl_callv rfl cb274 rfl rfl (fun wx hm => ((isPlate_any pp wx (by omega)).mono fun _ _ ⟨he, hw⟩ => ⟨he, hw ▸ World.grownBy.refl _ _⟩)) ?_
  refine wl_ov (ov_un_not rfl) rfl (sg_ rfl (nn_ ?_))
  refine gw_cond rfl (fun hh => ?_) (fun hh => ?_)
  ·have h4 : (plateB pp) = false := by simpa using hh
   clear hh
   refine sr_ (sg_ rfl (nn_ ?_))
   refine gw_ret ?_
   refine nx_blk_ret (nx_then_ret (nx_blk_ret (nx_then_ret (nx_then_ret (nx_blk_ret (nx_then_ret ?_))))))
   have hE : plE vl (pl.take i) ⟨pf, pv, pp⟩ = 3 := plE_three (by simpa using h2) h3 (by simpa using h4)
   refine nx_ret1 rfl rfl fun wx hm => ?_
   exact ⟨ret_int (by rw [hpe, hat, if_neg (by rw [hE]; decide), hE]), hm.g⟩
  have h4 : (plateB pp) = true := by simpa using hh
  clear hh
  refine gw_skip (nx_blk_nrm (nx_then ?_))
  have hfour := plE_four (vs := vl) (pre := pl.take i) (p := ⟨pf, pv, pp⟩) (by simpa using h2) h3 (by simpa using h4)
  refine gw_cut (γ := Unit) (I := (fun (uu : Unit) => plO (pl.take i) ⟨pf, pv, pp⟩ = false)) (S' := (fun (uu : Unit) => [(1, .pointer (some ⟨g1, 0, none⟩)), (3, .int .i64 ((i : Nat) : Int)), (4, .pointer (some ⟨g2, 0, none⟩)), (13, .slice (some ⟨bp, op, none⟩) pn pc), (14, .int .i64 ((pn : Nat) : Int)), (15, .int .i64 ((i : Nat) : Int))])) (K' := (fun (uu : Unit) => fun _ => True)) (L' := (fun (uu : Unit) => [(g2, 162, [.int .i64 pf, .string pv, .string pp]), (g1, 62, [.slice sA sn sc, .slice cA cn cc, .slice vA vn vc, .slice (some ⟨bp, op, none⟩) pn pc])])) (O' := (fun (uu : Unit) => [])) (X' := (fun (uu : Unit) => [SlOld vhEnc 2 160 w.heap.size none vA vn vl, SlOld plEnc 3 162 w.heap.size none (some ⟨bp, op, none⟩) pn pl])) ?_ ?_
  ·refine sr_ (mv_ rfl ?_)
   refine wl_ov (ov_gtr rfl rfl) rfl ?_
   refine nn_ ?_
   refine gw_cond rfl (fun hh => ?_) (fun hh => ?_)
   ·have h5 : 0 < ((i : Nat) : Int) := by simpa using hh
    clear hh
    refine sr_ ?_
    have hi1 : i - 1 < pn := by omega
    have h0 : ¬ i = 0 := by omega
    obtain ⟨q, hq⟩ : ∃ x, pl[i - 1]? = some x := ⟨_, List.getElem?_eq_getElem (by omega)⟩
    obtain ⟨qf, qv, qp⟩ := q
    have hO := plO_pos (p := ⟨pf, pv, pp⟩) hil h0 hq
    refine fd_ fo62_3 rfl rfl (lk_ sc60 1 rfl rfl rfl (mv_ rfl ?_))
    refine wl_ov (ov_sub rfl rfl (by omega) (by omega)) rfl ?_
    refine wl_set 41 (v' := .int .i64 (((i - 1) : Nat) : Int)) rfl (congrArg (Value.int .i64) (by omega)) ?_
    refine wl_ov (ov_index (j := (i - 1)) es60 rfl rfl (by omega)) rfl ?_
    refine wl_ov (ov_elem (vs := [.int .i64 qf, .string qv, .string qp]) rz162 rfl (fun _ hm => (hm.fact 1 rfl).1) hq rfl rfl) rfl ?_
    refine wl_alloc zc162 rfl fun g3 => ?_
    refine wl_stores (cs' := [.int .i64 qf, .string qv, .string qp]) 0 rz162 rfl rfl rfl rfl rfl rfl rfl rfl ?_
    refine nn_ (gw_seq ?_)
    refine gd (fun wz => Blk wz g3 162 [.int .i64 qf, .string qv, .string qp] /\ Blk wz g2 162 [.int .i64 pf, .string pv, .string pp] /\ Blk wz g1 62 [.slice sA sn sc, .slice cA cn cc, .slice vA vn vc, .slice (some ⟨bp, op, none⟩) pn pc] /\ (SlOld vhEnc 2 160 w.heap.size none vA vn vl) wz /\ (SlOld plEnc 3 162 w.heap.size none (some ⟨bp, op, none⟩) pn pl) wz /\ True) mixed (fun _ hm => ⟨hm.bl 0, hm.bl 1, hm.bl 2, hm.fa 0, hm.fa 1, trivial⟩) fun z => ?_
    refine wt 0 18 1 rfl z (ov_field fo162_0 rfl rfl) ?_
    refine wt 1 18 3 rfl z (ov_load sc3 rfl (fun _ hm => hm.1) rfl) ?_
    refine wt 2 18 7 rfl z (ov_field fo162_0 rfl rfl) ?_
    refine wt 3 18 15 rfl z (ov_load sc3 rfl (fun _ hm => hm.2.1) rfl) ?_
    refine wt 5 18 47 rfl z (ov_field fo162_1 rfl rfl) ?_
    refine wt 6 18 111 rfl z (ov_load sc9 rfl (fun _ hm => hm.1) rfl) ?_
    refine wt 7 18 239 rfl z (ov_field fo162_1 rfl rfl) ?_
    refine wt 8 18 495 rfl z (ov_load sc9 rfl (fun _ hm => hm.2.1) rfl) ?_
    refine wt 10 18 1519 rfl z (ov_field fo162_2 rfl rfl) ?_
    refine wt 11 18 3567 rfl z (ov_load sc9 rfl (fun _ hm => hm.1) rfl) ?_
    refine wt 12 18 7663 rfl z (ov_field fo162_2 rfl rfl) ?_
    refine wt 13 18 15855 rfl z (ov_load sc9 rfl (fun _ hm => hm.2.1) rfl) ?_
    refine wa1 4 rfl ?_
    refine wl_callv rfl cb83 rfl rfl (fun wx hm => (cmp_int _ _ wx)) ?_
    refine wl_nil ?_
    refine nw 18 15871 (fun _ hm => ⟨hm.bl 0, hm.bl 1, hm.bl 2, hm.fa 0, hm.fa 1, trivial⟩) fun z => ?_
    refine wa1 9 rfl ?_
    refine wl_callv rfl cb84 rfl rfl (fun wx hm => (cmp_string _ _ wx)) ?_
    refine wl_nil ?_
    refine nw 18 16383 (fun _ hm => ⟨hm.bl 0, hm.bl 1, hm.bl 2, hm.fa 0, hm.fa 1, trivial⟩) fun z => ?_
    refine wa1 14 rfl ?_
    refine wl_callv rfl cb84 rfl rfl (fun wx hm => (cmp_string _ _ wx)) ?_
    refine wl_nil ?_
    refine nw 18 32767 (fun _ hm => ⟨hm.bl 0, hm.bl 1, hm.bl 2, hm.fa 0, hm.fa 1, trivial⟩) fun z => ?_
    refine wa1 15 rfl ?_
    refine wl_buildSlice (e := 3) (cs := [.int .i64 (cmpI qf pf), .int .i64 (cmpS qv pv), .int .i64 (cmpS qp pp)]) rfl (by kernel_rfl) rfl fun g4 => ?_
    refine wl_nil ?_
    refine nw 18 65535 (fun _ hm => ⟨hm.bl 1, hm.bl 2, hm.bl 3, hm.fa 0, hm.fa 1, trivial⟩) fun z => ?_
    refine wa1 16 rfl ?_
    refine wl_callv rfl cb82 rfl rfl (fun wx hm => (or_three g4 _ _ _ wx (hm.blkI 0 rfl))) ?_
    refine wl_nil ?_
    refine nw 18 131071 (fun _ hm => ⟨hm.bl 1, hm.bl 2, hm.bl 3, hm.fa 0, hm.fa 1, trivial⟩) fun z => ?_
    refine wt 17 18 262143 rfl z (ov_geq rfl rfl) ?_
    refine wa_done (by kernel_rfl) ?_
    refine nx_then ?_
    refine gw_cond rfl (fun hh => ?_) (fun hh => ?_)
    ·have h6 : 0 <= firstE [cmpI qf pf, cmpS qv pv, cmpS qp pp] := by simpa using hh
     clear hh
     refine sr_ ?_
     have hO2 : plO (pl.take i) ⟨pf, pv, pp⟩ = true := by rw [hO]; exact decide_eq_true h6
     refine sg_ rfl (nn_ ?_)
     refine gw_ret ?_
     refine nx_then_ret (nx_blk_ret (nx_then_ret (nx_then_ret (nx_blk_ret (nx_then_ret ?_)))))
     have hE : plE vl (pl.take i) ⟨pf, pv, pp⟩ = 7 := by rw [hfour, if_pos hO2]
     refine nx_ret1 rfl rfl fun wx hm => ?_
     exact ⟨ret_int (by rw [hpe, hat, if_neg (by rw [hE]; decide), hE]), hm.g⟩
    have h6 : ¬ (0 <= firstE [cmpI qf pf, cmpS qv pv, cmpS qp pp]) := by simpa using hh
    clear hh
    refine gw_skip ?_
    have hO2 : plO (pl.take i) ⟨pf, pv, pp⟩ = false := by rw [hO]; exact decide_eq_false h6
    exact nx_meet () hO2 ⟨rfl, rfl, rfl, rfl, rfl, rfl, trivial⟩ (fun _ hm => hm.pick [2, 3] [] [0, 1] rfl rfl)
   have h5 : ¬ (0 < ((i : Nat) : Int)) := by simpa using hh
   clear hh
   refine gw_skip ?_
   obtain rfl : i = 0 := by omega
   exact nx_meet () plO_zero ⟨rfl, rfl, rfl, rfl, rfl, rfl, trivial⟩ (fun _ hm => hm.pick [0, 1] [] [0, 1] rfl rfl)
  intro uu hinv
  replace hinv : plO (pl.take i) ⟨pf, pv, pp⟩ = false := hinv
  refine sr_ ?_
  have hO : plO (pl.take i) ⟨pf, pv, pp⟩ = false := hinv
  have hlast := ord_last hil hO
  refine mv_ rfl ?_
  refine wl_ov (ov_sub rfl rfl (by omega) (by omega)) rfl ?_
  refine sg_ rfl (nn_ (gw_block ?_))
  refine gw_loop (γ := Nat) (fun (j : Nat) => j <= i /\ ∀ t, j <= t -> t < i -> ∀ x, pl[t]? = some x -> plTwin ⟨pf, pv, pp⟩ x = false) (fun (j : Nat) => [(1, .pointer (some ⟨g1, 0, none⟩)), (4, .pointer (some ⟨g2, 0, none⟩)), (6, .int .i64 (((j : Nat) : Int) - 1)), (13, .slice (some ⟨bp, op, none⟩) pn pc), (14, .int .i64 ((pn : Nat) : Int)), (15, .int .i64 ((i : Nat) : Int))]) (fun (j : Nat) => fun _ => True) (fun (j : Nat) => [(g2, 162, [.int .i64 pf, .string pv, .string pp]), (g1, 62, [.slice sA sn sc, .slice cA cn cc, .slice vA vn vc, .slice (some ⟨bp, op, none⟩) pn pc])]) (fun (j : Nat) => []) (fun (j : Nat) => [SlOld vhEnc 2 160 w.heap.size none vA vn vl, SlOld plEnc 3 162 w.heap.size none (some ⟨bp, op, none⟩) pn pl]) (fun (j : Nat) => j) i ⟨Nat.le_refl _, fun t h1 h2 => by omega⟩ ⟨rfl, rfl, rfl, rfl, rfl, rfl, trivial⟩ (fun _ hm => hm.pick [0, 1] [] [0, 1] rfl rfl) ?_
  intro j hinv
  replace hinv : j <= i /\ ∀ t, j <= t -> t < i -> ∀ x, pl[t]? = some x -> plTwin ⟨pf, pv, pp⟩ x = false := hinv
  refine gw_seq (gw_seq ?_)
  obtain ⟨hji, hno⟩ := hinv
  rcases j with _ | j
  ·refine gd (fun wz => Blk wz g2 162 [.int .i64 pf, .string pv, .string pp] /\ Blk wz g1 62 [.slice sA sn sc, .slice cA cn cc, .slice vA vn vc, .slice (some ⟨bp, op, none⟩) pn pc] /\ (SlOld vhEnc 2 160 w.heap.size none vA vn vl) wz /\ (SlOld plEnc 3 162 w.heap.size none (some ⟨bp, op, none⟩) pn pl) wz /\ True) mixed (fun _ hm => ⟨hm.bl 0, hm.bl 1, hm.fa 0, hm.fa 1, trivial⟩) fun z => ?_
   refine wt 0 13 1 rfl z (ov_move rfl) ?_
   refine wa_set 64 (v' := .int .i64 (-1)) rfl rfl ?_
   refine wt 1 13 3 rfl z (ov_geq rfl rfl) ?_
   refine wa_set 65 (v' := .bool false) rfl (congrArg Value.bool (by decide)) ?_
   refine wt 2 13 7 rfl z (ov_move rfl) ?_
   refine wtf 3 13 15 rfl rfl rfl z ?_
   refine wtf 4 13 31 rfl rfl rfl z ?_
   refine wtf 5 13 63 rfl rfl rfl z ?_
   refine wtf 6 13 127 rfl rfl rfl z ?_
   refine wtf 7 13 255 rfl rfl rfl z ?_
   refine wtf 8 13 511 rfl rfl rfl z ?_
   refine wtf 9 13 1023 rfl rfl rfl z ?_
   refine wtf 10 13 2047 rfl rfl rfl z ?_
   refine wtf 11 13 4095 rfl rfl rfl z ?_
   refine wt 12 13 8191 rfl z (ov_pick_f rfl rfl) ?_
   refine wa_done (by kernel_rfl) ?_
   refine nx_then (cf_ rfl ?_)
   refine gw_exit ?_
   refine nx_then_exit (nx_then_exit ?_)
   refine nx_blk_here ?_
   refine nx_blk_nrm (nx_then (gw_region (ad_ rfl rfl (mv_ rfl (wl_nil ?_)))))
   have hany := twin_none (p := ⟨pf, pv, pp⟩) hps (by omega) (by omega) hlast hno (.inl rfl)
   have hE : plE vl (pl.take i) ⟨pf, pv, pp⟩ = 0 := by rw [hfour, if_neg (by rw [hO]; decide), if_neg (by rw [hany]; decide)]
   exact nx_round (i + 1) ⟨by omega, by rw [hpe, hat, if_pos hE], psort_next hps hx hO⟩ (by omega) ⟨rfl, rfl, rfl, (some_int (by omega)), trivial⟩ (fun _ hm => hm.pick [1] [] [0, 1] rfl rfl)
  obtain ⟨tx, ht⟩ : ∃ x, pl[j]? = some x := ⟨_, List.getElem?_eq_getElem (by omega)⟩
  obtain ⟨tf, tv, tp⟩ := tx
  refine gd (fun wz => Blk wz g2 162 [.int .i64 pf, .string pv, .string pp] /\ Blk wz g1 62 [.slice sA sn sc, .slice cA cn cc, .slice vA vn vc, .slice (some ⟨bp, op, none⟩) pn pc] /\ (SlOld vhEnc 2 160 w.heap.size none vA vn vl) wz /\ (SlOld plEnc 3 162 w.heap.size none (some ⟨bp, op, none⟩) pn pl) wz /\ True) mixed (fun _ hm => ⟨hm.bl 0, hm.bl 1, hm.fa 0, hm.fa 1, trivial⟩) fun z => ?_
  refine wt 0 13 1 rfl z (ov_move rfl) ?_
  refine wa_set 64 (v' := .int .i64 ((j : Nat) : Int)) rfl (congrArg (Value.int .i64) (by omega)) ?_
  refine wt 1 13 3 rfl z (ov_geq rfl rfl) ?_
  refine wa_set 65 (v' := .bool true) rfl (congrArg Value.bool (decide_eq_true (by omega))) ?_
  refine wt 2 13 7 rfl z (ov_move rfl) ?_
  refine wto 3 13 15 rfl rfl rfl z (ov_field fo62_3 rfl rfl) ?_
  refine wto 4 13 31 rfl rfl rfl z (ov_load sc60 rfl (fun _ hm => hm.2.1) rfl) ?_
  refine wto 5 13 63 rfl rfl rfl z (ov_move rfl) ?_
  refine wa_set 69 (v' := .int .i64 ((j : Nat) : Int)) rfl (congrArg (Value.int .i64) (by omega)) ?_
  refine wto 6 13 127 rfl rfl rfl z (ov_index (j := j) es60 rfl rfl (by omega)) ?_
  refine wto 7 13 255 rfl rfl rfl z (ov_field fo162_0 rfl rfl) ?_
  refine wto 8 13 511 rfl rfl rfl z (ov_elem1 (k := 0) (v := .int .i64 tf) sc3 rfl (fun _ hm => (hm.2.2.2.1).1) ht rfl rfl) ?_
  refine wto 9 13 1023 rfl rfl rfl z (ov_field fo162_0 rfl rfl) ?_
  refine wto 10 13 2047 rfl rfl rfl z (ov_load sc3 rfl (fun _ hm => hm.1) rfl) ?_
  refine wto 11 13 4095 rfl rfl rfl z (ov_eql rfl rfl) ?_
  refine wt 12 13 8191 rfl z (ov_pick_t rfl rfl) ?_
  refine wa_done (by kernel_rfl) ?_
  refine nx_then ?_
  refine gw_cond rfl (fun hh => ?_) (fun hh => ?_)
  ·have h7 : tf = pf := by simpa using hh
   clear hh
   refine gw_skip (nx_then (gw_seq (gw_block (sr_ (fd_ fo62_3 rfl rfl (lk_ sc60 1 rfl rfl rfl (mv_ rfl ?_)))))))
   refine wl_set 81 (v' := .int .i64 ((j : Nat) : Int)) rfl (congrArg (Value.int .i64) (by omega)) ?_
   refine wl_ov (ov_index (j := j) es60 rfl rfl (by omega)) rfl ?_
   refine wl_ov (ov_elem (vs := [.int .i64 tf, .string tv, .string tp]) rz162 rfl (fun _ hm => (hm.fact 1 rfl).1) ht rfl rfl) rfl ?_
   refine wl_alloc zc162 rfl fun g5 => ?_
   refine wl_stores (cs' := [.int .i64 tf, .string tv, .string tp]) 0 rz162 rfl rfl rfl rfl rfl rfl rfl rfl ?_
   refine nn_ (sr_ (fd_ fo162_1 rfl rfl (lk_ sc9 0 rfl rfl rfl (fd_ fo162_1 rfl rfl (lk_ sc9 1 rfl rfl rfl (wl_ov (ov_seql rfl rfl) rfl (mv_ rfl ?_)))))))
   rcases Bool.eq_false_or_eq_true (tv.toList == pv.toList) with h8 | h8
   ·refine wl_set 89 rfl (congrArg Value.bool h8) ?_
    have htw : plTwin ⟨pf, pv, pp⟩ ⟨tf, tv, tp⟩ = true := by unfold plTwin; rw [decide_eq_true (show (⟨tf, tv, tp⟩ : Pl).fr = (⟨pf, pv, pp⟩ : Pl).fr from h7), h8]; rfl
    refine goff rfl rfl rfl (goff rfl rfl rfl (goff rfl rfl rfl (goff rfl rfl rfl (goff rfl rfl rfl (pt_ rfl rfl (nn_ (ct_ rfl (sr_ (sg_ rfl (nn_ ?_))))))))))
    refine gw_ret ?_
    refine nx_blk_ret (nx_then_ret (nx_then_ret (nx_blk_ret (nx_blk_ret (nx_then_ret (nx_then_ret (nx_blk_ret (nx_then_ret ?_))))))))
    have hany : (pl.take i).any (plTwin ⟨pf, pv, pp⟩) = true := List.any_eq_true.2 ⟨_, List.mem_of_getElem? (i := j) (by rw [List.getElem?_take, if_pos (by omega)]; exact ht), htw⟩
    have hE : plE vl (pl.take i) ⟨pf, pv, pp⟩ = 6 := by rw [hfour, if_neg (by rw [hO]; decide), if_pos hany]
    refine nx_ret1 rfl rfl fun wx hm => ?_
    exact ⟨ret_int (by rw [hpe, hat, if_neg (by rw [hE]; decide), hE]), hm.g⟩
   refine wl_set 89 rfl (congrArg Value.bool h8) ?_
   refine wl_guard_on rfl rfl rfl (fd_ fo162_2 rfl rfl (wl_guard_on rfl rfl rfl (lk_ sc9 0 rfl rfl rfl (wl_guard_on rfl rfl rfl (fd_ fo162_2 rfl rfl (wl_guard_on rfl rfl rfl (lk_ sc9 1 rfl rfl rfl (wl_guard_on rfl rfl rfl (wl_ov (ov_seql rfl rfl) rfl (pf_ rfl rfl (nn_ ?_)))))))))))
   refine gw_cond rfl (fun hh => ?_) (fun hh => ?_)
   ·have h9 : (tp.toList == pp.toList) = true := by simpa using hh
    clear hh
    refine sr_ ?_
    have htw : plTwin ⟨pf, pv, pp⟩ ⟨tf, tv, tp⟩ = true := by unfold plTwin; rw [decide_eq_true (show (⟨tf, tv, tp⟩ : Pl).fr = (⟨pf, pv, pp⟩ : Pl).fr from h7), h8, h9]; rfl
    refine sg_ rfl (nn_ ?_)
    refine gw_ret ?_
    refine nx_blk_ret (nx_then_ret (nx_then_ret (nx_blk_ret (nx_blk_ret (nx_then_ret (nx_then_ret (nx_blk_ret (nx_then_ret ?_))))))))
    have hany : (pl.take i).any (plTwin ⟨pf, pv, pp⟩) = true := List.any_eq_true.2 ⟨_, List.mem_of_getElem? (i := j) (by rw [List.getElem?_take, if_pos (by omega)]; exact ht), htw⟩
    have hE : plE vl (pl.take i) ⟨pf, pv, pp⟩ = 6 := by rw [hfour, if_neg (by rw [hO]; decide), if_pos hany]
    refine nx_ret1 rfl rfl fun wx hm => ?_
    exact ⟨ret_int (by rw [hpe, hat, if_neg (by rw [hE]; decide), hE]), hm.g⟩
   have h9 : (tp.toList == pp.toList) = false := by simpa using hh
   clear hh
   refine gw_skip (nx_blk_nrm (nx_then (gw_region ?_)))
   have htw : plTwin ⟨pf, pv, pp⟩ ⟨tf, tv, tp⟩ = false := by unfold plTwin; rw [decide_eq_true (show (⟨tf, tv, tp⟩ : Pl).fr = (⟨pf, pv, pp⟩ : Pl).fr from h7), h8, h9]; rfl
   refine mv_ rfl ?_
   refine wl_set 77 (v' := .int .i64 ((j : Nat) : Int)) rfl (congrArg (Value.int .i64) (by omega)) ?_
   refine wl_ov (ov_sub rfl rfl (by omega) (by omega)) rfl ?_
   refine sg_ rfl (wl_nil ?_)
   exact nx_round j ⟨by omega, fun t h1 h2 y hy => by
    rcases Nat.eq_or_lt_of_le h1 with rfl | h3
    ·rw [ht] at hy; cases hy; exact htw
    exact hno t h3 h2 y hy⟩ (by omega) ⟨rfl, rfl, rfl, rfl, rfl, rfl, trivial⟩ (fun _ hm => hm.pick [1, 2] [] [0, 1] rfl rfl)
  have h7 : ¬ (tf = pf) := by simpa using hh
  clear hh
  refine gw_exit ?_
  refine nx_then_exit (nx_then_exit ?_)
  refine nx_blk_here ?_
  refine nx_blk_nrm (nx_then (gw_region (ad_ rfl rfl (mv_ rfl (wl_nil ?_)))))
  have hany := twin_none (p := ⟨pf, pv, pp⟩) hps (by omega) (by omega) hlast hno (.inr ⟨_, ht, h7⟩)
  have hE : plE vl (pl.take i) ⟨pf, pv, pp⟩ = 0 := by rw [hfour, if_neg (by rw [hO]; decide), if_neg (by rw [hany]; decide)]
  exact nx_round (i + 1) ⟨by omega, by rw [hpe, hat, if_pos hE], psort_next hps hx hO⟩ (by omega) ⟨rfl, rfl, rfl, (some_int (by omega)), trivial⟩ (fun _ hm => hm.pick [1] [] [0, 1] rfl rfl)
 have hi : ¬ (((i : Nat) : Int) < ((pn : Nat) : Int)) := by simpa using hh
 clear hh
 refine gw_exit ?_
 refine nx_then_exit (nx_then_exit ?_)
 refine nx_blk_here ?_
 refine nx_then (sr_ (sg_ rfl (nn_ ?_)))
 refine gw_ret ?_
 refine nx_ret1 rfl rfl fun wx hm => ?_
 exact ⟨ret_int (by rw [plates_end (by omega) hpe]), hm.g⟩
end Go.Proofs.YtempjmpfdniecaaGreatDoor
namespace Go.Proofs.YtempjmpfdniecaaGreatDoor
open Go.RowKit
theorem fleet_head {sl : List St} {cl : List Cs} {vl : List Vh} {pl : List Pl} {vn : Nat} (hl : vl.length = vn) (h : firstE [stationsE sl, classesE cl, whenE (decide ((500 : Int) < ((vn : Nat) : Int))) 2] ≠ 0) : fleetE sl cl vl pl = firstE [stationsE sl, classesE cl, whenE (decide ((500 : Int) < ((vn : Nat) : Int))) 2] := by
 unfold fleetE
 by_cases h1 : stationsE sl = 0
 ·by_cases h2 : classesE cl = 0
  ·by_cases h3 : (500 : Int) < ((vn : Nat) : Int)
   ·have h4 : vehsE cl vl = 2 := by unfold vehsE; rw [if_pos (by omega)]
    rw [h1, h2, h4, decide_eq_true h3]; rfl
   ·rw [h1, h2, decide_eq_false h3] at h
    exact absurd rfl h
  ·simp [firstE, h1, h2]
 ·simp [firstE, h1]
theorem fleet_tail {sl : List St} {cl : List Cs} {vl : List Vh} {pl : List Pl} {vn : Nat} (hl : vl.length = vn) (h : firstE [stationsE sl, classesE cl, whenE (decide ((500 : Int) < ((vn : Nat) : Int))) 2] = 0) : stationsE sl = 0 /\ classesE cl = 0 /\ vn <= 500 /\ fleetE sl cl vl pl = firstE [scanE (vhE cl) none vl, platesE vl pl] := by
 have hz := fe_all h
 have h1 := hz (stationsE sl) (by simp)
 have h2 := hz (classesE cl) (by simp)
 have h3 := hz (whenE (decide ((500 : Int) < ((vn : Nat) : Int))) 2) (by simp)
 have h4 : ¬ (500 : Int) < ((vn : Nat) : Int) := fun h => by rw [decide_eq_true h] at h3; cases h3
 refine ⟨h1, h2, by omega, ?_⟩
 unfold fleetE vehsE
 rw [h1, h2, if_neg (by omega)]; rfl
theorem fe_left {a b : Int} (h : a ≠ 0) : firstE [a, b] = a := by simp [firstE, h]
theorem fe_right {b : Int} : firstE [0, b] = b := by
 by_cases h : b = 0
 ·subst h; rfl
 ·simp [firstE, h]
theorem vhE_one {cl : List Cs} {p : Option Vh} {b : Vh} (h : keyB b.key = false) : vhE cl p b = 5 := by unfold vhE; rw [h]; rfl
theorem vhE_two {cl : List Cs} {p : Option Vh} {b : Vh} (h : keyB b.key = true) (h2 : leVh p b = true) : vhE cl p b = 7 := by unfold vhE; rw [h, h2]; rfl
theorem vhE_three {cl : List Cs} {p : Option Vh} {b : Vh} (h : keyB b.key = true) (h2 : leVh p b = false) : vhE cl p b = if ixP (csP b.cls) cl 0 < 0 then 8 else 0 := by unfold vhE; rw [h, h2]; rfl
theorem checkFleet_any (sl : List St) (cl : List Cs) (vl : List Vh) (pl : List Pl) (sA cA vA pA : Option Addr) (sn sc cn cc vn vc pn pc : Nat) (w : World) (hs : SlT stEnc 15 152 w sA sn sl) (hc : SlT csEnc 2 158 w cA cn cl) (hv : SlT vhEnc 2 160 w vA vn vl) (hp : SlT plEnc 3 162 w pA pn pl) (hsok : ∀ x ∈ sl, StOk x) (hcok : ∀ x ∈ cl, CsOk x) (hvok : ∀ x ∈ vl, VhOk x) (hpok : ∀ x ∈ pl, PlOk x) (hsn : sn <= 1000000) (hcn : cn <= 1000000) (hvn : vn <= 1000000) (hpn : pn <= 1000000) :
  Calls Tryz.prog 106 #[.agg #[.slice sA sn sc, .slice cA cn cc, .slice vA vn vc, .slice pA pn pc]] w (GotE w (fleetE sl cl vl pl)) := by
 refine gw_enter ⟨60, w, none, []⟩ Tryz.func106 rfl Tryz.ntmps106 rfl (mem0 (X := [SlOld stEnc 15 152 w.heap.size none sA sn sl, SlOld csEnc 2 158 w.heap.size none cA cn cl, SlOld vhEnc 2 160 w.heap.size none vA vn vl, SlOld plEnc 3 162 w.heap.size none pA pn pl]) (allF_cons hs.old (allF_cons hc.old (allF_cons hv.old (allF_cons hp.old allF_nil)))) (allL_cons SlOld.lasts (allL_cons SlOld.lasts (allL_cons SlOld.lasts (allL_cons SlOld.lasts allL_nil))))) ?_
 refine sr_ ?_
 have hlen := hv.len
 obtain ⟨SE, hSE⟩ : ∃ z, z = stationsE sl := ⟨_, rfl⟩
 obtain ⟨CE, hCE⟩ : ∃ z, z = classesE cl := ⟨_, rfl⟩
 obtain ⟨FE, hFE⟩ : ∃ z, z = firstE [stationsE sl, classesE cl, whenE (decide ((500 : Int) < ((vn : Nat) : Int))) 2] := ⟨_, rfl⟩
 have hFE2 : FE = firstE [SE, CE, whenE (decide ((500 : Int) < ((vn : Nat) : Int))) 2] := by rw [hFE, hSE, hCE]
 refine wl_box rfl rfl rfl fun g1 => ?_
 refine sg_ rfl (nn_ (gw_seq ?_))
 refine gw_cut (γ := Unit) (I := (fun (uu : Unit) => True)) (S' := (fun (uu : Unit) => [(1, .pointer (some ⟨g1, 0, none⟩)), (2, .int .i64 0), (3, .int .i64 FE)])) (K' := (fun (uu : Unit) => fun _ => True)) (L' := (fun (uu : Unit) => [(g1, 62, [.slice sA sn sc, .slice cA cn cc, .slice vA vn vc, .slice pA pn pc])])) (O' := (fun (uu : Unit) => [])) (X' := (fun (uu : Unit) => [SlOld stEnc 15 152 w.heap.size none sA sn sl, SlOld csEnc 2 158 w.heap.size none cA cn cl, SlOld vhEnc 2 160 w.heap.size none vA vn vl, SlOld plEnc 3 162 w.heap.size none pA pn pl])) ?_ ?_
 ·refine gd (fun wz => Blk wz g1 62 [.slice sA sn sc, .slice cA cn cc, .slice vA vn vc, .slice pA pn pc] /\ (SlOld stEnc 15 152 w.heap.size none sA sn sl) wz /\ (SlOld csEnc 2 158 w.heap.size none cA cn cl) wz /\ (SlOld vhEnc 2 160 w.heap.size none vA vn vl) wz /\ (SlOld plEnc 3 162 w.heap.size none pA pn pl) wz /\ True) mixed (fun _ hm => ⟨hm.bl 0, hm.fa 0, hm.fa 1, hm.fa 2, hm.fa 3, trivial⟩) fun z => ?_
  refine wt 0 14 1 rfl z (ov_field fo62_0 rfl rfl) ?_
  refine wt 1 14 3 rfl z (ov_load sc57 rfl (fun _ hm => hm.1) rfl) ?_
  refine wt 3 14 11 rfl z (ov_field fo62_1 rfl rfl) ?_
  refine wt 4 14 27 rfl z (ov_load sc58 rfl (fun _ hm => hm.1) rfl) ?_
  refine wt 6 14 91 rfl z (ov_field fo62_2 rfl rfl) ?_
  refine wt 7 14 219 rfl z (ov_load sc59 rfl (fun _ hm => hm.1) rfl) ?_
  refine wt 8 14 475 rfl z (ov_len es59 rfl) ?_
  refine wt 9 14 987 rfl z (ov_gtr rfl rfl) ?_
  refine wa1 2 rfl ?_
  refine wl_callv (v := .int .i64 SE) rfl cb207 rfl rfl (fun wx hm => (by rw [hSE]; exact checkStations_any sl sA sn sc wx (hm.fact 0 rfl).1 hsok (by omega))) ?_
  refine wl_nil ?_
  refine nw 14 991 (fun _ hm => ⟨hm.bl 0, hm.fa 0, hm.fa 1, hm.fa 2, hm.fa 3, trivial⟩) fun z => ?_
  refine wa1 5 rfl ?_
  refine wl_callv (v := .int .i64 CE) rfl cb208 rfl rfl (fun wx hm => (by rw [hCE]; exact checkClasses_any cl cA cn cc wx (hm.fact 1 rfl).1 hcok (by omega))) ?_
  refine wl_nil ?_
  refine nw 14 1023 (fun _ hm => ⟨hm.bl 0, hm.fa 0, hm.fa 1, hm.fa 2, hm.fa 3, trivial⟩) fun z => ?_
  refine wa1 10 rfl ?_
  refine wl_callw rfl cb68 rfl rfl (fun wx hm => (when_any _ _ wx)) ?_
  refine wl_nil ?_
  refine nw 14 2047 (fun _ hm => ⟨hm.bl 0, hm.fa 0, hm.fa 1, hm.fa 2, hm.fa 3, trivial⟩) fun z => ?_
  refine wa1 11 rfl ?_
  refine wl_buildSlice (e := 33) (cs := [.int .i64 SE, .int .i64 CE, .int .i64 (whenE (decide (500 < ((vn : Nat) : Int))) 2)]) rfl (by kernel_rfl) rfl fun g2 => ?_
  refine wl_nil ?_
  refine nw 14 4095 (fun _ hm => ⟨hm.bl 1, hm.fa 0, hm.fa 1, hm.fa 2, hm.fa 3, trivial⟩) fun z => ?_
  refine wa1 12 rfl ?_
  refine wl_callw rfl cb67 rfl rfl (fun wx hm => (first_any [SE, CE, whenE (decide (500 < ((vn : Nat) : Int))) 2] _ _ _ wx (hm.blkI 0 rfl) (by simp))) ?_
  refine wl_nil ?_
  refine nw 14 8191 (fun _ hm => ⟨hm.bl 1, hm.fa 0, hm.fa 1, hm.fa 2, hm.fa 3, trivial⟩) fun z => ?_
  refine wt 13 14 16383 rfl z (ov_assign rfl) ?_
  refine wa_done (by kernel_rfl) ?_
  exact nx_meet () trivial ⟨rfl, rfl, (some_int hFE2.symm), trivial⟩ (fun _ hm => hm.pick [1] [] [0, 1, 2, 3] rfl rfl)
 intro uu hinv
 replace hinv : True := hinv
 refine sr_ (mv_ rfl (wl_ov (ov_neq rfl rfl) rfl (nn_ ?_)))
 refine gw_cond rfl (fun hh => ?_) (fun hh => ?_)
 ·have h1 : ¬ (FE = 0) := by simpa using hh
  clear hh
  refine sr_ ?_
  have h2 : FE ≠ 0 := by simpa using h1
  have h3 : fleetE sl cl vl pl = FE := by rw [hFE]; exact fleet_head hlen (by rw [<- hFE]; exact h2)
  refine mv_ rfl (sg_ rfl (nn_ ?_))
  refine gw_ret ?_
  refine nx_then_ret ?_
  refine nx_ret1 rfl rfl fun wx hm => ?_
  exact ⟨ret_int (by rw [h3]), hm.g⟩
 have h1 : FE = 0 := by simpa using hh
 clear hh
 refine gw_skip (nx_then (gw_seq (sr_ ?_)))
 have h2 : FE = 0 := by simpa using h1
 obtain ⟨_, hcz, hv5, hfl⟩ := fleet_tail (sl := sl) (cl := cl) (pl := pl) hlen (hFE.symm.trans h2)
 refine fd_ fo62_2 rfl rfl (lk_ sc59 0 rfl rfl rfl (wl_ov (ov_len es59 rfl) rfl (mv_ rfl (nn_ (gw_block ?_)))))
 refine gw_loop (γ := Nat) (fun (i : Nat) => i <= vn /\ scanE (vhE cl) none vl = scanE (vhE cl) (prevOf vl i) (vl.drop i)) (fun (i : Nat) => [(1, .pointer (some ⟨g1, 0, none⟩)), (23, .slice vA vn vc), (24, .int .i64 ((vn : Nat) : Int)), (25, .int .i64 ((i : Nat) : Int))]) (fun (i : Nat) => fun _ => True) (fun (i : Nat) => [(g1, 62, [.slice sA sn sc, .slice cA cn cc, .slice vA vn vc, .slice pA pn pc])]) (fun (i : Nat) => []) (fun (i : Nat) => [SlOld stEnc 15 152 w.heap.size none sA sn sl, SlOld csEnc 2 158 w.heap.size none cA cn cl, SlOld vhEnc 2 160 w.heap.size none vA vn vl, SlOld plEnc 3 162 w.heap.size none pA pn pl]) (fun (i : Nat) => vn - i) 0 ⟨Nat.zero_le _, rfl⟩ ⟨rfl, rfl, rfl, rfl, trivial⟩ (fun _ hm => hm.pick [0] [] [0, 1, 2, 3] rfl rfl) ?_
 intro i hinv
 replace hinv : i <= vn /\ scanE (vhE cl) none vl = scanE (vhE cl) (prevOf vl i) (vl.drop i) := hinv
 refine sr_ ?_
 obtain ⟨hi0, hsc⟩ := hinv
 refine wl_ov (ov_lss rfl rfl) rfl (nn_ (gw_seq ?_))
 refine gw_cond rfl (fun hh => ?_) (fun hh => ?_)
 ·have hi : ((i : Nat) : Int) < ((vn : Nat) : Int) := by simpa using hh
  clear hh
  refine gw_skip (nx_then (gw_seq (gw_block (sr_ ?_))))
  obtain ⟨bv, ov, hA, _, _⟩ := hv.get (by omega)
  subst hA
  obtain ⟨x, hx⟩ : ∃ x, vl[i]? = some x := ⟨_, List.getElem?_eq_getElem (by omega)⟩
  obtain ⟨vk, vc2⟩ := x
  have hat := scanE_at (vhE cl) vl i _ hx
  obtain ⟨hvk, hvc2⟩ := hvok _ (List.mem_of_getElem? hx)
  have hvk : vk.size <= 1000000 := hvk
  refine mv_ rfl ?_
  refine wl_ov (ov_index (j := i) es59 rfl rfl (by omega)) rfl ?_
  refine wl_ov (ov_elem (vs := [.string vk, .string vc2]) rz160 rfl (fun _ hm => (hm.fact 2 rfl).1) hx rfl rfl) rfl ?_
  refine wl_alloc zc160 rfl fun g3 => ?_
  refine sg_ rfl ?_
  refine wl_stores (cs' := [.string vk, .string vc2]) 0 rz160 rfl rfl rfl rfl rfl rfl rfl rfl ?_
  refine nn_ (gw_block (sr_ (fd_ fo160_0 rfl rfl (lk_ sc9 0 rfl rfl rfl ?_))))
  refine wl_callw rfl cb69 rfl rfl (fun wx hm => (isKey_any _ wx (by omega))) ?_
  refine wl_ov (ov_un_not rfl) rfl (sg_ rfl (nn_ ?_))
  refine gw_cond rfl (fun hh => ?_) (fun hh => ?_)
  ·have h3 : (keyB vk) = false := by simpa using hh
   clear hh
   refine sr_ (sg_ rfl (nn_ ?_))
   refine gw_ret ?_
   refine nx_blk_ret (nx_blk_ret (nx_then_ret (nx_then_ret (nx_blk_ret (nx_then_ret ?_)))))
   have hE : vhE cl (prevOf vl i) ⟨vk, vc2⟩ = 5 := vhE_one (by simpa using h3)
   have hF : scanE (vhE cl) none vl = 5 := by rw [hsc, hat, if_neg (by rw [hE]; decide), hE]
   refine nx_ret1 rfl rfl fun wx hm => ?_
   exact ⟨ret_int (by rw [hfl, hF, fe_left (by decide)]), hm.g⟩
  have h3 : (keyB vk) = true := by simpa using hh
  clear hh
  refine gw_seq ?_
  by_cases h0 : i = 0
  ·have hle : leVh (prevOf vl i) ⟨vk, vc2⟩ = false := by rw [prevOf_zero h0]; rfl
   have h8 := vhE_three (cl := cl) (b := ⟨vk, vc2⟩) (by simpa using h3) hle
   refine gd (fun wz => Blk wz g3 160 [.string vk, .string vc2] /\ Blk wz g1 62 [.slice sA sn sc, .slice cA cn cc, .slice (some ⟨bv, ov, none⟩) vn vc, .slice pA pn pc] /\ (SlOld stEnc 15 152 w.heap.size none sA sn sl) wz /\ (SlOld csEnc 2 158 w.heap.size none cA cn cl) wz /\ (SlOld vhEnc 2 160 w.heap.size none (some ⟨bv, ov, none⟩) vn vl) wz /\ (SlOld plEnc 3 162 w.heap.size none pA pn pl) wz /\ True) mixed (fun _ hm => ⟨hm.bl 0, hm.bl 1, hm.fa 0, hm.fa 1, hm.fa 2, hm.fa 3, trivial⟩) fun z => ?_
   refine wt 0 15 1 rfl z (ov_move rfl) ?_
   refine wt 1 15 3 rfl z (ov_gtr rfl rfl) ?_
   refine wa_set 37 (v' := .bool false) rfl (congrArg Value.bool (decide_eq_false (by omega))) ?_
   refine wt 2 15 7 rfl z (ov_move rfl) ?_
   refine wtf 3 15 15 rfl rfl rfl z ?_
   refine wtf 4 15 31 rfl rfl rfl z ?_
   refine wtf 5 15 63 rfl rfl rfl z ?_
   refine wtf 6 15 127 rfl rfl rfl z ?_
   refine wtf 7 15 255 rfl rfl rfl z ?_
   refine wtf 8 15 511 rfl rfl rfl z ?_
   refine wtf 9 15 1023 rfl rfl rfl z ?_
   refine wtf 10 15 2047 rfl rfl rfl z ?_
   refine wtf 11 15 4095 rfl rfl rfl z ?_
   refine wtf 12 15 8191 rfl rfl rfl z ?_
   refine wt 13 15 16383 rfl z (ov_pick_f rfl rfl) ?_
   refine wt 14 15 32767 rfl z (ov_assign rfl) ?_
   refine wa_done (by kernel_rfl) ?_
   refine nx_then (cf_ rfl (sr_ (fd_ fo62_1 rfl rfl (lk_ sc58 1 rfl rfl rfl (fd_ fo160_1 rfl rfl (lk_ sc9 0 rfl rfl rfl ?_))))))
   refine wl_callv rfl cb209 rfl rfl (fun wx hm => (classAt_any cl cA cn cc vc2 wx (hm.fact 1 rfl).1 (by omega))) ?_
   refine wl_ov (ov_lss rfl rfl) rfl (sg_ rfl (nn_ ?_))
   refine gw_cond rfl (fun hh => ?_) (fun hh => ?_)
   ·have h5 : ixP (csP vc2) cl 0 < 0 := by simpa using hh
    clear hh
    refine sr_ (sg_ rfl (nn_ ?_))
    refine gw_ret ?_
    refine nx_blk_ret (nx_blk_ret (nx_then_ret (nx_then_ret (nx_blk_ret (nx_then_ret ?_)))))
    have hE : vhE cl (prevOf vl i) ⟨vk, vc2⟩ = 8 := by rw [h8, if_pos h5]
    have hF : scanE (vhE cl) none vl = 8 := by rw [hsc, hat, if_neg (by rw [hE]; decide), hE]
    refine nx_ret1 rfl rfl fun wx hm => ?_
    exact ⟨ret_int (by rw [hfl, hF, fe_left (by decide)]), hm.g⟩
   have h5 : ¬ (ixP (csP vc2) cl 0 < 0) := by simpa using hh
   clear hh
   refine gw_skip (nx_blk_nrm (nx_blk_nrm (nx_then (gw_region ?_))))
   have hE : vhE cl (prevOf vl i) ⟨vk, vc2⟩ = 0 := by rw [h8, if_neg h5]
   refine ad_ rfl rfl (mv_ rfl (wl_nil ?_))
   exact nx_round (i + 1) ⟨by omega, by rw [hsc, hat, if_pos hE]⟩ (by omega) ⟨rfl, rfl, rfl, (some_int (by omega)), trivial⟩ (fun _ hm => hm.pick [1] [] [0, 1, 2, 3] rfl rfl)
  obtain ⟨yy, hy⟩ : ∃ x, vl[i - 1]? = some x := ⟨_, List.getElem?_eq_getElem (by omega)⟩
  obtain ⟨uk, uc⟩ := yy
  refine gd (fun wz => Blk wz g3 160 [.string vk, .string vc2] /\ Blk wz g1 62 [.slice sA sn sc, .slice cA cn cc, .slice (some ⟨bv, ov, none⟩) vn vc, .slice pA pn pc] /\ (SlOld stEnc 15 152 w.heap.size none sA sn sl) wz /\ (SlOld csEnc 2 158 w.heap.size none cA cn cl) wz /\ (SlOld vhEnc 2 160 w.heap.size none (some ⟨bv, ov, none⟩) vn vl) wz /\ (SlOld plEnc 3 162 w.heap.size none pA pn pl) wz /\ True) mixed (fun _ hm => ⟨hm.bl 0, hm.bl 1, hm.fa 0, hm.fa 1, hm.fa 2, hm.fa 3, trivial⟩) fun z => ?_
  refine wt 0 15 1 rfl z (ov_move rfl) ?_
  refine wt 1 15 3 rfl z (ov_gtr rfl rfl) ?_
  refine wa_set 37 (v' := .bool true) rfl (congrArg Value.bool (decide_eq_true (by omega))) ?_
  refine wt 2 15 7 rfl z (ov_move rfl) ?_
  refine wto 3 15 15 rfl rfl rfl z (ov_field fo160_0 rfl rfl) ?_
  refine wto 4 15 31 rfl rfl rfl z (ov_load sc9 rfl (fun _ hm => hm.1) rfl) ?_
  refine wto 5 15 63 rfl rfl rfl z (ov_field fo62_2 rfl rfl) ?_
  refine wto 6 15 127 rfl rfl rfl z (ov_load sc59 rfl (fun _ hm => hm.2.1) rfl) ?_
  refine wto 7 15 255 rfl rfl rfl z (ov_move rfl) ?_
  refine wto 8 15 511 rfl rfl rfl z (ov_sub rfl rfl (by omega) (by omega)) ?_
  refine wa_set 44 (v' := .int .i64 (((i - 1) : Nat) : Int)) rfl (congrArg (Value.int .i64) (by omega)) ?_
  refine wto 9 15 1023 rfl rfl rfl z (ov_index (j := (i - 1)) es59 rfl rfl (by omega)) ?_
  refine wto 10 15 2047 rfl rfl rfl z (ov_field fo160_0 rfl rfl) ?_
  refine wto 11 15 4095 rfl rfl rfl z (ov_elem1 (k := 0) (v := .string uk) sc9 rfl (fun _ hm => (hm.2.2.2.2.1).1) hy rfl rfl) ?_
  refine wto 12 15 8191 rfl rfl rfl z (ov_sleq rfl rfl) ?_
  refine wt 13 15 16383 rfl z (ov_pick_t rfl rfl) ?_
  refine wt 14 15 32767 rfl z (ov_assign rfl) ?_
  refine wa_done (by kernel_rfl) ?_
  refine nx_then ?_
  refine gw_cond rfl (fun hh => ?_) (fun hh => ?_)
  ·have h4 : (Op.bytesLess vk.toList uk.toList || vk.toList == uk.toList) = true := by simpa using hh
   clear hh
   refine sr_ ?_
   have hle : leVh (prevOf vl i) ⟨vk, vc2⟩ = true := by rw [prevOf_pos h0 hy]; exact h4
   refine sg_ rfl (nn_ ?_)
   refine gw_ret ?_
   refine nx_blk_ret (nx_blk_ret (nx_then_ret (nx_then_ret (nx_blk_ret (nx_then_ret ?_)))))
   have hE : vhE cl (prevOf vl i) ⟨vk, vc2⟩ = 7 := vhE_two (by simpa using h3) hle
   have hF : scanE (vhE cl) none vl = 7 := by rw [hsc, hat, if_neg (by rw [hE]; decide), hE]
   refine nx_ret1 rfl rfl fun wx hm => ?_
   exact ⟨ret_int (by rw [hfl, hF, fe_left (by decide)]), hm.g⟩
  have h4 : (Op.bytesLess vk.toList uk.toList || vk.toList == uk.toList) = false := by simpa using hh
  clear hh
  refine sr_ ?_
  have hle : leVh (prevOf vl i) ⟨vk, vc2⟩ = false := by rw [prevOf_pos h0 hy]; exact h4
  have h8 := vhE_three (cl := cl) (b := ⟨vk, vc2⟩) (by simpa using h3) hle
  refine fd_ fo62_1 rfl rfl (lk_ sc58 1 rfl rfl rfl (fd_ fo160_1 rfl rfl (lk_ sc9 0 rfl rfl rfl ?_)))
  refine wl_callv rfl cb209 rfl rfl (fun wx hm => (classAt_any cl cA cn cc vc2 wx (hm.fact 1 rfl).1 (by omega))) ?_
  refine wl_ov (ov_lss rfl rfl) rfl (sg_ rfl (nn_ ?_))
  refine gw_cond rfl (fun hh => ?_) (fun hh => ?_)
  ·have h5 : ixP (csP vc2) cl 0 < 0 := by simpa using hh
   clear hh
   refine sr_ (sg_ rfl (nn_ ?_))
   refine gw_ret ?_
   refine nx_blk_ret (nx_blk_ret (nx_then_ret (nx_then_ret (nx_blk_ret (nx_then_ret ?_)))))
   have hE : vhE cl (prevOf vl i) ⟨vk, vc2⟩ = 8 := by rw [h8, if_pos h5]
   have hF : scanE (vhE cl) none vl = 8 := by rw [hsc, hat, if_neg (by rw [hE]; decide), hE]
   refine nx_ret1 rfl rfl fun wx hm => ?_
   exact ⟨ret_int (by rw [hfl, hF, fe_left (by decide)]), hm.g⟩
  have h5 : ¬ (ixP (csP vc2) cl 0 < 0) := by simpa using hh
  clear hh
  refine gw_skip (nx_blk_nrm (nx_blk_nrm (nx_then (gw_region ?_))))
  have hE : vhE cl (prevOf vl i) ⟨vk, vc2⟩ = 0 := by rw [h8, if_neg h5]
  refine ad_ rfl rfl (mv_ rfl (wl_nil ?_))
  exact nx_round (i + 1) ⟨by omega, by rw [hsc, hat, if_pos hE]⟩ (by omega) ⟨rfl, rfl, rfl, (some_int (by omega)), trivial⟩ (fun _ hm => hm.pick [1] [] [0, 1, 2, 3] rfl rfl)
 have hi : ¬ (((i : Nat) : Int) < ((vn : Nat) : Int)) := by simpa using hh
 clear hh
 refine gw_exit ?_
 refine nx_then_exit (nx_then_exit ?_)
 refine nx_blk_here ?_
 refine nx_then (sr_ ?_)
 have hz : scanE (vhE cl) none vl = 0 := by rw [hsc, List.drop_eq_nil_of_le (by omega)]; rfl
 have hrise : Rise vl := (rise_of hz).1
 obtain ⟨PE, hPE⟩ : ∃ z, z = platesE vl pl := ⟨_, rfl⟩
 refine wl_ov (ov_loads rz62 rfl (fun _ hm => hm.blkI 0 rfl) rfl rfl) rfl ?_
 refine wl_callv (v := .int .i64 PE) rfl cb210 rfl rfl (fun wx hm => (by rw [hPE]; exact checkPlates_any vl pl sA cA vA pA sn sc cn cc vn vc pn pc wx (hm.fact 2 rfl).1 (hm.fact 3 rfl).1 (by omega) (by omega) hrise hpok)) ?_
 refine sg_ rfl (nn_ ?_)
 refine gw_ret ?_
 refine nx_ret1 rfl rfl fun wx hm => ?_
 exact ⟨ret_int (by rw [hfl, hz, fe_right, hPE]), hm.g⟩
end Go.Proofs.YtempjmpfdniecaaGreatDoor
namespace Go.Proofs.YtempjmpfdniecaaGreatDoor
open Go.RowKit
def taken (e : List Pl) (p : Pl) : Bool := e.any fun o => decide (p.fr < o.fr) && (o.veh.toList == p.veh.toList || o.plate.toList == p.plate.toList)
end Go.Proofs.YtempjmpfdniecaaGreatDoor
namespace Go.Proofs.YtempjmpfdniecaaGreatDoor
open Go.RowKit
theorem list14 (hs : List Int) (h : hs.length = 14) : ∃ a0 a1 a2 a3 a4 a5 a6 a7 a8 a9 a10 a11 a12 a13, hs = [a0, a1, a2, a3, a4, a5, a6, a7, a8, a9, a10, a11, a12, a13] := by
 match hs, h with
 | [a0, a1, a2, a3, a4, a5, a6, a7, a8, a9, a10, a11, a12, a13], _ => exact ⟨a0, a1, a2, a3, a4, a5, a6, a7, a8, a9, a10, a11, a12, a13, rfl⟩
def hourFr (hs : List Int) (d : Int) : Int := d * 1440 + frAt hs (d % 7).toNat
def hourTo (hs : List Int) (d : Int) : Int := d * 1440 + toAt hs (d % 7).toNat
def GotWin (w : World) (a b : Int) (e : Ending) (w' : World) : Prop := e = .returned (.agg #[.int .i64 a, .int .i64 b]) /\ w.grownBy w' none
set_option maxRecDepth 100000 in
set_option maxHeartbeats 1000000 in
theorem hours_any (key : ByteArray) (hs : List Int) (d : Int) (w : World) (hl : hs.length = 14) (hd0 : 0 <= d) (hd1 : d <= 1000000000) (hb : ∀ h ∈ hs, -1000000000000000000 <= h /\ h <= 1000000000000000000) :
  Calls Tryz.prog 190 #[.agg (stCells key hs).toArray, .int .i64 d] w (GotWin w (hourFr hs d) (hourTo hs d)) := by
 obtain ⟨j, hj⟩ : ∃ j : Nat, (j : Int) = d % 7 := ⟨(d % 7).toNat, by omega⟩
 have hj7 : j < 7 := by omega
 have hF : hourFr hs d = d * 1440 + frAt hs j := by unfold hourFr; rw [<- hj]; simp
 have hT : hourTo hs d = d * 1440 + toAt hs j := by unfold hourTo; rw [<- hj]; simp
 have hf : -1000000000000000000 <= frAt hs j /\ frAt hs j <= 1000000000000000000 := by
  unfold frAt; rw [List.getD_eq_getElem?_getD, List.getElem?_eq_getElem (by omega)]; exact hb _ (List.getElem_mem _)
 have ht : -1000000000000000000 <= toAt hs j /\ toAt hs j <= 1000000000000000000 := by
  unfold toAt; rw [List.getD_eq_getElem?_getD, List.getElem?_eq_getElem (by omega)]; exact hb _ (List.getElem_mem _)
 rw [hF, hT]
 have hvs : ((hs.map (Value.int .i64)).drop (j * 2)).take 2 = [.int .i64 (frAt hs j), .int .i64 (toAt hs j)] := hrs_pair hs j (by omega)
 generalize frAt hs j = f at *
 generalize toAt hs j = t at *
 have hvv : ∀ i v, [Value.int .i64 f, Value.int .i64 t][i]? = some v -> (stCells key hs)[1 + j * 2 + i]? = some v := fun i v hv => by
  rw [<- hvs, List.getElem?_take] at hv
  split at hv
  ·rw [List.getElem?_drop] at hv
   rw [show 1 + j * 2 + i = (j * 2 + i) + 1 by omega]
   exact hv
  ·cases hv
 have Hvv := Lib.hid hvv
 have hj' : d % 7 = (j : Int) := hj.symm
 have hbox : Blk ((w.alloc (.cells (stCells key hs).toArray 152)).alloc (.cells #[.int .i64 0, .int .i64 0] 27)) w.heap.size 152 (stCells key hs) := (Blk.at_ w rfl _ _).alloc _
 clear hvv hvs hF hT hj
 go_enter Tryz.func190, Tryz.ntmps190
 go_wp2_with (with_reducible refine wpList_load_blk rfl 27 (.tmp 9) rfl w.heap.size (1 + j * 2) _ (stCells key hs) [.int .i64 f, .int .i64 t] _ hbox rfl Tryz.underlying27 rfl 2 info_win (by simp) Hvv.out ?_)
 refine bodyPost_ret (v := .agg #[.int .i64 (d * 1440 + f), .int .i64 (d * 1440 + t)]) (by simp [results, Tryz.results190, go_sem]) rfl ⟨rfl, ?_⟩
 exact grow_alloc (grow_alloc (grow_alloc (World.grownBy.refl _ _) _) _) _
theorem stEnc_len {s : St} (h : StOk s) : (stEnc s).length = 15 := st_len _ _ h.1
theorem sl_one {key : ByteArray} {hs : List Int} {w : World} {g : Nat} (h : Blk w g 152 (stCells key hs)) : SlT stEnc 15 152 w (some ⟨g, 0, none⟩) 1 [⟨key, hs⟩] :=
 ⟨rfl, fun _ => ⟨g, 0, _, _, rfl, h, fun i x hx j v hv => by
  match i, hx with
  | 0, hx =>
   simp at hx; subst hx
   simpa [stEnc] using hv⟩⟩
set_option maxRecDepth 100000 in
set_option maxHeartbeats 1000000 in
theorem checkStation_any (key : ByteArray) (hs : List Int) (f : Int) (w : World) (hok : StOk ⟨key, hs⟩) :
  Calls Tryz.prog 188 #[.agg (stCells key hs).toArray, .int .i64 f] w fun e w' => e = .returned (.int .i64 (firstE [stationsE [⟨key, hs⟩], f])) /\ w.grownBy w' none := by
 have hsl := fun (wz : World) (hz : wz.heap.size = w.heap.size + 1) => sl_one (Blk.at_ wz hz 152 (stCells key hs))
 have Hsl := Lib.hid hsl
 have Hok := Lib.hid hok
 clear hsl
 obtain ⟨a0, a1, a2, a3, a4, a5, a6, a7, a8, a9, a10, a11, a12, a13, rfl⟩ := list14 hs hok.1
 clear hok
 show Calls Tryz.prog 188 #[.agg #[.string key, .int .i64 a0, .int .i64 a1, .int .i64 a2, .int .i64 a3, .int .i64 a4, .int .i64 a5, .int .i64 a6, .int .i64 a7, .int .i64 a8, .int .i64 a9, .int .i64 a10, .int .i64 a11, .int .i64 a12, .int .i64 a13], .int .i64 f] w _
 go_enter Tryz.func188, Tryz.ntmps188
 go_wp2_with fail
 refine (checkStations_any [⟨key, [a0, a1, a2, a3, a4, a5, a6, a7, a8, a9, a10, a11, a12, a13]⟩] _ _ _ _ (Hsl.out (w.alloc (.cells #[.string key, .int .i64 a0, .int .i64 a1, .int .i64 a2, .int .i64 a3, .int .i64 a4, .int .i64 a5, .int .i64 a6, .int .i64 a7, .int .i64 a8, .int .i64 a9, .int .i64 a10, .int .i64 a11, .int .i64 a12, .int .i64 a13] 152)) (by simp)) (by intro s hs; simp at hs; subst hs; exact Hok.out) (by omega)).mono ?_
 rintro e w1 ⟨rfl, hg1⟩
 have hg1' : w.grownBy w1 none := grow_trans (grow_alloc (grow_alloc (World.grownBy.refl _ _) _) _) hg1
 obtain ⟨E, hE⟩ : ∃ E, E = stationsE [⟨key, [a0, a1, a2, a3, a4, a5, a6, a7, a8, a9, a10, a11, a12, a13]⟩] := ⟨_, rfl⟩
 rw [<- hE]
 have HE := Lib.hid hE; clear hE
 go_wp2_with fail
 refine (first_any [E, f] _ _ _ _ (Blk.at_ _ rfl _ _) (by simp)).mono ?_
 rintro e w2 ⟨rfl, rfl⟩
 go_wp2_with fail
 go_ret
 exact ⟨by rw [<- HE.out]; rfl, grow_alloc hg1' _⟩
def isOpenE (s : St) (at_ : Int) : Int := firstE [stationsE [s], momentE at_]
def isOpenV (s : St) (at_ : Int) : Bool := isOpenE s at_ == 0 && decide (hourFr s.hs (at_ / 1440) <= at_) && decide (at_ < hourTo s.hs (at_ / 1440))
end Go.Proofs.YtempjmpfdniecaaGreatDoor
namespace Go.Proofs.YtempjmpfdniecaaGreatDoor
open Go.RowKit
set_option maxRecDepth 100000 in
set_option maxHeartbeats 2000000 in
theorem lotOpen_any (key : ByteArray) (hs : List Int) (at_ : Int) (w : World) (hok : StOk ⟨key, hs⟩) (hb : ∀ h ∈ hs, -1000000000000000000 <= h /\ h <= 1000000000000000000) :
  Calls Tryz.prog 94 #[.agg (stCells key hs).toArray, .int .i64 at_] w (RetBE w (isOpenV ⟨key, hs⟩ at_) (isOpenE ⟨key, hs⟩ at_)) := by
 have Hok := Lib.hid hok
 have Hb := Lib.hid hb
 clear hb
 obtain ⟨a0, a1, a2, a3, a4, a5, a6, a7, a8, a9, a10, a11, a12, a13, rfl⟩ := list14 hs hok.1
 clear hok
 show Calls Tryz.prog 94 #[.agg #[.string key, .int .i64 a0, .int .i64 a1, .int .i64 a2, .int .i64 a3, .int .i64 a4, .int .i64 a5, .int .i64 a6, .int .i64 a7, .int .i64 a8, .int .i64 a9, .int .i64 a10, .int .i64 a11, .int .i64 a12, .int .i64 a13], .int .i64 at_] w _
 go_enter Tryz.func94, Tryz.ntmps94
 go_wp2_with fail
 refine wp_region_still_tail 3 (by kernel_rfl) (by kernel_rfl) ?_
 change wpStill _ _ (World.drew _) _ _ _
 simp only [List.take_succ_cons, List.take_zero, List.drop_succ_cons, List.drop_zero]
 still_step
 still_step
 still_call ((moment_any at_ _).mono fun _ _ h => ⟨h.1, h.2.symm⟩)
 refine wpStill_nil ?_
 change wpList _ _ _ _ _ (World.drew _)
 go_wp2_with fail
 refine (checkStation_any key [a0, a1, a2, a3, a4, a5, a6, a7, a8, a9, a10, a11, a12, a13] _ _ Hok.out).mono ?_
 rintro e w1 ⟨rfl, hg1⟩
 obtain ⟨E, hE⟩ : ∃ E, E = isOpenE ⟨key, [a0, a1, a2, a3, a4, a5, a6, a7, a8, a9, a10, a11, a12, a13]⟩ at_ := ⟨_, rfl⟩
 rw [show firstE [stationsE [⟨key, [a0, a1, a2, a3, a4, a5, a6, a7, a8, a9, a10, a11, a12, a13]⟩], momentE at_] = E from hE.symm]
 have HE := Lib.hid hE; clear hE
 have hbox : Blk w1 w.heap.size 152 (stCells key [a0, a1, a2, a3, a4, a5, a6, a7, a8, a9, a10, a11, a12, a13]) := ((Blk.at_ w rfl _ _).drewN 1).grown hg1 (by simp)
 have hgw : w.grownBy w1 none := grow_trans (grow_drew (grow_alloc (World.grownBy.refl _ _) _)) hg1
 clear hg1
 by_cases h0 : E = 0
 ·have hm := momentE_ok (firstE_two (HE.out.symm.trans h0)).2
  have hdv : at_.tdiv 1440 = at_ / 1440 := Int.tdiv_eq_ediv_of_nonneg hm.1
  have hd0 : 0 <= at_ / 1440 := by omega
  have hd1 : at_ / 1440 <= 1000000000 := by omega
  obtain ⟨d, hd⟩ : ∃ d, d = at_ / 1440 := ⟨_, rfl⟩
  have hV : isOpenV ⟨key, [a0, a1, a2, a3, a4, a5, a6, a7, a8, a9, a10, a11, a12, a13]⟩ at_ = (decide (hourFr [a0, a1, a2, a3, a4, a5, a6, a7, a8, a9, a10, a11, a12, a13] d <= at_) && decide (at_ < hourTo [a0, a1, a2, a3, a4, a5, a6, a7, a8, a9, a10, a11, a12, a13] d)) := by
   unfold isOpenV
   rw [<- HE.out, h0, <- hd]; rfl
  rw [<- hd] at hdv hd0 hd1
  have hd' : at_ / 1440 = d := hd.symm
  have HV := Lib.hid hV
  subst h0
  clear hV hd
  go_wp2_with (with_reducible refine wpList_load_all rfl 152 (.tmp 2) rfl w.heap.size _ (stCells key [a0, a1, a2, a3, a4, a5, a6, a7, a8, a9, a10, a11, a12, a13]) _ hbox rfl Tryz.underlying152 rfl 15 info_st rfl ?_)
  refine (hours_any key [a0, a1, a2, a3, a4, a5, a6, a7, a8, a9, a10, a11, a12, a13] _ _ rfl hd0 hd1 Hb.out).mono ?_
  rintro e w2 ⟨rfl, hg2⟩
  have hgw2 := grow_trans hgw hg2
  obtain ⟨F, hF⟩ : ∃ F, F = hourFr [a0, a1, a2, a3, a4, a5, a6, a7, a8, a9, a10, a11, a12, a13] d := ⟨_, rfl⟩
  obtain ⟨T, hT⟩ : ∃ T, T = hourTo [a0, a1, a2, a3, a4, a5, a6, a7, a8, a9, a10, a11, a12, a13] d := ⟨_, rfl⟩
  rw [<- hF, <- hT] at HV ⊢
  clear hF hT hbox hgw hg2
  go_wp2_with fail
  all_goals
   go_ret2
   exact ⟨ret_be (by rw [HV.out]; simp [*] <;> (intros; omega)) HE.out, grow_alloc hgw2 _⟩
 ·have hne : (E != 0) = true := by simpa using h0
  have hV : isOpenV ⟨key, [a0, a1, a2, a3, a4, a5, a6, a7, a8, a9, a10, a11, a12, a13]⟩ at_ = false := by
   unfold isOpenV
   rw [<- HE.out]; simp [h0]
  have HV := Lib.hid hV
  clear hV h0
  go_wp2_with fail
  go_ret2
  exact ⟨ret_be HV.out.symm HE.out, hgw⟩
end Go.Proofs.YtempjmpfdniecaaGreatDoor
namespace Go.Proofs.YtempjmpfdniecaaGreatDoor
open Go.RowKit
def nextFrom (hs : List Int) (at_ : Int) : Nat -> Int -> Option Int
 | 0, _ => none
 | n + 1, d => if max at_ (hourFr hs d) < hourTo hs d then some (max at_ (hourFr hs d)) else nextFrom hs at_ n (d + 1)
end Go.Proofs.YtempjmpfdniecaaGreatDoor
namespace Go.Proofs.YtempjmpfdniecaaGreatDoor
def frD (hs : List Int) (d : Int) : Int := frAt hs (d % 7).toNat
def toD (hs : List Int) (d : Int) : Int := toAt hs (d % 7).toNat
theorem hourFr_eq (hs : List Int) (d : Int) : hourFr hs d = d * 1440 + frD hs d := rfl
theorem hourTo_eq (hs : List Int) (d : Int) : hourTo hs d = d * 1440 + toD hs d := rfl
section
variable {hs : List Int} {at_ : Int}
theorem never (h : ∀ e, ¬ frD hs e < toD hs e) : ∀ (n : Nat) (d : Int), nextFrom hs at_ n d = none
 | 0, _ => rfl
 | n + 1, d => by
  have h1 := h d
  rw [nextFrom, if_neg (by rw [hourFr_eq, hourTo_eq]; omega)]
  exact never h n (d + 1)
end
end Go.Proofs.YtempjmpfdniecaaGreatDoor
namespace Go.Proofs.YtempjmpfdniecaaGreatDoor
open Go.RowKit
def Bd (x : Int) : Prop := -3000 <= x /\ x <= 3000
theorem wd_l {a b : Int} (h : Wd a b) : Bd a := by unfold Wd at h; unfold Bd; omega
theorem wd_r {a b : Int} (h : Wd a b) : Bd b := by unfold Wd at h; unfold Bd; omega
def StB (s : St) : Prop := s.hs.length = 14 /\ s.key.size <= 10 /\ ∀ h ∈ s.hs, -3000 <= h /\ h <= 3000
theorem stB_ok {s : St} (h : StB s) : StOk s := ⟨h.1, by have := h.2.1; omega, fun x hx => by have := h.2.2 x hx; omega⟩
theorem bd_all {h0 h1 h2 h3 h4 h5 h6 h7 h8 h9 h10 h11 h12 h13 : Int} (h : Bd h0 /\ Bd h1 /\ Bd h2 /\ Bd h3 /\ Bd h4 /\ Bd h5 /\ Bd h6 /\ Bd h7 /\ Bd h8 /\ Bd h9 /\ Bd h10 /\ Bd h11 /\ Bd h12 /\ Bd h13) : ∀ x ∈ [h0, h1, h2, h3, h4, h5, h6, h7, h8, h9, h10, h11, h12, h13], -3000 <= x /\ x <= 3000 := fun x hx => by
 simp only [List.mem_cons, List.not_mem_nil, or_false] at hx
 obtain ⟨b0, b1, b2, b3, b4, b5, b6, b7, b8, b9, b10, b11, b12, b13⟩ := h
 rcases hx with rfl | rfl | rfl | rfl | rfl | rfl | rfl | rfl | rfl | rfl | rfl | rfl | rfl | rfl <;> assumption
theorem stB_snoc {l : List St} {x : St} (h : ∀ y ∈ l, StB y) (hx : StB x) : ∀ y ∈ l ++ [x], StB y := fun y hy => by
 rcases List.mem_append.1 hy with hy | hy
 ·exact h y hy
 ·rw [List.mem_singleton.1 hy]; exact hx
theorem gstations_anyF (w : World) (B sb m : Nat) (hS : Strm 25 w B sb m) (hm : m <= 100000000) :
  Calls Tryz.prog 97 #[.pointer (some ⟨sb, 0, none⟩)] w (fun e w' => ∃ (A : Option Addr) (n c : Nat) (l : List St), e = .returned (.slice A n c) /\ w'.ownsRow w.heap.size 152 15 (.slice A n c) n (l.flatMap stEnc) /\ (l.length = n /\ stationsE l = 0) /\ (∀ x ∈ l, StB x) /\ n <= 3 /\ Strm 25 w' B sb (m + 100) /\ w.grownBy w' (some sb)) := by
 refine gw_enter ⟨47, w, (some sb), []⟩ Tryz.func97 rfl Tryz.ntmps97 rfl (memS (X := []) hS allF_nil allL_nil) ?_
 refine sr_ ?_
 refine wl_nilOwn 152 15 ?_
 refine sg_ rfl (nn_ (sr_ (sg_ rfl (nn_ (gw_seq (sr_ ?_))))))
 refine wl_buildSlice (e := 9) (cs := [.string ⟨#[115, 49]⟩, .string ⟨#[115, 50]⟩, .string ⟨#[115, 51]⟩]) rfl (by kernel_rfl) rfl fun g1 => ?_
 refine wl_ov (ov_len es103 rfl) rfl ?_
 refine wl_set 10 (v' := .int .i64 3) rfl rfl ?_
 refine mv_ rfl (nn_ (gw_block ?_))
 refine gw_loop (γ := Nat × Nat × Value × List St × List Value) (fun g => g.1 <= 3 /\ g.2.1 <= g.1 /\ g.2.2.2.1.length = g.2.1 /\ (∀ x ∈ g.2.2.2.1, StB x) /\ StG g.1 g.2.2.2.1 /\ g.2.2.2.2 = g.2.2.2.1.flatMap stEnc) (fun g => [(0, .pointer (some ⟨sb, 0, none⟩)), (2, .slice none 0 0), (3, g.2.2.1), (9, .slice (some ⟨g1, 0, none⟩) 3 3), (10, .int .i64 3), (11, .int .i64 ((g.1 : Nat) : Int))]) (fun g => fun w => Strm 25 w B sb (m + 30 * g.1)) (fun g => [(g1, 9, [.string ⟨#[115, 49]⟩, .string ⟨#[115, 50]⟩, .string ⟨#[115, 51]⟩])]) (fun g => [⟨g.2.2.1, 152, 15, g.2.1, g.2.2.2.2⟩]) (fun g => []) (fun g => 3 - g.1) (0, 0, .slice none 0 0, [], []) ⟨Nat.zero_le _, Nat.le_refl _, rfl, (fun _ h => by cases h), stG_nil, rfl⟩ ⟨rfl, rfl, rfl, rfl, rfl, rfl, trivial⟩ (fun _ hm => (hm.more rfl (by first | omega | (dsimp only; omega))).pick [0] [0] [] rfl rfl) ?_
 rintro ⟨i, k, v, l, xs⟩ hinv
 replace hinv : i <= 3 /\ k <= i /\ l.length = k /\ (∀ x ∈ l, StB x) /\ StG i l /\ xs = l.flatMap stEnc := hinv
 dsimp only
 refine sr_ ?_
 obtain ⟨hi0, hki, hl, hok, hsg, rfl⟩ := hinv
 refine wl_ov (ov_lss rfl rfl) rfl (nn_ (gw_seq ?_))
 refine gw_cond rfl (fun hh => ?_) (fun hh => ?_)
 ·have hi : ((i : Nat) : Int) < 3 := by simpa using hh
  clear hh
  refine gw_skip (nx_then (gw_seq (gw_block (sr_ ?_))))
  obtain ⟨nm, hx⟩ : ∃ x, ([⟨#[115, 49]⟩, ⟨#[115, 50]⟩, ⟨#[115, 51]⟩] : List ByteArray)[i]? = some x := ⟨_, List.getElem?_eq_getElem (by simp; omega)⟩
  have hnm : nm.size <= 100 := mem_sz (List.mem_of_getElem? hx) (by decide)
  have hnm2 : nm.size <= 10 := by
   have := List.mem_of_getElem? hx
   simp only [List.mem_cons, List.not_mem_nil, or_false] at this
   rcases this with rfl | rfl | rfl <;> decide
  refine wl_ov (ov_index (j := i) es103 rfl rfl (by omega)) rfl ?_
  refine wl_ov (ov_elem1 (k := 0) (v := .string nm) sc9 rfl (fun _ hm => (SlT.ofBlk (l := [⟨#[115, 49]⟩, ⟨#[115, 50]⟩, ⟨#[115, 51]⟩]) sg_len (hm.blkI 0 rfl))) hx rfl rfl) rfl ?_
  refine sg_ rfl (nn_ (gw_seq (sr_ (mv_ rfl ?_))))
  refine wl_got (γ := Bool) (val := fun v => .bool v) (φ := fun v => True) rfl cb64 rfl rfl rfl rfl (fun wx hm => ((flip_any _ wx B sb _ hm.k (by omega) (by omega) (by omega)).mono fun _ _ ⟨v, he, hS, hg⟩ => ⟨v, trivial, he, hS, hg⟩)) fun f2 _ => ?_
  refine nn_ ?_
  refine gw_cond rfl (fun hh => ?_) (fun hh => ?_)
  ·have hf : f2 = true := by simpa using hh
   clear hh
   refine gw_exit ?_
   refine nx_then_exit ?_
   refine nx_blk_here ?_
   refine nx_then (gw_region (ad_ rfl rfl (mv_ rfl (wl_nil ?_))))
   exact nx_round (i + 1, k, v, l, l.flatMap stEnc) ⟨by dsimp only; omega, by dsimp only; omega, hl, hok, stG_more hsg, rfl⟩ (by dsimp only; omega) ⟨rfl, rfl, rfl, rfl, rfl, (some_int (by omega)), trivial⟩ (fun _ hm => (hm.more rfl (by first | omega | (dsimp only; omega))).pick [0] [0] [] rfl rfl)
  have hf : f2 = false := by simpa using hh
  clear hh
  refine gw_skip (nx_then (sr_ (mv_ rfl ?_)))
  refine wl_ov (ov_build (cs := [.string nm, .int .i64 0, .int .i64 0, .int .i64 0, .int .i64 0, .int .i64 0, .int .i64 0, .int .i64 0, .int .i64 0, .int .i64 0, .int .i64 0, .int .i64 0, .int .i64 0, .int .i64 0, .int .i64 0]) rfl (by kernel_rfl)) rfl ?_
  refine wl_alloc zc152 rfl fun g3 => ?_
  refine wl_stores (cs' := [.string nm, .int .i64 0, .int .i64 0, .int .i64 0, .int .i64 0, .int .i64 0, .int .i64 0, .int .i64 0, .int .i64 0, .int .i64 0, .int .i64 0, .int .i64 0, .int .i64 0, .int .i64 0, .int .i64 0]) 0 rz152 rfl rfl rfl rfl rfl rfl rfl rfl ?_
  refine nn_ (gw_seq (sr_ (mv_ rfl (nn_ (gw_block ?_)))))
  refine gw_loop (γ := Nat × Int × Int × Int × Int × Int × Int × Int × Int × Int × Int × Int × Int × Int × Int) (fun g => g.1 <= 7 /\ Wd g.2.1 g.2.2.1 /\ Wd g.2.2.2.1 g.2.2.2.2.1 /\ Wd g.2.2.2.2.2.1 g.2.2.2.2.2.2.1 /\ Wd g.2.2.2.2.2.2.2.1 g.2.2.2.2.2.2.2.2.1 /\ Wd g.2.2.2.2.2.2.2.2.2.1 g.2.2.2.2.2.2.2.2.2.2.1 /\ Wd g.2.2.2.2.2.2.2.2.2.2.2.1 g.2.2.2.2.2.2.2.2.2.2.2.2.1 /\ Wd g.2.2.2.2.2.2.2.2.2.2.2.2.2.1 g.2.2.2.2.2.2.2.2.2.2.2.2.2.2) (fun g => [(0, .pointer (some ⟨sb, 0, none⟩)), (2, .slice none 0 0), (3, v), (6, .pointer (some ⟨g3, 0, none⟩)), (9, .slice (some ⟨g1, 0, none⟩) 3 3), (10, .int .i64 3), (11, .int .i64 ((i : Nat) : Int)), (19, .int .i64 ((g.1 : Nat) : Int))]) (fun g => fun w => Strm 25 w B sb (m + 30 * i + 1 + 3 * g.1)) (fun g => [(g3, 152, [.string nm, .int .i64 g.2.1, .int .i64 g.2.2.1, .int .i64 g.2.2.2.1, .int .i64 g.2.2.2.2.1, .int .i64 g.2.2.2.2.2.1, .int .i64 g.2.2.2.2.2.2.1, .int .i64 g.2.2.2.2.2.2.2.1, .int .i64 g.2.2.2.2.2.2.2.2.1, .int .i64 g.2.2.2.2.2.2.2.2.2.1, .int .i64 g.2.2.2.2.2.2.2.2.2.2.1, .int .i64 g.2.2.2.2.2.2.2.2.2.2.2.1, .int .i64 g.2.2.2.2.2.2.2.2.2.2.2.2.1, .int .i64 g.2.2.2.2.2.2.2.2.2.2.2.2.2.1, .int .i64 g.2.2.2.2.2.2.2.2.2.2.2.2.2.2]), (g1, 9, [.string ⟨#[115, 49]⟩, .string ⟨#[115, 50]⟩, .string ⟨#[115, 51]⟩])]) (fun g => [⟨v, 152, 15, k, l.flatMap stEnc⟩]) (fun g => []) (fun g => 7 - g.1) (0, 0, 0, 0, 0, 0, 0, 0, 0, 0, 0, 0, 0, 0, 0) ⟨Nat.zero_le _, (⟨by decide, by decide, by decide⟩ : Wd 0 0), (⟨by decide, by decide, by decide⟩ : Wd 0 0), (⟨by decide, by decide, by decide⟩ : Wd 0 0), (⟨by decide, by decide, by decide⟩ : Wd 0 0), (⟨by decide, by decide, by decide⟩ : Wd 0 0), (⟨by decide, by decide, by decide⟩ : Wd 0 0), (⟨by decide, by decide, by decide⟩ : Wd 0 0)⟩ ⟨rfl, rfl, rfl, rfl, rfl, rfl, rfl, rfl, trivial⟩ (fun _ hm => (hm.more rfl (by first | omega | (dsimp only; omega))).pick [0, 1] [0] [] rfl rfl) ?_
  rintro ⟨j, h0, h1, h2, h3, h4, h5, h6, h7, h8, h9, h10, h11, h12, h13⟩ hinv
  replace hinv : j <= 7 /\ Wd h0 h1 /\ Wd h2 h3 /\ Wd h4 h5 /\ Wd h6 h7 /\ Wd h8 h9 /\ Wd h10 h11 /\ Wd h12 h13 := hinv
  dsimp only
  refine sr_ ?_
  obtain ⟨hj0, p0, p1, p2, p3, p4, p5, p6⟩ := hinv
  refine wl_ov (ov_lss rfl rfl) rfl (nn_ (gw_seq ?_))
  refine gw_cond rfl (fun hh => ?_) (fun hh => ?_)
  ·have hj : ((j : Nat) : Int) < 7 := by simpa using hh
   clear hh
   refine gw_skip (nx_then (gw_seq (gw_block (sr_ ?_))))
   have hjc : j = 0 ∨ j = 1 ∨ j = 2 ∨ j = 3 ∨ j = 4 ∨ j = 5 ∨ j = 6 := by omega
   rcases hjc with hjc | hjc | hjc | hjc | hjc | hjc | hjc
   ·subst hjc
    refine mv_ rfl ?_
    refine wl_set 21 (v' := .int .i64 0) rfl rfl ?_
    refine sg_ rfl (nn_ (sr_ (mv_ rfl ?_)))
    refine wl_buildSlice (e := 3) (cs := [.int .i64 0, .int .i64 0, .int .i64 480, .int .i64 600, .int .i64 1440]) rfl (by kernel_rfl) rfl fun g4 => ?_
    refine wl_got (γ := Int) (val := fun v => .int .i64 v) (φ := fun v => v ∈ ([0, 0, 480, 600, 1440] : List Int)) rfl cb11 rfl rfl rfl rfl (fun wx hm => (pick_any [0, 0, 480, 600, 1440] _ _ _ wx B sb _ hm.k (by omega) (by simp) (by simp) (hm.blkI 0 rfl) (hm.neRow 0 rfl rfl))) fun v5 hv5 => ?_
    have bv5 : 0 <= v5 /\ v5 <= 1440 := mem_rng hv5 (by decide)
    have bv50 := bv5.1
    have bv51 := bv5.2
    clear bv5
    refine sg_ rfl (nn_ (sr_ (mv_ rfl (mv_ rfl (mv_ rfl (mv_ rfl ?_))))))
    refine wl_got (γ := Int) (val := fun v => .int .i64 v) (φ := fun v => v5 <= v /\ (v <= 1440 ∨ v = v5)) rfl cb26 rfl rfl rfl rfl (fun wx hm => (range_any _ _ wx B sb _ hm.k (by omega) (by omega) (by omega) (by omega) (by omega))) fun v6 hv6 => ?_
    refine wl_ov (ov_build (cs := [.int .i64 v5, .int .i64 v6]) rfl (by kernel_rfl)) rfl ?_
    refine fd_ fo152_1 rfl rfl ?_
    refine wl_ov (ov_indexP (j := 0) ar150 rfl rfl (by decide) rfl) rfl ?_
    refine wl_stores (cs' := [.string nm, .int .i64 v5, .int .i64 v6, .int .i64 h2, .int .i64 h3, .int .i64 h4, .int .i64 h5, .int .i64 h6, .int .i64 h7, .int .i64 h8, .int .i64 h9, .int .i64 h10, .int .i64 h11, .int .i64 h12, .int .i64 h13]) 1 rz27 rfl rfl rfl rfl rfl rfl rfl rfl ?_
    refine nn_ (sr_ (mv_ rfl ?_))
    refine wl_got (γ := Bool) (val := fun v => .bool v) (φ := fun v => True) rfl cb64 rfl rfl rfl rfl (fun wx hm => ((flip_any _ wx B sb _ hm.k (by omega) (by omega) (by omega)).mono fun _ _ ⟨v, he, hS, hg⟩ => ⟨v, trivial, he, hS, hg⟩)) fun f7 _ => ?_
    refine nn_ ?_
    refine gw_cond rfl (fun hh => ?_) (fun hh => ?_)
    ·have hf4 : f7 = true := by simpa using hh
     clear hh
     refine gw_region (mv_ rfl (mv_ rfl (fd_ fo152_1 rfl rfl ?_)))
     refine wl_ov (ov_indexP (j := 0) ar150 rfl rfl (by decide) rfl) rfl ?_
     refine fd_ fo27_1 rfl rfl ?_
     refine wl_store 1 sc3 rfl rfl rfl rfl rfl rfl ?_
     refine wl_nil (nx_blk_nrm (nx_then (gw_region (ad_ rfl rfl ?_))))
     refine wl_set 40 (v' := .int .i64 1) rfl rfl ?_
     refine mv_ rfl (wl_nil ?_)
     exact nx_round (1, v5, v5, h2, h3, h4, h5, h6, h7, h8, h9, h10, h11, h12, h13) ⟨by dsimp only; omega, (by unfold Wd; dsimp only; omega), p1, p2, p3, p4, p5, p6⟩ (by dsimp only; omega) ⟨rfl, rfl, rfl, rfl, rfl, rfl, rfl, rfl, trivial⟩ (fun _ hm => (hm.more rfl (by first | omega | (dsimp only; omega))).pick [1, 2] [0] [] rfl rfl)
    have hf4 : f7 = false := by simpa using hh
    clear hh
    refine gw_skip (nx_blk_nrm (nx_then (gw_region (ad_ rfl rfl ?_))))
    refine wl_set 40 (v' := .int .i64 1) rfl rfl ?_
    refine mv_ rfl (wl_nil ?_)
    exact nx_round (1, v5, v6, h2, h3, h4, h5, h6, h7, h8, h9, h10, h11, h12, h13) ⟨by dsimp only; omega, (by unfold Wd; dsimp only; omega), p1, p2, p3, p4, p5, p6⟩ (by dsimp only; omega) ⟨rfl, rfl, rfl, rfl, rfl, rfl, rfl, rfl, trivial⟩ (fun _ hm => (hm.more rfl (by first | omega | (dsimp only; omega))).pick [1, 2] [0] [] rfl rfl)
   ·subst hjc
    refine mv_ rfl ?_
    refine wl_set 21 (v' := .int .i64 1) rfl rfl ?_
    refine sg_ rfl (nn_ (sr_ (mv_ rfl ?_)))
    refine wl_buildSlice (e := 3) (cs := [.int .i64 0, .int .i64 0, .int .i64 480, .int .i64 600, .int .i64 1440]) rfl (by kernel_rfl) rfl fun g8 => ?_
    refine wl_got (γ := Int) (val := fun v => .int .i64 v) (φ := fun v => v ∈ ([0, 0, 480, 600, 1440] : List Int)) rfl cb11 rfl rfl rfl rfl (fun wx hm => (pick_any [0, 0, 480, 600, 1440] _ _ _ wx B sb _ hm.k (by omega) (by simp) (by simp) (hm.blkI 0 rfl) (hm.neRow 0 rfl rfl))) fun v9 hv9 => ?_
    have bv9 : 0 <= v9 /\ v9 <= 1440 := mem_rng hv9 (by decide)
    have bv90 := bv9.1
    have bv91 := bv9.2
    clear bv9
    refine sg_ rfl (nn_ (sr_ (mv_ rfl (mv_ rfl (mv_ rfl (mv_ rfl ?_))))))
    refine wl_got (γ := Int) (val := fun v => .int .i64 v) (φ := fun v => v9 <= v /\ (v <= 1440 ∨ v = v9)) rfl cb26 rfl rfl rfl rfl (fun wx hm => (range_any _ _ wx B sb _ hm.k (by omega) (by omega) (by omega) (by omega) (by omega))) fun v10 hv10 => ?_
    refine wl_ov (ov_build (cs := [.int .i64 v9, .int .i64 v10]) rfl (by kernel_rfl)) rfl ?_
    refine fd_ fo152_1 rfl rfl ?_
    refine wl_ov (ov_indexP (j := 1) ar150 rfl rfl (by decide) rfl) rfl ?_
    refine wl_stores (cs' := [.string nm, .int .i64 h0, .int .i64 h1, .int .i64 v9, .int .i64 v10, .int .i64 h4, .int .i64 h5, .int .i64 h6, .int .i64 h7, .int .i64 h8, .int .i64 h9, .int .i64 h10, .int .i64 h11, .int .i64 h12, .int .i64 h13]) 1 rz27 rfl rfl rfl rfl rfl rfl rfl rfl ?_
    refine nn_ (sr_ (mv_ rfl ?_))
    refine wl_got (γ := Bool) (val := fun v => .bool v) (φ := fun v => True) rfl cb64 rfl rfl rfl rfl (fun wx hm => ((flip_any _ wx B sb _ hm.k (by omega) (by omega) (by omega)).mono fun _ _ ⟨v, he, hS, hg⟩ => ⟨v, trivial, he, hS, hg⟩)) fun f11 _ => ?_
    refine nn_ ?_
    refine gw_cond rfl (fun hh => ?_) (fun hh => ?_)
    ·have hf4 : f11 = true := by simpa using hh
     clear hh
     refine gw_region (mv_ rfl (mv_ rfl (fd_ fo152_1 rfl rfl ?_)))
     refine wl_ov (ov_indexP (j := 1) ar150 rfl rfl (by decide) rfl) rfl ?_
     refine fd_ fo27_1 rfl rfl ?_
     refine wl_store 1 sc3 rfl rfl rfl rfl rfl rfl ?_
     refine wl_nil (nx_blk_nrm (nx_then (gw_region (ad_ rfl rfl ?_))))
     refine wl_set 40 (v' := .int .i64 2) rfl rfl ?_
     refine mv_ rfl (wl_nil ?_)
     exact nx_round (2, h0, h1, v9, v9, h4, h5, h6, h7, h8, h9, h10, h11, h12, h13) ⟨by dsimp only; omega, p0, (by unfold Wd; dsimp only; omega), p2, p3, p4, p5, p6⟩ (by dsimp only; omega) ⟨rfl, rfl, rfl, rfl, rfl, rfl, rfl, rfl, trivial⟩ (fun _ hm => (hm.more rfl (by first | omega | (dsimp only; omega))).pick [1, 2] [0] [] rfl rfl)
    have hf4 : f11 = false := by simpa using hh
    clear hh
    refine gw_skip (nx_blk_nrm (nx_then (gw_region (ad_ rfl rfl ?_))))
    refine wl_set 40 (v' := .int .i64 2) rfl rfl ?_
    refine mv_ rfl (wl_nil ?_)
    exact nx_round (2, h0, h1, v9, v10, h4, h5, h6, h7, h8, h9, h10, h11, h12, h13) ⟨by dsimp only; omega, p0, (by unfold Wd; dsimp only; omega), p2, p3, p4, p5, p6⟩ (by dsimp only; omega) ⟨rfl, rfl, rfl, rfl, rfl, rfl, rfl, rfl, trivial⟩ (fun _ hm => (hm.more rfl (by first | omega | (dsimp only; omega))).pick [1, 2] [0] [] rfl rfl)
   ·subst hjc
    refine mv_ rfl ?_
    refine wl_set 21 (v' := .int .i64 2) rfl rfl ?_
    refine sg_ rfl (nn_ (sr_ (mv_ rfl ?_)))
    refine wl_buildSlice (e := 3) (cs := [.int .i64 0, .int .i64 0, .int .i64 480, .int .i64 600, .int .i64 1440]) rfl (by kernel_rfl) rfl fun g12 => ?_
    refine wl_got (γ := Int) (val := fun v => .int .i64 v) (φ := fun v => v ∈ ([0, 0, 480, 600, 1440] : List Int)) rfl cb11 rfl rfl rfl rfl (fun wx hm => (pick_any [0, 0, 480, 600, 1440] _ _ _ wx B sb _ hm.k (by omega) (by simp) (by simp) (hm.blkI 0 rfl) (hm.neRow 0 rfl rfl))) fun v13 hv13 => ?_
    have bv13 : 0 <= v13 /\ v13 <= 1440 := mem_rng hv13 (by decide)
    have bv130 := bv13.1
    have bv131 := bv13.2
    clear bv13
    refine sg_ rfl (nn_ (sr_ (mv_ rfl (mv_ rfl (mv_ rfl (mv_ rfl ?_))))))
    refine wl_got (γ := Int) (val := fun v => .int .i64 v) (φ := fun v => v13 <= v /\ (v <= 1440 ∨ v = v13)) rfl cb26 rfl rfl rfl rfl (fun wx hm => (range_any _ _ wx B sb _ hm.k (by omega) (by omega) (by omega) (by omega) (by omega))) fun v14 hv14 => ?_
    refine wl_ov (ov_build (cs := [.int .i64 v13, .int .i64 v14]) rfl (by kernel_rfl)) rfl ?_
    refine fd_ fo152_1 rfl rfl ?_
    refine wl_ov (ov_indexP (j := 2) ar150 rfl rfl (by decide) rfl) rfl ?_
    refine wl_stores (cs' := [.string nm, .int .i64 h0, .int .i64 h1, .int .i64 h2, .int .i64 h3, .int .i64 v13, .int .i64 v14, .int .i64 h6, .int .i64 h7, .int .i64 h8, .int .i64 h9, .int .i64 h10, .int .i64 h11, .int .i64 h12, .int .i64 h13]) 1 rz27 rfl rfl rfl rfl rfl rfl rfl rfl ?_
    refine nn_ (sr_ (mv_ rfl ?_))
    refine wl_got (γ := Bool) (val := fun v => .bool v) (φ := fun v => True) rfl cb64 rfl rfl rfl rfl (fun wx hm => ((flip_any _ wx B sb _ hm.k (by omega) (by omega) (by omega)).mono fun _ _ ⟨v, he, hS, hg⟩ => ⟨v, trivial, he, hS, hg⟩)) fun f15 _ => ?_
    refine nn_ ?_
    refine gw_cond rfl (fun hh => ?_) (fun hh => ?_)
    ·have hf4 : f15 = true := by simpa using hh
     clear hh
     refine gw_region (mv_ rfl (mv_ rfl (fd_ fo152_1 rfl rfl ?_)))
     refine wl_ov (ov_indexP (j := 2) ar150 rfl rfl (by decide) rfl) rfl ?_
     refine fd_ fo27_1 rfl rfl ?_
     refine wl_store 1 sc3 rfl rfl rfl rfl rfl rfl ?_
     refine wl_nil (nx_blk_nrm (nx_then (gw_region (ad_ rfl rfl ?_))))
     refine wl_set 40 (v' := .int .i64 3) rfl rfl ?_
     refine mv_ rfl (wl_nil ?_)
     exact nx_round (3, h0, h1, h2, h3, v13, v13, h6, h7, h8, h9, h10, h11, h12, h13) ⟨by dsimp only; omega, p0, p1, (by unfold Wd; dsimp only; omega), p3, p4, p5, p6⟩ (by dsimp only; omega) ⟨rfl, rfl, rfl, rfl, rfl, rfl, rfl, rfl, trivial⟩ (fun _ hm => (hm.more rfl (by first | omega | (dsimp only; omega))).pick [1, 2] [0] [] rfl rfl)
    have hf4 : f15 = false := by simpa using hh
    clear hh
    refine gw_skip (nx_blk_nrm (nx_then (gw_region (ad_ rfl rfl ?_))))
    refine wl_set 40 (v' := .int .i64 3) rfl rfl ?_
    refine mv_ rfl (wl_nil ?_)
    exact nx_round (3, h0, h1, h2, h3, v13, v14, h6, h7, h8, h9, h10, h11, h12, h13) ⟨by dsimp only; omega, p0, p1, (by unfold Wd; dsimp only; omega), p3, p4, p5, p6⟩ (by dsimp only; omega) ⟨rfl, rfl, rfl, rfl, rfl, rfl, rfl, rfl, trivial⟩ (fun _ hm => (hm.more rfl (by first | omega | (dsimp only; omega))).pick [1, 2] [0] [] rfl rfl)
   ·subst hjc
    refine mv_ rfl ?_
    refine wl_set 21 (v' := .int .i64 3) rfl rfl ?_
    refine sg_ rfl (nn_ (sr_ (mv_ rfl ?_)))
    refine wl_buildSlice (e := 3) (cs := [.int .i64 0, .int .i64 0, .int .i64 480, .int .i64 600, .int .i64 1440]) rfl (by kernel_rfl) rfl fun g16 => ?_
    refine wl_got (γ := Int) (val := fun v => .int .i64 v) (φ := fun v => v ∈ ([0, 0, 480, 600, 1440] : List Int)) rfl cb11 rfl rfl rfl rfl (fun wx hm => (pick_any [0, 0, 480, 600, 1440] _ _ _ wx B sb _ hm.k (by omega) (by simp) (by simp) (hm.blkI 0 rfl) (hm.neRow 0 rfl rfl))) fun v17 hv17 => ?_
    have bv17 : 0 <= v17 /\ v17 <= 1440 := mem_rng hv17 (by decide)
    have bv170 := bv17.1
    have bv171 := bv17.2
    clear bv17
    refine sg_ rfl (nn_ (sr_ (mv_ rfl (mv_ rfl (mv_ rfl (mv_ rfl ?_))))))
    refine wl_got (γ := Int) (val := fun v => .int .i64 v) (φ := fun v => v17 <= v /\ (v <= 1440 ∨ v = v17)) rfl cb26 rfl rfl rfl rfl (fun wx hm => (range_any _ _ wx B sb _ hm.k (by omega) (by omega) (by omega) (by omega) (by omega))) fun v18 hv18 => ?_
    refine wl_ov (ov_build (cs := [.int .i64 v17, .int .i64 v18]) rfl (by kernel_rfl)) rfl ?_
    refine fd_ fo152_1 rfl rfl ?_
    refine wl_ov (ov_indexP (j := 3) ar150 rfl rfl (by decide) rfl) rfl ?_
    refine wl_stores (cs' := [.string nm, .int .i64 h0, .int .i64 h1, .int .i64 h2, .int .i64 h3, .int .i64 h4, .int .i64 h5, .int .i64 v17, .int .i64 v18, .int .i64 h8, .int .i64 h9, .int .i64 h10, .int .i64 h11, .int .i64 h12, .int .i64 h13]) 1 rz27 rfl rfl rfl rfl rfl rfl rfl rfl ?_
    refine nn_ (sr_ (mv_ rfl ?_))
    refine wl_got (γ := Bool) (val := fun v => .bool v) (φ := fun v => True) rfl cb64 rfl rfl rfl rfl (fun wx hm => ((flip_any _ wx B sb _ hm.k (by omega) (by omega) (by omega)).mono fun _ _ ⟨v, he, hS, hg⟩ => ⟨v, trivial, he, hS, hg⟩)) fun f19 _ => ?_
    refine nn_ ?_
    refine gw_cond rfl (fun hh => ?_) (fun hh => ?_)
    ·have hf4 : f19 = true := by simpa using hh
     clear hh
     refine gw_region (mv_ rfl (mv_ rfl (fd_ fo152_1 rfl rfl ?_)))
     refine wl_ov (ov_indexP (j := 3) ar150 rfl rfl (by decide) rfl) rfl ?_
     refine fd_ fo27_1 rfl rfl ?_
     refine wl_store 1 sc3 rfl rfl rfl rfl rfl rfl ?_
     refine wl_nil (nx_blk_nrm (nx_then (gw_region (ad_ rfl rfl ?_))))
     refine wl_set 40 (v' := .int .i64 4) rfl rfl ?_
     refine mv_ rfl (wl_nil ?_)
     exact nx_round (4, h0, h1, h2, h3, h4, h5, v17, v17, h8, h9, h10, h11, h12, h13) ⟨by dsimp only; omega, p0, p1, p2, (by unfold Wd; dsimp only; omega), p4, p5, p6⟩ (by dsimp only; omega) ⟨rfl, rfl, rfl, rfl, rfl, rfl, rfl, rfl, trivial⟩ (fun _ hm => (hm.more rfl (by first | omega | (dsimp only; omega))).pick [1, 2] [0] [] rfl rfl)
    have hf4 : f19 = false := by simpa using hh
    clear hh
    refine gw_skip (nx_blk_nrm (nx_then (gw_region (ad_ rfl rfl ?_))))
    refine wl_set 40 (v' := .int .i64 4) rfl rfl ?_
    refine mv_ rfl (wl_nil ?_)
    exact nx_round (4, h0, h1, h2, h3, h4, h5, v17, v18, h8, h9, h10, h11, h12, h13) ⟨by dsimp only; omega, p0, p1, p2, (by unfold Wd; dsimp only; omega), p4, p5, p6⟩ (by dsimp only; omega) ⟨rfl, rfl, rfl, rfl, rfl, rfl, rfl, rfl, trivial⟩ (fun _ hm => (hm.more rfl (by first | omega | (dsimp only; omega))).pick [1, 2] [0] [] rfl rfl)
   ·subst hjc
    refine mv_ rfl ?_
    refine wl_set 21 (v' := .int .i64 4) rfl rfl ?_
    refine sg_ rfl (nn_ (sr_ (mv_ rfl ?_)))
    refine wl_buildSlice (e := 3) (cs := [.int .i64 0, .int .i64 0, .int .i64 480, .int .i64 600, .int .i64 1440]) rfl (by kernel_rfl) rfl fun g20 => ?_
    refine wl_got (γ := Int) (val := fun v => .int .i64 v) (φ := fun v => v ∈ ([0, 0, 480, 600, 1440] : List Int)) rfl cb11 rfl rfl rfl rfl (fun wx hm => (pick_any [0, 0, 480, 600, 1440] _ _ _ wx B sb _ hm.k (by omega) (by simp) (by simp) (hm.blkI 0 rfl) (hm.neRow 0 rfl rfl))) fun v21 hv21 => ?_
    have bv21 : 0 <= v21 /\ v21 <= 1440 := mem_rng hv21 (by decide)
    have bv210 := bv21.1
    have bv211 := bv21.2
    clear bv21
    refine sg_ rfl (nn_ (sr_ (mv_ rfl (mv_ rfl (mv_ rfl (mv_ rfl ?_))))))
    refine wl_got (γ := Int) (val := fun v => .int .i64 v) (φ := fun v => v21 <= v /\ (v <= 1440 ∨ v = v21)) rfl cb26 rfl rfl rfl rfl (fun wx hm => (range_any _ _ wx B sb _ hm.k (by omega) (by omega) (by omega) (by omega) (by omega))) fun v22 hv22 => ?_
    refine wl_ov (ov_build (cs := [.int .i64 v21, .int .i64 v22]) rfl (by kernel_rfl)) rfl ?_
    refine fd_ fo152_1 rfl rfl ?_
    refine wl_ov (ov_indexP (j := 4) ar150 rfl rfl (by decide) rfl) rfl ?_
    refine wl_stores (cs' := [.string nm, .int .i64 h0, .int .i64 h1, .int .i64 h2, .int .i64 h3, .int .i64 h4, .int .i64 h5, .int .i64 h6, .int .i64 h7, .int .i64 v21, .int .i64 v22, .int .i64 h10, .int .i64 h11, .int .i64 h12, .int .i64 h13]) 1 rz27 rfl rfl rfl rfl rfl rfl rfl rfl ?_
    refine nn_ (sr_ (mv_ rfl ?_))
    refine wl_got (γ := Bool) (val := fun v => .bool v) (φ := fun v => True) rfl cb64 rfl rfl rfl rfl (fun wx hm => ((flip_any _ wx B sb _ hm.k (by omega) (by omega) (by omega)).mono fun _ _ ⟨v, he, hS, hg⟩ => ⟨v, trivial, he, hS, hg⟩)) fun f23 _ => ?_
    refine nn_ ?_
    refine gw_cond rfl (fun hh => ?_) (fun hh => ?_)
    ·have hf4 : f23 = true := by simpa using hh
     clear hh
     refine gw_region (mv_ rfl (mv_ rfl (fd_ fo152_1 rfl rfl ?_)))
     refine wl_ov (ov_indexP (j := 4) ar150 rfl rfl (by decide) rfl) rfl ?_
     refine fd_ fo27_1 rfl rfl ?_
     refine wl_store 1 sc3 rfl rfl rfl rfl rfl rfl ?_
     refine wl_nil (nx_blk_nrm (nx_then (gw_region (ad_ rfl rfl ?_))))
     refine wl_set 40 (v' := .int .i64 5) rfl rfl ?_
     refine mv_ rfl (wl_nil ?_)
     exact nx_round (5, h0, h1, h2, h3, h4, h5, h6, h7, v21, v21, h10, h11, h12, h13) ⟨by dsimp only; omega, p0, p1, p2, p3, (by unfold Wd; dsimp only; omega), p5, p6⟩ (by dsimp only; omega) ⟨rfl, rfl, rfl, rfl, rfl, rfl, rfl, rfl, trivial⟩ (fun _ hm => (hm.more rfl (by first | omega | (dsimp only; omega))).pick [1, 2] [0] [] rfl rfl)
    have hf4 : f23 = false := by simpa using hh
    clear hh
    refine gw_skip (nx_blk_nrm (nx_then (gw_region (ad_ rfl rfl ?_))))
    refine wl_set 40 (v' := .int .i64 5) rfl rfl ?_
    refine mv_ rfl (wl_nil ?_)
    exact nx_round (5, h0, h1, h2, h3, h4, h5, h6, h7, v21, v22, h10, h11, h12, h13) ⟨by dsimp only; omega, p0, p1, p2, p3, (by unfold Wd; dsimp only; omega), p5, p6⟩ (by dsimp only; omega) ⟨rfl, rfl, rfl, rfl, rfl, rfl, rfl, rfl, trivial⟩ (fun _ hm => (hm.more rfl (by first | omega | (dsimp only; omega))).pick [1, 2] [0] [] rfl rfl)
   ·subst hjc
    refine mv_ rfl ?_
    refine wl_set 21 (v' := .int .i64 5) rfl rfl ?_
    refine sg_ rfl (nn_ (sr_ (mv_ rfl ?_)))
    refine wl_buildSlice (e := 3) (cs := [.int .i64 0, .int .i64 0, .int .i64 480, .int .i64 600, .int .i64 1440]) rfl (by kernel_rfl) rfl fun g24 => ?_
    refine wl_got (γ := Int) (val := fun v => .int .i64 v) (φ := fun v => v ∈ ([0, 0, 480, 600, 1440] : List Int)) rfl cb11 rfl rfl rfl rfl (fun wx hm => (pick_any [0, 0, 480, 600, 1440] _ _ _ wx B sb _ hm.k (by omega) (by simp) (by simp) (hm.blkI 0 rfl) (hm.neRow 0 rfl rfl))) fun v25 hv25 => ?_
    have bv25 : 0 <= v25 /\ v25 <= 1440 := mem_rng hv25 (by decide)
    have bv250 := bv25.1
    have bv251 := bv25.2
    clear bv25
    refine sg_ rfl (nn_ (sr_ (mv_ rfl (mv_ rfl (mv_ rfl (mv_ rfl ?_))))))
    refine wl_got (γ := Int) (val := fun v => .int .i64 v) (φ := fun v => v25 <= v /\ (v <= 1440 ∨ v = v25)) rfl cb26 rfl rfl rfl rfl (fun wx hm => (range_any _ _ wx B sb _ hm.k (by omega) (by omega) (by omega) (by omega) (by omega))) fun v26 hv26 => ?_
    refine wl_ov (ov_build (cs := [.int .i64 v25, .int .i64 v26]) rfl (by kernel_rfl)) rfl ?_
    refine fd_ fo152_1 rfl rfl ?_
    refine wl_ov (ov_indexP (j := 5) ar150 rfl rfl (by decide) rfl) rfl ?_
    refine wl_stores (cs' := [.string nm, .int .i64 h0, .int .i64 h1, .int .i64 h2, .int .i64 h3, .int .i64 h4, .int .i64 h5, .int .i64 h6, .int .i64 h7, .int .i64 h8, .int .i64 h9, .int .i64 v25, .int .i64 v26, .int .i64 h12, .int .i64 h13]) 1 rz27 rfl rfl rfl rfl rfl rfl rfl rfl ?_
    refine nn_ (sr_ (mv_ rfl ?_))
    refine wl_got (γ := Bool) (val := fun v => .bool v) (φ := fun v => True) rfl cb64 rfl rfl rfl rfl (fun wx hm => ((flip_any _ wx B sb _ hm.k (by omega) (by omega) (by omega)).mono fun _ _ ⟨v, he, hS, hg⟩ => ⟨v, trivial, he, hS, hg⟩)) fun f27 _ => ?_
    refine nn_ ?_
    refine gw_cond rfl (fun hh => ?_) (fun hh => ?_)
    ·have hf4 : f27 = true := by simpa using hh
     clear hh
     refine gw_region (mv_ rfl (mv_ rfl (fd_ fo152_1 rfl rfl ?_)))
     refine wl_ov (ov_indexP (j := 5) ar150 rfl rfl (by decide) rfl) rfl ?_
     refine fd_ fo27_1 rfl rfl ?_
     refine wl_store 1 sc3 rfl rfl rfl rfl rfl rfl ?_
     refine wl_nil (nx_blk_nrm (nx_then (gw_region (ad_ rfl rfl ?_))))
     refine wl_set 40 (v' := .int .i64 6) rfl rfl ?_
     refine mv_ rfl (wl_nil ?_)
     exact nx_round (6, h0, h1, h2, h3, h4, h5, h6, h7, h8, h9, v25, v25, h12, h13) ⟨by dsimp only; omega, p0, p1, p2, p3, p4, (by unfold Wd; dsimp only; omega), p6⟩ (by dsimp only; omega) ⟨rfl, rfl, rfl, rfl, rfl, rfl, rfl, rfl, trivial⟩ (fun _ hm => (hm.more rfl (by first | omega | (dsimp only; omega))).pick [1, 2] [0] [] rfl rfl)
    have hf4 : f27 = false := by simpa using hh
    clear hh
    refine gw_skip (nx_blk_nrm (nx_then (gw_region (ad_ rfl rfl ?_))))
    refine wl_set 40 (v' := .int .i64 6) rfl rfl ?_
    refine mv_ rfl (wl_nil ?_)
    exact nx_round (6, h0, h1, h2, h3, h4, h5, h6, h7, h8, h9, v25, v26, h12, h13) ⟨by dsimp only; omega, p0, p1, p2, p3, p4, (by unfold Wd; dsimp only; omega), p6⟩ (by dsimp only; omega) ⟨rfl, rfl, rfl, rfl, rfl, rfl, rfl, rfl, trivial⟩ (fun _ hm => (hm.more rfl (by first | omega | (dsimp only; omega))).pick [1, 2] [0] [] rfl rfl)
   subst hjc
   refine mv_ rfl ?_
   refine wl_set 21 (v' := .int .i64 6) rfl rfl ?_
   refine sg_ rfl (nn_ (sr_ (mv_ rfl ?_)))
   refine wl_buildSlice (e := 3) (cs := [.int .i64 0, .int .i64 0, .int .i64 480, .int .i64 600, .int .i64 1440]) rfl (by kernel_rfl) rfl fun g28 => ?_
   refine wl_got (γ := Int) (val := fun v => .int .i64 v) (φ := fun v => v ∈ ([0, 0, 480, 600, 1440] : List Int)) rfl cb11 rfl rfl rfl rfl (fun wx hm => (pick_any [0, 0, 480, 600, 1440] _ _ _ wx B sb _ hm.k (by omega) (by simp) (by simp) (hm.blkI 0 rfl) (hm.neRow 0 rfl rfl))) fun v29 hv29 => ?_
   have bv29 : 0 <= v29 /\ v29 <= 1440 := mem_rng hv29 (by decide)
   have bv290 := bv29.1
   have bv291 := bv29.2
   clear bv29
   refine sg_ rfl (nn_ (sr_ (mv_ rfl (mv_ rfl (mv_ rfl (mv_ rfl ?_))))))
   refine wl_got (γ := Int) (val := fun v => .int .i64 v) (φ := fun v => v29 <= v /\ (v <= 1440 ∨ v = v29)) rfl cb26 rfl rfl rfl rfl (fun wx hm => (range_any _ _ wx B sb _ hm.k (by omega) (by omega) (by omega) (by omega) (by omega))) fun v30 hv30 => ?_
   refine wl_ov (ov_build (cs := [.int .i64 v29, .int .i64 v30]) rfl (by kernel_rfl)) rfl ?_
   refine fd_ fo152_1 rfl rfl ?_
   refine wl_ov (ov_indexP (j := 6) ar150 rfl rfl (by decide) rfl) rfl ?_
   refine wl_stores (cs' := [.string nm, .int .i64 h0, .int .i64 h1, .int .i64 h2, .int .i64 h3, .int .i64 h4, .int .i64 h5, .int .i64 h6, .int .i64 h7, .int .i64 h8, .int .i64 h9, .int .i64 h10, .int .i64 h11, .int .i64 v29, .int .i64 v30]) 1 rz27 rfl rfl rfl rfl rfl rfl rfl rfl ?_
   refine nn_ (sr_ (mv_ rfl ?_))
   refine wl_got (γ := Bool) (val := fun v => .bool v) (φ := fun v => True) rfl cb64 rfl rfl rfl rfl (fun wx hm => ((flip_any _ wx B sb _ hm.k (by omega) (by omega) (by omega)).mono fun _ _ ⟨v, he, hS, hg⟩ => ⟨v, trivial, he, hS, hg⟩)) fun f31 _ => ?_
   refine nn_ ?_
   refine gw_cond rfl (fun hh => ?_) (fun hh => ?_)
   ·have hf4 : f31 = true := by simpa using hh
    clear hh
    refine gw_region (mv_ rfl (mv_ rfl (fd_ fo152_1 rfl rfl ?_)))
    refine wl_ov (ov_indexP (j := 6) ar150 rfl rfl (by decide) rfl) rfl ?_
    refine fd_ fo27_1 rfl rfl ?_
    refine wl_store 1 sc3 rfl rfl rfl rfl rfl rfl ?_
    refine wl_nil (nx_blk_nrm (nx_then (gw_region (ad_ rfl rfl ?_))))
    refine wl_set 40 (v' := .int .i64 7) rfl rfl ?_
    refine mv_ rfl (wl_nil ?_)
    exact nx_round (7, h0, h1, h2, h3, h4, h5, h6, h7, h8, h9, h10, h11, v29, v29) ⟨by dsimp only; omega, p0, p1, p2, p3, p4, p5, (by unfold Wd; dsimp only; omega)⟩ (by dsimp only; omega) ⟨rfl, rfl, rfl, rfl, rfl, rfl, rfl, rfl, trivial⟩ (fun _ hm => (hm.more rfl (by first | omega | (dsimp only; omega))).pick [1, 2] [0] [] rfl rfl)
   have hf4 : f31 = false := by simpa using hh
   clear hh
   refine gw_skip (nx_blk_nrm (nx_then (gw_region (ad_ rfl rfl ?_))))
   refine wl_set 40 (v' := .int .i64 7) rfl rfl ?_
   refine mv_ rfl (wl_nil ?_)
   exact nx_round (7, h0, h1, h2, h3, h4, h5, h6, h7, h8, h9, h10, h11, v29, v30) ⟨by dsimp only; omega, p0, p1, p2, p3, p4, p5, (by unfold Wd; dsimp only; omega)⟩ (by dsimp only; omega) ⟨rfl, rfl, rfl, rfl, rfl, rfl, rfl, rfl, trivial⟩ (fun _ hm => (hm.more rfl (by first | omega | (dsimp only; omega))).pick [1, 2] [0] [] rfl rfl)
  have hj : ¬ (((j : Nat) : Int) < 7) := by simpa using hh
  clear hh
  refine gw_exit ?_
  refine nx_then_exit (nx_then_exit ?_)
  refine nx_blk_here ?_
  refine nx_then (gw_region ?_)
  have hall : ∀ x ∈ [h0, h1, h2, h3, h4, h5, h6, h7, h8, h9, h10, h11, h12, h13], -3000 <= x /\ x <= 3000 := bd_all ⟨wd_l p0, wd_r p0, wd_l p1, wd_r p1, wd_l p2, wd_r p2, wd_l p3, wd_r p3, wd_l p4, wd_r p4, wd_l p5, wd_r p5, wd_l p6, wd_r p6⟩
  have hfin := hours_fine ⟨p0, p1, p2, p3, p4, p5, p6⟩
  refine mv_ rfl ?_
  refine wl_ov (ov_loads rz152 rfl (fun _ hm => hm.blkI 0 rfl) rfl rfl) rfl ?_
  refine wl_buildSlice (e := 152) (cs := [.string nm, .int .i64 h0, .int .i64 h1, .int .i64 h2, .int .i64 h3, .int .i64 h4, .int .i64 h5, .int .i64 h6, .int .i64 h7, .int .i64 h8, .int .i64 h9, .int .i64 h10, .int .i64 h11, .int .i64 h12, .int .i64 h13]) rfl (by kernel_rfl) rfl fun g32 => ?_
  refine wl_append (news := [.string nm, .int .i64 h0, .int .i64 h1, .int .i64 h2, .int .i64 h3, .int .i64 h4, .int .i64 h5, .int .i64 h6, .int .i64 h7, .int .i64 h8, .int .i64 h9, .int .i64 h10, .int .i64 h11, .int .i64 h12, .int .i64 h13]) 0 0 ap57 rfl rfl rfl rfl rfl rfl rfl (by omega) (by unfold maxLen; omega) rfl rfl fun v2 hv2 => ?_
  refine sg_ rfl (wl_nil (nx_blk_nrm (nx_then (gw_region (ad_ rfl rfl (mv_ rfl (wl_nil ?_)))))))
  exact nx_round (i + 1, k + 1, v2, l ++ [⟨nm, [h0, h1, h2, h3, h4, h5, h6, h7, h8, h9, h10, h11, h12, h13]⟩], l.flatMap stEnc ++ ([.string nm, .int .i64 h0, .int .i64 h1, .int .i64 h2, .int .i64 h3, .int .i64 h4, .int .i64 h5, .int .i64 h6, .int .i64 h7, .int .i64 h8, .int .i64 h9, .int .i64 h10, .int .i64 h11, .int .i64 h12, .int .i64 h13] : List Value)) ⟨by dsimp only; omega, by dsimp only; omega, by simp [hl], stB_snoc hok ⟨rfl, hnm2, hall⟩, stG_snoc hsg hx hfin, by simp [stEnc, stCells]⟩ (by dsimp only; omega) ⟨rfl, rfl, rfl, rfl, rfl, (some_int (by omega)), trivial⟩ (fun _ hm => (hm.more rfl (by first | omega | (dsimp only; omega))).pick [2] [0] [] rfl rfl)
 have hi : ¬ (((i : Nat) : Int) < 3) := by simpa using hh
 clear hh
 refine gw_exit ?_
 refine nx_then_exit (nx_then_exit ?_)
 refine nx_blk_here ?_
 refine nx_then (sr_ ?_)
 refine wl_look (R := ∃ A cc, v = .slice A k cc) (fun wx hm => own_slice (hm.ownI 0 rfl)) ?_
 rintro ⟨A, c, rfl⟩
 refine mv_ rfl (sg_ rfl (nn_ ?_))
 refine gw_ret ?_
 refine nx_ret1 rfl rfl fun wx hm => ?_
 exact ⟨A, k, c, l, rfl, hm.ownI 0 rfl, ⟨hl, stG_right hsg (by omega)⟩, hok, by omega, hm.k.more (by omega), hm.g⟩
end Go.Proofs.YtempjmpfdniecaaGreatDoor
