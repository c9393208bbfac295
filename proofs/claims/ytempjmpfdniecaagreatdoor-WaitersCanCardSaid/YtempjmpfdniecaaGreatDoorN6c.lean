/- Several texts as one: Bv Sp Bd Bx Bwb Asp Asq Asr Ast Asu Asv Asw Asx Gl Go Gov Gow Cells Lst Mp Md Ev Yp Gox Goy Goa Asy Goz Fw Fx Fz Gf Gst Lop LopA LopB Win LopC Sq Sn Ix Sr Gg Goq Goe Asz Bea Rn Wn Az Beb Shx Nm Txt Bu Rdr Bec Bed -/
import Derived.Test.YtempjmpfdniecaaGreatDoorN6b
import Derived.Test.YtempjmpfdniecaaGreatDoorN6a
import Derived.Deep.LoopGhost
import Derived.Deep.DeepCutAuto
import Derived.Maps.Own
import Derived.MapKept
import Derived.StillTailTactics
import Derived.Laws.Concat
import Derived.Lib.AppendZeros
import Derived.Test.YtempjmpfdniecaaGreatDoorProg
import Derived.Ground.NamesProg
import Derived.Shelf.Strings.Cut
import Derived.Shelf.Strings.Split
import Derived.Shelf.Strings.Prefix
import Derived.Shelf.Strings.OnBuilder
import Derived.Shelf.Strings.Builder1
import Derived.Shelf.Strconv.Itoa3
import Derived.Shelf.Strconv.AtoiAll
import Derived.Shelf.Strconv.ErrVarAll
import Derived.Lib.ItoaNum
import Derived.Lib.AtoiAll
import Derived.Lib.Strings
set_option maxRecDepth 100000
set_option maxHeartbeats 4000000
namespace Go.Proofs.YtempjmpfdniecaaGreatDoor
open Go.RowKit
def TimOk (T : List (Int × Int)) : Prop := ∀ t ∈ T, 0 ≤ t.1 ∧ t.1 < t.2 ∧ t.2 ≤ 5761439
def BkTim (l : List Bk) : Prop := ∀ b ∈ l, 0 ≤ b.fr ∧ b.fr < b.to_ ∧ b.to_ ≤ 5761439
theorem form_tim {l : List Bk} (h : formE l = 0) : BkTim l := fun b hb => by
  unfold formE at h
  split at h
  · cases h
  · obtain ⟨q, hq⟩ := scanE_all h b hb
    have := bookE_ok hq
    exact ⟨this.1, this.2.1, this.2.2.1⟩
def busyT (T : List (Int × Int)) (a b : Int) : Int × Int := busyF (onT T) (sortI (a :: frsM a b T))
theorem busyF_stp {f : Int → Nat} {S : List Int} {k : Nat} {x : Int} (h : S[k]? = some x) (hc : (busyF f (S.take k)).1 < (f x : Int)) : (busyF f (S.take (k + 1))).1 = (f x : Int) ∧ (busyF f (S.take (k + 1))).2 = x := by
  rw [busyF_take h]; unfold busyS; rw [if_pos hc]; exact ⟨rfl, rfl⟩
theorem busyF_sty {f : Int → Nat} {S : List Int} {k : Nat} {x : Int} (h : S[k]? = some x) (hc : ¬ (busyF f (S.take k)).1 < (f x : Int)) : busyF f (S.take (k + 1)) = busyF f (S.take k) := by
  rw [busyF_take h]; unfold busyS; rw [if_neg hc]
theorem busiest_any (T : List (Int × Int)) (A : Option Addr) (n c : Nat) (a b : Int) (w : World) (ht : SlT wEnc 2 27 w A n T) (hT : TimOk T) (hn : n ≤ 1000) (hb : 0 ≤ b ∧ b ≤ 5761440) :
  Calls Tryz.prog 320 #[.slice A n c, .agg #[.int .i64 a, .int .i64 b]] w (fun e w' => e = .returned (.tuple #[.int .i64 (busyT T a b).1, .int .i64 (busyT T a b).2]) ∧ w.grownBy w' none) := by
 refine gw_enter ⟨71, w, none, []⟩ Tryz.func320 rfl Tryz.ntmps320 rfl (mem0 (X := [SlOld wEnc 2 27 w.heap.size none A n T]) (allF_cons ht.old allF_nil) (allL_cons SlOld.lasts allL_nil)) ?_
 refine sr_ ?_
 have hlen := ht.len
 refine wl_box rfl rfl rfl fun g1 => ?_
 refine sg_ rfl (sg_ rfl (nn_ (sr_ (fd_ fo27_0 rfl rfl (lk_ sc3 0 rfl rfl rfl ?_)))))
 refine wl_buildSlice (e := 3) (cs := [.int .i64 a]) rfl (by kernel_rfl) rfl fun g2 => ?_
 refine sg_ rfl (nn_ (gw_seq (sr_ (mv_ rfl (wl_ov (ov_len es341 rfl) rfl (mv_ rfl (nn_ (gw_block ?_))))))))
 refine gw_toOwn (sz := 1) (n := 1) 0 [1] rfl rfl rfl (by unfold maxLen; omega) ?_
 refine gw_loop (γ := Nat × Nat × Value × List Value) (fun g => g.1 ≤ n ∧ (frsM a b (T.take g.1)).length = g.2.1 ∧ g.2.1 ≤ g.1 ∧ g.2.2.2 = (a :: frsM a b (T.take g.1)).flatMap iEnc) (fun g => [(0, .slice A n c), (3, .pointer (some ⟨g1, 0, none⟩)), (4, .int .i64 0), (5, .int .i64 0), (6, g.2.2.1), (19, .slice A n c), (20, .int .i64 ((n : Nat) : Int)), (21, .int .i64 ((g.1 : Nat) : Int))]) (fun g => fun _ => True) (fun g => [(g1, 27, [.int .i64 a, .int .i64 b])]) (fun g => [⟨g.2.2.1, 3, 1, (g.2.1 + 1), g.2.2.2⟩]) (fun g => [SlOld wEnc 2 27 w.heap.size none A n T]) (fun g => n - g.1) (0, 0, .slice (some ⟨g2, 0, none⟩) 1 1, [.int .i64 a]) ⟨Nat.zero_le _, by simp [frsM], Nat.le_refl _, by simp [frsM, iEnc]⟩ ⟨rfl, rfl, rfl, rfl, rfl, rfl, rfl, rfl, trivial⟩ (fun _ hm => hm.pick [0] [0] [0] rfl rfl) ?_
 rintro ⟨i, k, v, xs⟩ hinv
 replace hinv : i ≤ n ∧ (frsM a b (T.take i)).length = k ∧ k ≤ i ∧ xs = (a :: frsM a b (T.take i)).flatMap iEnc := hinv
 dsimp only
 refine sr_ ?_
 obtain ⟨hi0, hk, hki, rfl⟩ := hinv
 refine wl_ov (ov_lss rfl rfl) rfl (nn_ (gw_seq ?_))
 refine gw_cond rfl (fun hh => ?_) (fun hh => ?_)
 ·have hi : ((i : Nat) : Int) < ((n : Nat) : Int) := by simpa using hh
  clear hh
  refine gw_skip (nx_then (gw_seq (gw_block (sr_ ?_))))
  obtain ⟨bt, off, hA, _, _⟩ := ht.get (by omega)
  subst hA
  obtain ⟨x, hx⟩ : ∃ x, T[i]? = some x := ⟨_, List.getElem?_eq_getElem (by omega)⟩
  obtain ⟨fr, tt⟩ := x
  obtain ⟨ht0, ht1, ht2⟩ := hT _ (List.mem_of_getElem? hx)
  dsimp only at ht0 ht1 ht2
  have hft := frsM_take (a := a) (b := b) hx
  refine wl_ov (ov_index (j := i) es341 rfl rfl (by omega)) rfl ?_
  refine wl_ov (ov_elem (vs := [.int .i64 fr, .int .i64 tt]) rz27 rfl (fun _ hm => (hm.fact 0 rfl).1) hx rfl rfl) rfl ?_
  refine wl_alloc zc27 rfl fun g3 => ?_
  refine wl_stores (cs' := [.int .i64 fr, .int .i64 tt]) 0 rz27 rfl rfl rfl rfl rfl rfl rfl rfl ?_
  refine nn_ (sr_ (fd_ fo27_0 rfl rfl (lk_ sc3 0 rfl rfl rfl (fd_ fo27_0 rfl rfl (lk_ sc3 1 rfl rfl rfl (fd_ fo27_1 rfl rfl (lk_ sc3 1 rfl rfl rfl ?_)))))))
  refine wl_ov (ov_sub rfl rfl (by omega) (by omega)) rfl ?_
  refine wl_callw rfl cb166 rfl rfl (fun wx hm => (in_any _ _ _ wx)) ?_
  refine nn_ ?_
  refine gw_cond rfl (fun hh => ?_) (fun hh => ?_)
  ·have hq : (inB fr a (b - 1)) = true := by simpa using hh
   clear hh
   refine gw_region ?_
   rw [if_pos hq] at hft
   refine mv_ rfl (fd_ fo27_0 rfl rfl (lk_ sc3 0 rfl rfl rfl ?_))
   refine wl_buildSlice (e := 3) (cs := [.int .i64 fr]) rfl (by kernel_rfl) rfl fun g4 => ?_
   refine wl_append (news := [.int .i64 fr]) 0 0 ap22 rfl rfl rfl rfl rfl rfl rfl (by omega) (by unfold maxLen; omega) rfl rfl fun v2 hv2 => ?_
   refine sg_ rfl (wl_nil (nx_blk_nrm (nx_then (gw_region (ad_ rfl rfl (mv_ rfl (wl_nil ?_)))))))
   exact nx_round (i + 1, k + 1, v2, (a :: frsM a b (T.take i)).flatMap iEnc ++ ([.int .i64 fr] : List Value)) ⟨by dsimp only; omega, by rw [hft]; simp [hk], by dsimp only; omega, by rw [hft]; simp [iEnc]⟩ (by dsimp only; omega) ⟨rfl, rfl, rfl, rfl, rfl, rfl, rfl, (some_int (by omega)), trivial⟩ (fun _ hm => hm.pick [2] [0] [0] rfl rfl)
  have hq : (inB fr a (b - 1)) = false := by simpa using hh
  clear hh
  refine gw_skip (nx_blk_nrm (nx_then (gw_region ?_)))
  rw [if_neg (by rw [hq]; decide), List.append_nil] at hft
  refine ad_ rfl rfl (mv_ rfl (wl_nil ?_))
  exact nx_round (i + 1, k, v, (a :: frsM a b (T.take i)).flatMap iEnc) ⟨by dsimp only; omega, by rw [hft]; exact hk, by dsimp only; omega, by rw [hft]⟩ (by dsimp only; omega) ⟨rfl, rfl, rfl, rfl, rfl, rfl, rfl, (some_int (by omega)), trivial⟩ (fun _ hm => hm.pick [1] [0] [0] rfl rfl)
 have hi : ¬ (((i : Nat) : Int) < ((n : Nat) : Int)) := by simpa using hh
 clear hh
 refine gw_exit ?_
 refine nx_then_exit (nx_then_exit ?_)
 refine nx_blk_here ?_
 refine nx_then (sr_ ?_)
 have hall : T.take i = T := List.take_of_length_le (by omega)
 rw [hall] at hk ⊢
 obtain ⟨S, hS⟩ : ∃ S, S = sortI (a :: frsM a b T) := ⟨_, rfl⟩
 have hSl : S.length = k + 1 := by rw [hS, sortI_len, List.length_cons, hk]
 have hgoal : busyT T a b = busyF (onT T) S := by unfold busyT; rw [hS]
 rw [hgoal]
 refine wl_look (R := ∃ A cc, v = .slice A (k + 1) cc) (fun wx hm => own_slice (hm.ownI 0 rfl)) ?_
 rintro ⟨A3, c3, rfl⟩
 refine wl_look (R := ∃ g, A3 = some ⟨g, 0, none⟩) (fun wx hm => own_addr (hm.ownI 0 rfl) (by omega)) ?_
 rintro ⟨g3, rfl⟩
 refine mv_ rfl ?_
 refine wl_callr (v := .tuple #[]) (xs' := S.flatMap iEnc) 0 rfl rfl rfl cb136 rfl rfl (fun wx hm => (by have h := sort_own (a :: frsM a b T) g3 (k + 1) c3 _ wx (hm.ownI 0 rfl) (by simp [hk]) (by omega); rw [← hS] at h; exact h)) ?_
 refine nn_ (sr_ (sg_ rfl ?_))
 refine wl_set 9 (v' := .int .i64 (-1)) rfl rfl ?_
 refine sg_ rfl (nn_ (gw_seq (sr_ (mv_ rfl (wl_ov (ov_len es22 rfl) rfl (mv_ rfl (nn_ (gw_block ?_))))))))
 refine gw_loop (γ := Nat) (fun (j : Nat) => j ≤ k + 1) (fun (j : Nat) => [(0, .slice A n c), (4, .int .i64 0), (5, .int .i64 0), (9, .int .i64 ((busyF (onT T) (S.take j)).1)), (10, .int .i64 ((busyF (onT T) (S.take j)).2)), (41, .slice (some ⟨g3, 0, none⟩) (k + 1) c3), (42, .int .i64 (((k + 1) : Nat) : Int)), (43, .int .i64 ((j : Nat) : Int))]) (fun (j : Nat) => fun _ => True) (fun (j : Nat) => [(g1, 27, [.int .i64 a, .int .i64 b])]) (fun (j : Nat) => [⟨.slice (some ⟨g3, 0, none⟩) (k + 1) c3, 3, 1, (k + 1), S.flatMap iEnc⟩]) (fun (j : Nat) => [SlOld wEnc 2 27 w.heap.size none A n T]) (fun (j : Nat) => k + 1 - j) 0 (Nat.zero_le _) ⟨rfl, rfl, rfl, (some_int (by rw [List.take_zero]; rfl)), (some_int (by rw [List.take_zero]; rfl)), rfl, rfl, rfl, trivial⟩ (fun _ hm => hm.pick [0] [0] [0] rfl rfl) ?_
 intro j hinv
 replace hinv : j ≤ k + 1 := hinv
 refine sr_ (wl_ov (ov_lss rfl rfl) rfl (nn_ (gw_seq ?_)))
 refine gw_cond rfl (fun hh => ?_) (fun hh => ?_)
 ·have hj : ((j : Nat) : Int) < (((k + 1) : Nat) : Int) := by simpa using hh
  clear hh
  refine gw_skip (nx_then (gw_seq (gw_block (sr_ ?_))))
  obtain ⟨x, hxS⟩ : ∃ x, S[j]? = some x := ⟨_, List.getElem?_eq_getElem (by omega)⟩
  refine wl_ov (ov_index (j := j) es22 rfl rfl (by omega)) rfl ?_
  refine wl_ov (ov_elem1 (k := 0) (v := .int .i64 x) sc3 rfl (fun _ hm => (SlT.ofOwn i_len (hm.ownI 0 rfl) hSl)) hxS rfl rfl) rfl ?_
  refine sg_ rfl (nn_ (sr_ (sg_ rfl (nn_ (gw_seq (sr_ (mv_ rfl (wl_ov (ov_len es341 rfl) rfl (mv_ rfl ?_)))))))))
  refine nn_ (gw_block ?_)
  refine gw_loop (γ := Nat) (fun (i : Nat) => i ≤ n) (fun (i : Nat) => [(0, .slice A n c), (4, .int .i64 0), (5, .int .i64 0), (9, .int .i64 ((busyF (onT T) (S.take j)).1)), (10, .int .i64 ((busyF (onT T) (S.take j)).2)), (12, .int .i64 x), (13, .int .i64 ((onT (T.take i) x : Nat) : Int)), (41, .slice (some ⟨g3, 0, none⟩) (k + 1) c3), (42, .int .i64 (((k + 1) : Nat) : Int)), (43, .int .i64 ((j : Nat) : Int)), (47, .slice A n c), (48, .int .i64 ((n : Nat) : Int)), (49, .int .i64 ((i : Nat) : Int))]) (fun (i : Nat) => fun _ => True) (fun (i : Nat) => [(g1, 27, [.int .i64 a, .int .i64 b])]) (fun (i : Nat) => [⟨.slice (some ⟨g3, 0, none⟩) (k + 1) c3, 3, 1, (k + 1), S.flatMap iEnc⟩]) (fun (i : Nat) => [SlOld wEnc 2 27 w.heap.size none A n T]) (fun (i : Nat) => n - i) 0 (Nat.zero_le _) ⟨rfl, rfl, rfl, rfl, rfl, rfl, (some_int (by rw [List.take_zero]; rfl)), rfl, rfl, rfl, rfl, rfl, rfl, trivial⟩ (fun _ hm => hm.pick [0] [0] [0] rfl rfl) ?_
  intro i hinv
  replace hinv : i ≤ n := hinv
  refine sr_ (wl_ov (ov_lss rfl rfl) rfl (nn_ (gw_seq ?_)))
  refine gw_cond rfl (fun hh => ?_) (fun hh => ?_)
  ·have hi3 : ((i : Nat) : Int) < ((n : Nat) : Int) := by simpa using hh
   clear hh
   refine gw_skip (nx_then (gw_seq (gw_block (sr_ ?_))))
   obtain ⟨bt, off, hA, _, _⟩ := ht.get (by omega)
   subst hA
   obtain ⟨x3, hx3⟩ : ∃ x, T[i]? = some x := ⟨_, List.getElem?_eq_getElem (by omega)⟩
   obtain ⟨fr, tt⟩ := x3
   obtain ⟨ht0, ht1, ht2⟩ := hT _ (List.mem_of_getElem? hx3)
   dsimp only at ht0 ht1 ht2
   have hon := onT_take (x := x) hx3
   have hob := onT_le (T.take i) x
   have hobl : (T.take i).length ≤ n := by rw [List.length_take]; omega
   refine wl_ov (ov_index (j := i) es341 rfl rfl (by omega)) rfl ?_
   refine wl_ov (ov_elem (vs := [.int .i64 fr, .int .i64 tt]) rz27 rfl (fun _ hm => (hm.fact 0 rfl).1) hx3 rfl rfl) rfl ?_
   refine wl_alloc zc27 rfl fun g5 => ?_
   refine wl_stores (cs' := [.int .i64 fr, .int .i64 tt]) 0 rz27 rfl rfl rfl rfl rfl rfl rfl rfl ?_
   refine nn_ (sr_ (mv_ rfl (fd_ fo27_0 rfl rfl (lk_ sc3 0 rfl rfl rfl (fd_ fo27_1 rfl rfl (lk_ sc3 0 rfl rfl rfl ?_))))))
   refine wl_ov (ov_sub rfl rfl (by omega) (by omega)) rfl ?_
   refine wl_callw rfl cb166 rfl rfl (fun wx hm => (in_any _ _ _ wx)) ?_
   refine nn_ ?_
   refine gw_cond rfl (fun hh => ?_) (fun hh => ?_)
   ·have hq : (inB x fr (tt - 1)) = true := by simpa using hh
    clear hh
    refine gw_region ?_
    rw [if_pos hq] at hon
    refine mv_ rfl (ad_ rfl rfl (sg_ rfl (wl_nil (nx_blk_nrm (nx_then (gw_region (ad_ rfl rfl (mv_ rfl (wl_nil ?_)))))))))
    exact nx_round (i + 1) (by omega) (by omega) ⟨rfl, rfl, rfl, rfl, rfl, rfl, (some_int (by rw [hon]; omega)), rfl, rfl, rfl, rfl, rfl, (some_int (by omega)), trivial⟩ (fun _ hm => hm.pick [1] [0] [0] rfl rfl)
   have hq : (inB x fr (tt - 1)) = false := by simpa using hh
   clear hh
   refine gw_skip (nx_blk_nrm (nx_then (gw_region ?_)))
   rw [if_neg (by rw [hq]; decide)] at hon
   refine ad_ rfl rfl (mv_ rfl (wl_nil ?_))
   exact nx_round (i + 1) (by omega) (by omega) ⟨rfl, rfl, rfl, rfl, rfl, rfl, (some_int (by rw [hon]; omega)), rfl, rfl, rfl, rfl, rfl, (some_int (by omega)), trivial⟩ (fun _ hm => hm.pick [1] [0] [0] rfl rfl)
  have hi3 : ¬ (((i : Nat) : Int) < ((n : Nat) : Int)) := by simpa using hh
  clear hh
  refine gw_exit ?_
  refine nx_then_exit (nx_then_exit ?_)
  refine nx_blk_here ?_
  refine nx_then (sr_ ?_)
  have hall3 : T.take i = T := List.take_of_length_le (by omega)
  rw [hall3]
  refine mv_ rfl (mv_ rfl ?_)
  refine wl_ov (ov_gtr rfl rfl) rfl ?_
  refine nn_ ?_
  refine gw_cond rfl (fun hh => ?_) (fun hh => ?_)
  ·have hc : (busyF (onT T) (S.take j)).1 < ((onT T x : Nat) : Int) := by simpa using hh
   clear hh
   refine gw_region ?_
   have hst := busyF_stp (f := onT T) hxS hc
   refine mv_ rfl (mv_ rfl (sg_ rfl (sg_ rfl (wl_nil (nx_blk_nrm (nx_then (gw_region (ad_ rfl rfl (mv_ rfl (wl_nil ?_))))))))))
   exact nx_round (j + 1) (by omega) (by omega) ⟨rfl, rfl, rfl, (some_int hst.1.symm), (some_int hst.2.symm), rfl, rfl, (some_int (by omega)), trivial⟩ (fun _ hm => hm.pick [0] [0] [0] rfl rfl)
  have hc : ¬ ((busyF (onT T) (S.take j)).1 < ((onT T x : Nat) : Int)) := by simpa using hh
  clear hh
  refine gw_skip (nx_blk_nrm (nx_then (gw_region ?_)))
  have hst := busyF_sty (f := onT T) hxS hc
  refine ad_ rfl rfl (mv_ rfl (wl_nil ?_))
  exact nx_round (j + 1) (by omega) (by omega) ⟨rfl, rfl, rfl, (some_int (by rw [hst])), (some_int (by rw [hst])), rfl, rfl, (some_int (by omega)), trivial⟩ (fun _ hm => hm.pick [0] [0] [0] rfl rfl)
 have hj : ¬ (((j : Nat) : Int) < (((k + 1) : Nat) : Int)) := by simpa using hh
 clear hh
 refine gw_exit ?_
 refine nx_then_exit (nx_then_exit ?_)
 refine nx_blk_here ?_
 refine nx_then (sr_ (mv_ rfl (mv_ rfl (sg_ rfl (sg_ rfl (nn_ ?_))))))
 refine gw_ret ?_
 have hall2 : S.take j = S := List.take_of_length_le (by omega)
 refine nx_ret2 rfl rfl rfl fun wx hm => ?_
 exact ⟨by rw [hall2], hm.g⟩
theorem checkE_eq (cs : List Cs) (l : List Bk) : checkE cs l = firstE [classesE cs, formE l, if l.any (fun b => noB cs b.cls) = true then 8 else 0] := by
  unfold checkE classedE
  by_cases h : classesE cs = 0
  · rw [h]
    by_cases h2 : formE l = 0
    · rw [if_neg (by simpa using h2), h2]; simp [firstE]
    · rw [if_pos h2]; simp [firstE, h2]
  · simp [firstE, h]
theorem bf1_any (cs : List Cs) (A0 : Option Addr) (n0 c0 : Nat) (gc : Nat) (w : World) (hcs : SlT csEnc 2 158 w A0 n0 cs) (hco : ∀ x ∈ cs, CsOk x) (hn0 : n0 ≤ 1000) (hgc : Blk w gc 58 [.slice A0 n0 c0]) :
  Calls Tryz.prog 147 #[.pointer (some ⟨gc, 0, none⟩)] w (GotE w (classesE cs)) := by
 refine gw_enter ⟨4, w, none, []⟩ Tryz.func147 rfl Tryz.ntmps147 rfl (mem0 (X := [SlOld csEnc 2 158 w.heap.size none A0 n0 cs, BlkOld w.heap.size none gc 58 [.slice A0 n0 c0]]) (allF_cons hcs.old (allF_cons hgc.old allF_nil)) (allL_cons SlOld.lasts (allL_cons BlkOld.lasts allL_nil))) ?_
 refine sr_ ?_
 obtain ⟨EE, hEE⟩ : ∃ E : Int, E = (classesE cs) := ⟨_, rfl⟩
 rw [← hEE]
 refine sg_ rfl (nn_ (sr_ ?_))
 refine wl_ov (ov_load (v := .slice A0 n0 c0) sc58 rfl (fun _ hm => (hm.fact 1 rfl).2) rfl) rfl ?_
 refine wl_callv (v := .int .i64 EE) rfl cb148 rfl rfl (fun wx hm => (by rw [hEE]; exact classesFault_any cs A0 n0 c0 wx (hm.fact 0 rfl).1 hco (by omega))) ?_
 refine sg_ rfl (nn_ ?_)
 refine gw_ret ?_
 refine nx_ret1 rfl rfl fun wx hm => ?_
 exact ⟨rfl, hm.g⟩
theorem bf2_any (l : List Bk) (A : Option Addr) (n c : Nat) (gb : Nat) (w : World) (hl : SlT bkEnc 6 92 w A n l) (hok : ∀ x ∈ l, BkOk x) (hn : n ≤ 1000) (hgb : Blk w gb 76 [.slice A n c]) :
  Calls Tryz.prog 149 #[.pointer (some ⟨gb, 0, none⟩)] w (GotE w (formE l)) := by
 refine gw_enter ⟨4, w, none, []⟩ Tryz.func149 rfl Tryz.ntmps149 rfl (mem0 (X := [SlOld bkEnc 6 92 w.heap.size none A n l, BlkOld w.heap.size none gb 76 [.slice A n c]]) (allF_cons hl.old (allF_cons hgb.old allF_nil)) (allL_cons SlOld.lasts (allL_cons BlkOld.lasts allL_nil))) ?_
 refine sr_ ?_
 obtain ⟨EE, hEE⟩ : ∃ E : Int, E = (formE l) := ⟨_, rfl⟩
 rw [← hEE]
 refine sg_ rfl (nn_ (sr_ ?_))
 refine wl_ov (ov_load (v := .slice A n c) sc76 rfl (fun _ hm => (hm.fact 1 rfl).2) rfl) rfl ?_
 refine wl_callv (v := .int .i64 EE) rfl cb137 rfl rfl (fun wx hm => (by rw [hEE]; exact bookingForm_any l A n c wx (hm.fact 0 rfl).1 hok (by omega))) ?_
 refine sg_ rfl (nn_ ?_)
 refine gw_ret ?_
 refine nx_ret1 rfl rfl fun wx hm => ?_
 exact ⟨rfl, hm.g⟩
theorem bf3_any (cs : List Cs) (A0 : Option Addr) (n0 c0 : Nat) (l : List Bk) (A : Option Addr) (n c : Nat) (gc gb : Nat) (w : World) (hcs : SlT csEnc 2 158 w A0 n0 cs) (hco : ∀ x ∈ cs, CsOk x) (hn0 : n0 ≤ 1000) (hl : SlT bkEnc 6 92 w A n l) (hok : ∀ x ∈ l, BkOk x) (hn : n ≤ 1000) (hgc : Blk w gc 58 [.slice A0 n0 c0]) (hgb : Blk w gb 76 [.slice A n c]) :
  Calls Tryz.prog 150 #[.pointer (some ⟨gc, 0, none⟩), .pointer (some ⟨gb, 0, none⟩)] w (GotE w (if l.any (fun b => noB cs b.cls) = true then 8 else 0)) := by
 refine gw_enter ⟨6, w, none, []⟩ Tryz.func150 rfl Tryz.ntmps150 rfl (mem0 (X := [SlOld csEnc 2 158 w.heap.size none A0 n0 cs, SlOld bkEnc 6 92 w.heap.size none A n l, BlkOld w.heap.size none gc 58 [.slice A0 n0 c0], BlkOld w.heap.size none gb 76 [.slice A n c]]) (allF_cons hcs.old (allF_cons hl.old (allF_cons hgc.old (allF_cons hgb.old allF_nil)))) (allL_cons SlOld.lasts (allL_cons SlOld.lasts (allL_cons BlkOld.lasts (allL_cons BlkOld.lasts allL_nil))))) ?_
 refine sr_ ?_
 obtain ⟨EE, hEE⟩ : ∃ E : Int, E = (if l.any (fun b => noB cs b.cls) = true then 8 else 0) := ⟨_, rfl⟩
 rw [← hEE]
 refine sg_ rfl (nn_ (sr_ ?_))
 refine wl_ov (ov_load (v := .slice A0 n0 c0) sc58 rfl (fun _ hm => (hm.fact 2 rfl).2) rfl) rfl ?_
 refine wl_ov (ov_load (v := .slice A n c) sc76 rfl (fun _ hm => (hm.fact 3 rfl).2) rfl) rfl ?_
 refine wl_callv (v := .int .i64 EE) rfl cb138 rfl rfl (fun wx hm => (by rw [hEE]; exact known_any cs A0 n0 c0 l A n c wx (hm.fact 0 rfl).1 hco hn0 (hm.fact 1 rfl).1 hok hn)) ?_
 refine sg_ rfl (nn_ ?_)
 refine gw_ret ?_
 refine nx_ret1 rfl rfl fun wx hm => ?_
 exact ⟨rfl, hm.g⟩
theorem bookingsFault_any (cs : List Cs) (A0 : Option Addr) (n0 c0 : Nat) (l : List Bk) (A : Option Addr) (n c : Nat) (w : World) (hcs : SlT csEnc 2 158 w A0 n0 cs) (hco : ∀ x ∈ cs, CsOk x) (hn0 : n0 ≤ 1000) (hl : SlT bkEnc 6 92 w A n l) (hok : ∀ x ∈ l, BkOk x) (hn : n ≤ 1000) :
  Calls Tryz.prog 51 #[.slice A0 n0 c0, .slice A n c] w (GotE w (checkE cs l)) := by
 refine gw_enter ⟨23, w, none, []⟩ Tryz.func51 rfl Tryz.ntmps51 rfl (mem0 (X := [SlOld csEnc 2 158 w.heap.size none A0 n0 cs, SlOld bkEnc 6 92 w.heap.size none A n l]) (allF_cons hcs.old (allF_cons hl.old allF_nil)) (allL_cons SlOld.lasts (allL_cons SlOld.lasts allL_nil))) ?_
 refine sr_ ?_
 rw [checkE_eq]
 obtain ⟨CE, hCE⟩ : ∃ E, E = classesE cs := ⟨_, rfl⟩
 obtain ⟨FE, hFE⟩ : ∃ E, E = formE l := ⟨_, rfl⟩
 obtain ⟨KE, hKE⟩ : ∃ E, E = (if l.any (fun b => noB cs b.cls) = true then (8 : Int) else 0) := ⟨_, rfl⟩
 rw [← hCE, ← hFE, ← hKE]
 refine wl_box rfl rfl rfl fun g1 => ?_
 refine wl_box rfl rfl rfl fun g2 => ?_
 refine sg_ rfl (nn_ (gw_seq (sr_ (wl_ov (ov_makeFunc rfl rfl) rfl (wl_ov (ov_makeFunc rfl rfl) rfl (wl_ov (ov_makeFunc rfl rfl) rfl ?_))))))
 refine wl_buildSlice (e := 84) (cs := [.func (.func 147) #[] #[.pointer (some ⟨g1, 0, none⟩)], .func (.func 149) #[] #[.pointer (some ⟨g2, 0, none⟩)], .func (.func 150) #[] #[.pointer (some ⟨g1, 0, none⟩), .pointer (some ⟨g2, 0, none⟩)]]) rfl (by kernel_rfl) rfl fun g3 => ?_
 refine wl_ov (ov_len es208 rfl) rfl ?_
 refine wl_set 12 (v' := .int .i64 3) rfl rfl ?_
 refine mv_ rfl (nn_ (gw_block ?_))
 refine gw_rounds 4 ?_
 refine gr_next ?_
 refine sr_ (wl_ov (ov_lss rfl rfl) rfl ?_)
 refine wl_set 14 (v' := .bool true) rfl (congrArg Value.bool (by decide)) ?_
 refine nn_ (gw_seq (ct_ rfl (gw_skip (nx_then (gw_seq (gw_block (sr_ ?_)))))))
 refine wl_ov (ov_index (j := 0) es208 rfl rfl (by decide)) rfl ?_
 refine lk_ sc84 0 rfl rfl rfl (sg_ rfl (nn_ (sr_ (mv_ rfl ?_))))
 refine wl_callv (v := .int .i64 CE) rfl cb147 rfl rfl (fun wx hm => (by rw [hCE]; exact bf1_any cs A0 n0 c0 _ wx (hm.fact 0 rfl).1 hco hn0 (hm.blkI 2 rfl))) ?_
 refine sg_ rfl (nn_ (sr_ (mv_ rfl (wl_ov (ov_neq rfl rfl) rfl (nn_ ?_)))))
 refine gw_cond rfl (fun hh => ?_) (fun hh => ?_)
 ·have h0 : ¬ (CE = 0) := by simpa using hh
  clear hh
  refine sr_ (mv_ rfl (sg_ rfl (nn_ ?_)))
  refine gw_ret ?_
  refine nx_blk_ret (nx_then_ret (nx_then_ret (nx_blk_ret (nx_then_ret ?_))))
  refine nx_ret1 rfl rfl fun wx hm => ?_
  exact ⟨ret_int (by simp [firstE, h0]), hm.g⟩
 have h0 : CE = 0 := by simpa using hh
 clear hh
 refine gw_skip (nx_blk_nrm (nx_then (gw_region (ad_ rfl rfl ?_))))
 refine wl_set 22 (v' := .int .i64 1) rfl rfl ?_
 refine mv_ rfl (wl_nil ?_)
 refine nx_next ?_
 refine gr_next ?_
 refine sr_ (wl_ov (ov_lss rfl rfl) rfl ?_)
 refine wl_set 14 (v' := .bool true) rfl (congrArg Value.bool (by decide)) ?_
 refine nn_ (gw_seq (ct_ rfl (gw_skip (nx_then (gw_seq (gw_block (sr_ ?_)))))))
 refine wl_ov (ov_index (j := 1) es208 rfl rfl (by decide)) rfl ?_
 refine lk_ sc84 0 rfl rfl rfl (sg_ rfl (nn_ (sr_ (mv_ rfl ?_))))
 refine wl_callv (v := .int .i64 FE) rfl cb149 rfl rfl (fun wx hm => (by rw [hFE]; exact bf2_any l A n c _ wx (hm.fact 1 rfl).1 hok hn (hm.blkI 1 rfl))) ?_
 refine sg_ rfl (nn_ (sr_ (mv_ rfl (wl_ov (ov_neq rfl rfl) rfl (nn_ ?_)))))
 refine gw_cond rfl (fun hh => ?_) (fun hh => ?_)
 ·have h1 : ¬ (FE = 0) := by simpa using hh
  clear hh
  refine sr_ (mv_ rfl (sg_ rfl (nn_ ?_)))
  refine gw_ret ?_
  refine nx_blk_ret (nx_then_ret (nx_then_ret (nx_blk_ret (nx_then_ret ?_))))
  refine nx_ret1 rfl rfl fun wx hm => ?_
  exact ⟨ret_int (by simp [firstE, h0, h1]), hm.g⟩
 have h1 : FE = 0 := by simpa using hh
 clear hh
 refine gw_skip (nx_blk_nrm (nx_then (gw_region (ad_ rfl rfl ?_))))
 refine wl_set 22 (v' := .int .i64 2) rfl rfl ?_
 refine mv_ rfl (wl_nil ?_)
 refine nx_next ?_
 refine gr_next ?_
 refine sr_ (wl_ov (ov_lss rfl rfl) rfl ?_)
 refine wl_set 14 (v' := .bool true) rfl (congrArg Value.bool (by decide)) ?_
 refine nn_ (gw_seq (ct_ rfl (gw_skip (nx_then (gw_seq (gw_block (sr_ ?_)))))))
 refine wl_ov (ov_index (j := 2) es208 rfl rfl (by decide)) rfl ?_
 refine lk_ sc84 0 rfl rfl rfl (sg_ rfl (nn_ (sr_ (mv_ rfl ?_))))
 refine wl_callv (v := .int .i64 KE) rfl cb150 rfl rfl (fun wx hm => (by rw [hKE]; exact bf3_any cs A0 n0 c0 l A n c _ _ wx (hm.fact 0 rfl).1 hco hn0 (hm.fact 1 rfl).1 hok hn (hm.blkI 2 rfl) (hm.blkI 1 rfl))) ?_
 refine sg_ rfl (nn_ (sr_ (mv_ rfl (wl_ov (ov_neq rfl rfl) rfl (nn_ ?_)))))
 refine gw_cond rfl (fun hh => ?_) (fun hh => ?_)
 ·have h2 : ¬ (KE = 0) := by simpa using hh
  clear hh
  refine sr_ (mv_ rfl (sg_ rfl (nn_ ?_)))
  refine gw_ret ?_
  refine nx_blk_ret (nx_then_ret (nx_then_ret (nx_blk_ret (nx_then_ret ?_))))
  refine nx_ret1 rfl rfl fun wx hm => ?_
  exact ⟨ret_int (by simp [firstE, h0, h1, h2]), hm.g⟩
 have h2 : KE = 0 := by simpa using hh
 clear hh
 refine gw_skip (nx_blk_nrm (nx_then (gw_region (ad_ rfl rfl ?_))))
 refine wl_set 22 (v' := .int .i64 3) rfl rfl ?_
 refine mv_ rfl (wl_nil ?_)
 refine nx_next ?_
 refine gr_next ?_
 refine sr_ (wl_ov (ov_lss rfl rfl) rfl ?_)
 refine wl_set 14 (v' := .bool false) rfl (congrArg Value.bool (by decide)) ?_
 refine nn_ (gw_seq (cf_ rfl ?_))
 refine gw_exit ?_
 refine nx_then_exit (nx_then_exit ?_)
 refine nx_blk_here ?_
 refine nx_then (sr_ (sg_ rfl (nn_ ?_)))
 refine gw_ret ?_
 refine nx_ret1 rfl rfl fun wx hm => ?_
 exact ⟨ret_int (by simp [firstE, h0, h1, h2]), hm.g⟩
end Go.Proofs.YtempjmpfdniecaaGreatDoor
namespace Go.Proofs.YtempjmpfdniecaaGreatDoor
open Go.RowKit
theorem sk_snoc {l : List Sk} {x : Sk} (h : ∀ y ∈ l, SkOk y) (hx : SkOk x) : ∀ y ∈ l ++ [x], SkOk y := fun y hy => by
  rcases List.mem_append.1 hy with hy | hy
  · exact h y hy
  · rw [List.mem_singleton.1 hy]; exact hx
theorem gstock_any (w : World) (B sb m : Nat) (hS : Strm 25 w B sb m) (hm : m ≤ 100000000) :
  Calls Tryz.prog 57 #[.pointer (some ⟨sb, 0, none⟩)] w (fun e w' => ∃ (A : Option Addr) (n c : Nat) (l : List Sk), e = .returned (.slice A n c) ∧ w'.ownsRow w.heap.size 211 2 (.slice A n c) n (l.flatMap skEnc) ∧ l.length = n ∧ (∀ x ∈ l, SkOk x) ∧ n ≤ 5 ∧ Strm 25 w' B sb (m + 100) ∧ w.grownBy w' (some sb)) := by
 refine gw_enter ⟨36, w, (some sb), []⟩ Tryz.func57 rfl Tryz.ntmps57 rfl (memS (X := []) hS allF_nil allL_nil) ?_
 refine sr_ ?_
 refine wl_nilOwn 211 2 ?_
 refine sg_ rfl (nn_ (sr_ (sg_ rfl (nn_ (gw_seq (sr_ ?_))))))
 refine wl_buildSlice (e := 9) (cs := [.string ⟨#[98, 105, 103]⟩, .string ⟨#[109, 97, 120, 105]⟩, .string ⟨#[109, 105, 100, 105]⟩, .string ⟨#[109, 105, 110, 105]⟩]) rfl (by kernel_rfl) rfl fun g1 => ?_
 refine wl_ov (ov_len es103 rfl) rfl ?_
 refine wl_set 7 (v' := .int .i64 4) rfl rfl ?_
 refine mv_ rfl (nn_ (gw_block ?_))
 refine gw_loop (γ := Nat × Nat × Value × List Sk × List Value) (fun g => g.1 ≤ 4 ∧ g.2.1 ≤ g.1 ∧ g.2.2.2.1.length = g.2.1 ∧ (∀ x ∈ g.2.2.2.1, SkOk x) ∧ g.2.2.2.2 = g.2.2.2.1.flatMap skEnc) (fun g => [(0, .pointer (some ⟨sb, 0, none⟩)), (2, .slice none 0 0), (3, g.2.2.1), (6, .slice (some ⟨g1, 0, none⟩) 4 4), (7, .int .i64 4), (8, .int .i64 ((g.1 : Nat) : Int))]) (fun g => fun w => Strm 25 w B sb (m + 2 * g.1)) (fun g => [(g1, 9, [.string ⟨#[98, 105, 103]⟩, .string ⟨#[109, 97, 120, 105]⟩, .string ⟨#[109, 105, 100, 105]⟩, .string ⟨#[109, 105, 110, 105]⟩])]) (fun g => [⟨g.2.2.1, 211, 2, g.2.1, g.2.2.2.2⟩]) (fun g => []) (fun g => 4 - g.1) (0, 0, .slice none 0 0, [], []) ⟨Nat.zero_le _, Nat.le_refl _, rfl, (fun _ h => by cases h), rfl⟩ ⟨rfl, rfl, rfl, rfl, rfl, rfl, trivial⟩ (fun _ hm => (hm.more rfl (by first | omega | (dsimp only; omega))).pick [0] [0] [] rfl rfl) ?_
 rintro ⟨i, k, v, l, xs⟩ hinv
 replace hinv : i ≤ 4 ∧ k ≤ i ∧ l.length = k ∧ (∀ x ∈ l, SkOk x) ∧ xs = l.flatMap skEnc := hinv
 dsimp only
 refine sr_ ?_
 obtain ⟨hi0, hki, hl, hok, rfl⟩ := hinv
 refine wl_ov (ov_lss rfl rfl) rfl (nn_ (gw_seq ?_))
 refine gw_cond rfl (fun hh => ?_) (fun hh => ?_)
 ·have hi : ((i : Nat) : Int) < 4 := by simpa using hh
  clear hh
  refine gw_skip (nx_then (gw_seq (gw_block (sr_ ?_))))
  obtain ⟨nm, hx⟩ : ∃ x, ([⟨#[98, 105, 103]⟩, ⟨#[109, 97, 120, 105]⟩, ⟨#[109, 105, 100, 105]⟩, ⟨#[109, 105, 110, 105]⟩] : List ByteArray)[i]? = some x := ⟨_, List.getElem?_eq_getElem (by simp; omega)⟩
  have hnm : nm.size ≤ 100 := mem_sz (List.mem_of_getElem? hx) (by decide)
  refine wl_ov (ov_index (j := i) es103 rfl rfl (by omega)) rfl ?_
  refine wl_ov (ov_elem1 (k := 0) (v := .string nm) sc9 rfl (fun _ hm => (SlT.ofBlk (l := [⟨#[98, 105, 103]⟩, ⟨#[109, 97, 120, 105]⟩, ⟨#[109, 105, 100, 105]⟩, ⟨#[109, 105, 110, 105]⟩]) sg_len (hm.blkI 0 rfl))) hx rfl rfl) rfl ?_
  refine sg_ rfl (nn_ (sr_ (mv_ rfl ?_)))
  refine wl_got (γ := Bool) (val := fun v => .bool v) (φ := fun v => True) rfl cb64 rfl rfl rfl rfl (fun wx hm => ((flip_any _ wx B sb _ hm.k (by omega) (by omega) (by omega)).mono fun _ _ ⟨v, he, hS, hg⟩ => ⟨v, trivial, he, hS, hg⟩)) fun f2 _ => ?_
  refine wl_ov (ov_un_not rfl) rfl (nn_ ?_)
  refine gw_cond rfl (fun hh => ?_) (fun hh => ?_)
  ·have hf : f2 = false := by simpa using hh
   clear hh
   refine gw_region (mv_ rfl (mv_ rfl (mv_ rfl ?_)))
   refine wl_buildSlice (e := 3) (cs := [.int .i64 0, .int .i64 1, .int .i64 1, .int .i64 2, .int .i64 3]) rfl (by kernel_rfl) rfl fun g3 => ?_
   refine wl_got (γ := Int) (val := fun v => .int .i64 v) (φ := fun v => v ∈ ([0, 1, 1, 2, 3] : List Int)) rfl cb11 rfl rfl rfl rfl (fun wx hm => (pick_any [0, 1, 1, 2, 3] _ _ _ wx B sb _ hm.k (by omega) (by simp) (by simp) (hm.blkI 0 rfl) (hm.neRow 0 rfl rfl))) fun v4 hv4 => ?_
   have bv4 : 0 ≤ v4 ∧ v4 ≤ 3 := mem_rng hv4 (by decide)
   have bv40 := bv4.1
   have bv41 := bv4.2
   clear bv4
   refine wl_ov (ov_build (cs := [.string nm, .int .i64 v4]) rfl (by kernel_rfl)) rfl ?_
   refine wl_buildSlice (e := 211) (cs := [.string nm, .int .i64 v4]) rfl (by kernel_rfl) rfl fun g5 => ?_
   refine wl_append (news := [.string nm, .int .i64 v4]) 0 0 ap75 rfl rfl rfl rfl rfl rfl rfl (by omega) (by unfold maxLen; omega) rfl rfl fun v2 hv2 => ?_
   refine sg_ rfl (wl_nil (nx_blk_nrm (nx_then (gw_region (ad_ rfl rfl (mv_ rfl (wl_nil ?_)))))))
   exact nx_round (i + 1, k + 1, v2, l ++ [⟨nm, v4⟩], l.flatMap skEnc ++ ([.string nm, .int .i64 v4] : List Value)) ⟨by dsimp only; omega, by dsimp only; omega, by simp [hl], sk_snoc hok ⟨by dsimp only; omega, by dsimp only; omega, by dsimp only; omega⟩, by simp [skEnc]⟩ (by dsimp only; omega) ⟨rfl, rfl, rfl, rfl, rfl, (some_int (by omega)), trivial⟩ (fun _ hm => (hm.more rfl (by first | omega | (dsimp only; omega))).pick [2] [0] [] rfl rfl)
  have hf : f2 = true := by simpa using hh
  clear hh
  refine gw_skip (nx_blk_nrm (nx_then (gw_region (ad_ rfl rfl (mv_ rfl (wl_nil ?_))))))
  exact nx_round (i + 1, k, v, l, l.flatMap skEnc) ⟨by dsimp only; omega, by dsimp only; omega, hl, hok, rfl⟩ (by dsimp only; omega) ⟨rfl, rfl, rfl, rfl, rfl, (some_int (by omega)), trivial⟩ (fun _ hm => (hm.more rfl (by first | omega | (dsimp only; omega))).pick [0] [0] [] rfl rfl)
 have hi : ¬ (((i : Nat) : Int) < 4) := by simpa using hh
 clear hh
 refine gw_exit ?_
 refine nx_then_exit (nx_then_exit ?_)
 refine nx_blk_here ?_
 refine nx_then (gw_seq (sr_ (mv_ rfl ?_)))
 refine wl_got (γ := Bool) (val := fun v => .bool v) (φ := fun v => True) rfl cb64 rfl rfl rfl rfl (fun wx hm => ((flip_any _ wx B sb _ hm.k (by omega) (by omega) (by omega)).mono fun _ _ ⟨v, he, hS, hg⟩ => ⟨v, trivial, he, hS, hg⟩)) fun f6 _ => ?_
 refine nn_ ?_
 refine gw_cond rfl (fun hh => ?_) (fun hh => ?_)
 ·have hf : f6 = true := by simpa using hh
  clear hh
  refine gw_region (mv_ rfl (mv_ rfl ?_))
  refine wl_buildSlice (e := 9) (cs := [.string ⟨#[109, 105, 110, 105]⟩, .string ⟨#[110, 111, 110, 101]⟩, .string ⟨#[98, 105, 103]⟩]) rfl (by kernel_rfl) rfl fun g7 => ?_
  refine wl_got (γ := ByteArray) (val := fun v => .string v) (φ := fun v => v ∈ ([⟨#[109, 105, 110, 105]⟩, ⟨#[110, 111, 110, 101]⟩, ⟨#[98, 105, 103]⟩] : List ByteArray)) rfl cb49 rfl rfl rfl rfl (fun wx hm => (some_any [⟨#[109, 105, 110, 105]⟩, ⟨#[110, 111, 110, 101]⟩, ⟨#[98, 105, 103]⟩] _ _ _ wx B sb _ hm.k (by omega) (by simp) (by simp) (hm.blkI 0 rfl) (hm.neRow 0 rfl rfl))) fun s8 hs8 => ?_
  have zs8 : s8.size ≤ 100 := mem_sz hs8 (by decide)
  refine mv_ rfl ?_
  refine wl_got (γ := Int) (val := fun v => .int .i64 v) (φ := fun v => -2000000000000000 ≤ v ∧ v ≤ 2000000000000000) rfl cb88 rfl rfl rfl rfl (fun wx hm => (odd_any _ _ wx B sb _ hm.k (by omega) (by omega) (by omega) (by omega))) fun v9 hv9 => ?_
  refine wl_ov (ov_build (cs := [.string s8, .int .i64 v9]) rfl (by kernel_rfl)) rfl ?_
  refine wl_buildSlice (e := 211) (cs := [.string s8, .int .i64 v9]) rfl (by kernel_rfl) rfl fun g10 => ?_
  refine wl_append (news := [.string s8, .int .i64 v9]) 0 0 ap75 rfl rfl rfl rfl rfl rfl rfl (by omega) (by unfold maxLen; omega) rfl rfl fun v2 hv2 => ?_
  refine wl_look (R := ∃ A cc, v2 = .slice A (k + 1) cc) (fun wx hm => own_slice (hm.ownI 0 rfl)) ?_
  rintro ⟨A, c, rfl⟩
  refine sg_ rfl (nn_ (sr_ (mv_ rfl (sg_ rfl (nn_ ?_)))))
  refine gw_ret ?_
  refine nx_ret1 rfl rfl fun wx hm => ?_
  exact ⟨A, k + 1, c, l ++ [⟨s8, v9⟩], rfl, by have h := hm.ownI 0 rfl; simpa [skEnc] using h, by simp [hl], sk_snoc hok ⟨by dsimp only; omega, by dsimp only; omega, by dsimp only; omega⟩, by omega, hm.k.more (by omega), hm.g⟩
 have hf : f6 = false := by simpa using hh
 clear hh
 refine gw_skip (nx_then (sr_ ?_))
 refine wl_look (R := ∃ A cc, v = .slice A k cc) (fun wx hm => own_slice (hm.ownI 0 rfl)) ?_
 rintro ⟨A, c, rfl⟩
 refine mv_ rfl (sg_ rfl (nn_ ?_))
 refine gw_ret ?_
 refine nx_ret1 rfl rfl fun wx hm => ?_
 exact ⟨A, k, c, l, rfl, by have h := hm.ownI 0 rfl; simpa [skEnc] using h, hl, hok, by omega, hm.k.more (by omega), hm.g⟩
end Go.Proofs.YtempjmpfdniecaaGreatDoor
namespace Go.Proofs.YtempjmpfdniecaaGreatDoor
open Go.RowKit
def kyP (k : ByteArray) (x : Bk) : Bool := x.key.toList == k.toList
/-- There is a booking with a key. -/
def hasB (l : List Bk) (k : ByteArray) : Bool := decide (0 ≤ ixP (kyP k) l 0)
/-- The error of a booking that is to be added. -/
def newE (cs : List Cs) (l : List Bk) (b : Bk) : Int := firstE [classedE cs [b], whenE (hasB l b.key) 6, whenE (decide (7 ≤ ((l.length : Nat) : Int))) 2]
theorem oneB_ok {b : Bk} (h : BkOk b) : ∀ x ∈ [b], BkOk x := fun x hx => by rw [List.mem_singleton.1 hx]; exact h
theorem pred_hasKey_1_book (y0 : ByteArray) (y1 : ByteArray) (y2 : Int) (y3 : Int) (y4 : Int) (y5 : Int) (gk : Nat) (k : ByteArray) (w : World) (hk : Blk w gk 9 [.string k]) :
  Calls Tryz.prog 233 #[.agg #[.string y0, .string y1, .int .i64 y2, .int .i64 y3, .int .i64 y4, .int .i64 y5], .pointer (some ⟨gk, 0, none⟩)] w (fun e w' => e = .returned (.bool (kyP k ⟨y0, y1, y2, y3, y4, y5⟩)) ∧ w.grownBy w' none) := by
 refine gw_enter ⟨8, w, none, []⟩ Tryz.func233 rfl Tryz.ntmps233 rfl (mem0 (X := [BlkOld w.heap.size none gk 9 [.string k]]) (allF_cons hk.old allF_nil) (allL_cons BlkOld.lasts allL_nil)) ?_
 refine sr_ ?_
 refine wl_box rfl rfl rfl fun g1 => ?_
 refine sg_ rfl (nn_ (sr_ (fd_ fo92_0 rfl rfl (lk_ sc9 0 rfl rfl rfl ?_))))
 refine wl_ov (ov_load (v := .string k) sc9 rfl (fun _ hm => (hm.fact 0 rfl).2) rfl) rfl ?_
 refine wl_ov (ov_seql rfl rfl) rfl (sg_ rfl (nn_ ?_))
 refine gw_ret ?_
 refine nx_ret1 rfl rfl fun wx hm => ?_
 exact ⟨rfl, hm.g⟩
theorem index_hasKey_1_book (l : List Bk) (A : Option Addr) (n c0 : Nat) (gk : Nat) (k : ByteArray) (w : World) (hl : SlT bkEnc 6 92 w A n l) (hn : n ≤ 1000000) (hk : Blk w gk 9 [.string k]) :
  Calls Tryz.prog 151 #[.slice A n c0, .func (.func 233) #[] #[.pointer (some ⟨gk, 0, none⟩)]] w (GotE w (ixP (kyP k) l 0)) := by
 refine gw_enter ⟨19, w, none, []⟩ Tryz.func151 rfl Tryz.ntmps151 rfl (mem0 (X := [SlOld bkEnc 6 92 w.heap.size none A n l, BlkOld w.heap.size none gk 9 [.string k]]) (allF_cons hl.old (allF_cons hk.old allF_nil)) (allL_cons SlOld.lasts (allL_cons BlkOld.lasts allL_nil))) ?_
 refine sr_ ?_
 have hlen := hl.len
 refine sg_ rfl (nn_ (gw_seq (sr_ (mv_ rfl (wl_ov (ov_len es76 rfl) rfl (mv_ rfl (nn_ (gw_block ?_))))))))
 refine gw_loop (γ := Nat) (fun (i : Nat) => i ≤ n ∧ ixP (kyP k) l 0 = ixP (kyP k) (l.drop i) i) (fun (i : Nat) => [(0, .slice A n c0), (1, .func (.func 233) #[] #[.pointer (some ⟨gk, 0, none⟩)]), (7, .int .i64 ((n : Nat) : Int)), (8, .int .i64 ((i : Nat) : Int))]) (fun (i : Nat) => fun _ => True) (fun (i : Nat) => []) (fun (i : Nat) => []) (fun (i : Nat) => [SlOld bkEnc 6 92 w.heap.size none A n l, BlkOld w.heap.size none gk 9 [.string k]]) (fun (i : Nat) => n - i) 0 ⟨Nat.zero_le _, rfl⟩ ⟨rfl, rfl, rfl, rfl, trivial⟩ (fun _ hm => hm.pick [] [] [0, 1] rfl rfl) ?_
 intro i hinv
 replace hinv : i ≤ n ∧ ixP (kyP k) l 0 = ixP (kyP k) (l.drop i) i := hinv
 refine sr_ (wl_ov (ov_lss rfl rfl) rfl (nn_ (gw_seq ?_)))
 refine gw_cond rfl (fun hh => ?_) (fun hh => ?_)
 ·have hi : ((i : Nat) : Int) < ((n : Nat) : Int) := by simpa using hh
  clear hh
  refine gw_skip (nx_then (gw_seq (gw_block (sr_ ?_))))
  obtain ⟨b, off, hA, _, _⟩ := hl.get (by omega)
  subst hA
  obtain ⟨x, hx⟩ : ∃ x, l[i]? = some x := ⟨_, List.getElem?_eq_getElem (by omega)⟩
  obtain ⟨y0, y1, y2, y3, y4, y5⟩ := x
  have hat := ixP_at (p := kyP k) hx
  refine mv_ rfl (sg_ rfl (nn_ (sr_ (mv_ rfl (mv_ rfl (mv_ rfl ?_))))))
  refine wl_ov (ov_index (j := i) es76 rfl rfl (by omega)) rfl ?_
  refine wl_ov (ov_elem (vs := [.string y0, .string y1, .int .i64 y2, .int .i64 y3, .int .i64 y4, .int .i64 y5]) rz92 rfl (fun _ hm => (hm.fact 0 rfl).1) hx rfl rfl) rfl ?_
  refine wl_callv rfl cb233 rfl rfl (fun wx hm => (pred_hasKey_1_book y0 y1 y2 y3 y4 y5 gk k wx (hm.fact 1 rfl).2)) ?_
  refine nn_ ?_
  refine gw_cond rfl (fun hh => ?_) (fun hh => ?_)
  ·have hq : (kyP k ⟨y0, y1, y2, y3, y4, y5⟩) = true := by simpa using hh
   clear hh
   refine sr_ (mv_ rfl (sg_ rfl (nn_ ?_)))
   refine gw_ret ?_
   refine nx_blk_ret (nx_then_ret (nx_then_ret (nx_blk_ret (nx_then_ret ?_))))
   refine nx_ret1 rfl rfl fun wx hm => ?_
   exact ⟨ret_int (by rw [hinv.2, hat, if_pos hq]), hm.g⟩
  have hq : (kyP k ⟨y0, y1, y2, y3, y4, y5⟩) = false := by simpa using hh
  clear hh
  refine gw_skip (nx_blk_nrm (nx_then (gw_region (ad_ rfl rfl (mv_ rfl (wl_nil ?_))))))
  exact nx_round (i + 1) ⟨by omega, by rw [hinv.2, hat, if_neg (by rw [hq]; decide)]⟩ (by omega) ⟨rfl, rfl, rfl, (some_int (by omega)), trivial⟩ (fun _ hm => hm.pick [] [] [0, 1] rfl rfl)
 have hi : ¬ (((i : Nat) : Int) < ((n : Nat) : Int)) := by simpa using hh
 clear hh
 refine gw_exit ?_
 refine nx_then_exit (nx_then_exit ?_)
 refine nx_blk_here ?_
 refine nx_then (sr_ (sg_ rfl ?_))
 refine wl_set 4 (v' := .int .i64 (-1)) rfl rfl ?_
 refine nn_ ?_
 refine gw_ret ?_
 refine nx_ret1 rfl rfl fun wx hm => ?_
 exact ⟨ret_int (by rw [hinv.2, List.drop_eq_nil_of_le (by omega)]; rfl), hm.g⟩
theorem hasK_any (l : List Bk) (A : Option Addr) (n c0 : Nat) (gk : Nat) (k : ByteArray) (w : World) (hl : SlT bkEnc 6 92 w A n l) (hn : n ≤ 1000000) (hk : Blk w gk 9 [.string k]) :
  Calls Tryz.prog 52 #[.slice A n c0, .func (.func 233) #[] #[.pointer (some ⟨gk, 0, none⟩)]] w (fun e w' => e = .returned (.bool (hasB l k)) ∧ w.grownBy w' none) := by
 refine gw_enter ⟨9, w, none, []⟩ Tryz.func52 rfl Tryz.ntmps52 rfl (mem0 (X := [SlOld bkEnc 6 92 w.heap.size none A n l, BlkOld w.heap.size none gk 9 [.string k]]) (allF_cons hl.old (allF_cons hk.old allF_nil)) (allL_cons SlOld.lasts (allL_cons BlkOld.lasts allL_nil))) ?_
 refine sr_ (sg_ rfl (nn_ (sr_ (mv_ rfl (mv_ rfl ?_)))))
 refine wl_callv rfl cb151 rfl rfl (fun wx hm => (index_hasKey_1_book l A n c0 gk k wx (hm.fact 0 rfl).1 hn (hm.fact 1 rfl).2)) ?_
 refine wl_ov (ov_geq rfl rfl) rfl ?_
 refine sg_ rfl (nn_ ?_)
 refine gw_ret ?_
 refine nx_ret1 rfl rfl fun wx hm => ?_
 exact ⟨rfl, hm.g⟩
theorem hasKey_any (l : List Bk) (A : Option Addr) (n c : Nat) (k : ByteArray) (w : World) (hl : SlT bkEnc 6 92 w A n l) (hn : n ≤ 1000) :
  Calls Tryz.prog 143 #[.slice A n c, .string k] w (fun e w' => e = .returned (.bool (hasB l k)) ∧ w.grownBy w' none) := by
 refine gw_enter ⟨8, w, none, []⟩ Tryz.func143 rfl Tryz.ntmps143 rfl (mem0 (X := [SlOld bkEnc 6 92 w.heap.size none A n l]) (allF_cons hl.old allF_nil) (allL_cons SlOld.lasts allL_nil)) ?_
 refine sr_ ?_
 refine wl_box rfl rfl rfl fun g1 => ?_
 refine sg_ rfl (nn_ (sr_ (mv_ rfl (wl_ov (ov_makeFunc rfl rfl) rfl ?_))))
 refine wl_callv rfl cb52 rfl rfl (fun wx hm => (hasK_any l A n c _ k wx (hm.fact 0 rfl).1 (by omega) (hm.blkI 0 rfl))) ?_
 refine sg_ rfl (nn_ ?_)
 refine gw_ret ?_
 refine nx_ret1 rfl rfl fun wx hm => ?_
 exact ⟨rfl, hm.g⟩
theorem checkNew_any (cs : List Cs) (A0 : Option Addr) (n0 c0 : Nat) (sl : List Sk) (A1 : Option Addr) (n1 c1 : Nat) (l : List Bk) (A : Option Addr) (n c : Nat) (x0 x1 : ByteArray) (x2 x3 x4 x5 : Int) (w : World) (hcs : SlT csEnc 2 158 w A0 n0 cs) (hco : ∀ x ∈ cs, CsOk x) (hn0 : n0 ≤ 1000) (hs : SlT skEnc 2 211 w A1 n1 sl) (hso : ∀ x ∈ sl, SkOk x) (hn1 : n1 ≤ 1000) (hl : SlT bkEnc 6 92 w A n l) (hok : ∀ x ∈ l, BkOk x) (hn : n ≤ 1000) (hbo : BkOk (⟨x0, x1, x2, x3, x4, x5⟩ : Bk)) :
  Calls Tryz.prog 133 #[.slice A0 n0 c0, .slice A1 n1 c1, .slice A n c, .agg #[.string x0, .string x1, .int .i64 x2, .int .i64 x3, .int .i64 x4, .int .i64 x5]] w (GotE w (if firstE [stockE cs sl, checkE cs l] = 0 then newE cs l (⟨x0, x1, x2, x3, x4, x5⟩ : Bk) else firstE [stockE cs sl, checkE cs l])) := by
 refine gw_enter ⟨32, w, none, []⟩ Tryz.func133 rfl Tryz.ntmps133 rfl (mem0 (X := [SlOld csEnc 2 158 w.heap.size none A0 n0 cs, SlOld skEnc 2 211 w.heap.size none A1 n1 sl, SlOld bkEnc 6 92 w.heap.size none A n l]) (allF_cons hcs.old (allF_cons hs.old (allF_cons hl.old allF_nil))) (allL_cons SlOld.lasts (allL_cons SlOld.lasts (allL_cons SlOld.lasts allL_nil)))) ?_
 refine sr_ ?_
 have hlen := hl.len
 obtain ⟨E1, hE1⟩ : ∃ z, z = firstE [stockE cs sl, checkE cs l] := ⟨_, rfl⟩
 obtain ⟨CE, hCE⟩ : ∃ z, z = classedE cs [(⟨x0, x1, x2, x3, x4, x5⟩ : Bk)] := ⟨_, rfl⟩
 obtain ⟨HB, hHB⟩ : ∃ z, z = hasB l x0 := ⟨_, rfl⟩
 have hnew : newE cs l (⟨x0, x1, x2, x3, x4, x5⟩ : Bk) = firstE [CE, whenE HB 6, whenE (decide (7 ≤ ((n : Nat) : Int))) 2] := by rw [hCE, hHB, ← hlen]; rfl
 rw [← hE1, hnew]
 refine wl_box rfl rfl rfl fun g1 => ?_
 refine sg_ rfl (nn_ (gw_seq (sr_ (mv_ rfl (mv_ rfl (mv_ rfl ?_))))))
 refine wl_callv (v := .int .i64 E1) rfl cb124 rfl rfl (fun wx hm => (by rw [hE1]; exact checkAll_any cs A0 n0 c0 sl A1 n1 c1 l A n c wx (hm.fact 0 rfl).1 hco hn0 (hm.fact 1 rfl).1 hso hn1 (hm.fact 2 rfl).1 hok hn)) ?_
 refine sg_ rfl (nn_ (sr_ (mv_ rfl (wl_ov (ov_neq rfl rfl) rfl (nn_ ?_)))))
 refine gw_cond rfl (fun hh => ?_) (fun hh => ?_)
 ·have h1 : ¬ (E1 = 0) := by simpa using hh
  clear hh
  refine sr_ (mv_ rfl (sg_ rfl (nn_ ?_)))
  refine gw_ret ?_
  refine nx_then_ret ?_
  refine nx_ret1 rfl rfl fun wx hm => ?_
  exact ⟨ret_int (by rw [if_neg (by simpa using h1)]), hm.g⟩
 have h1 : E1 = 0 := by simpa using hh
 clear hh
 refine gw_skip (nx_then (gw_seq ?_))
 have h1 : E1 = 0 := by simpa using h1
 refine gd (fun wz => Blk wz g1 92 [.string x0, .string x1, .int .i64 x2, .int .i64 x3, .int .i64 x4, .int .i64 x5] ∧ (SlOld csEnc 2 158 w.heap.size none A0 n0 cs) wz ∧ (SlOld skEnc 2 211 w.heap.size none A1 n1 sl) wz ∧ (SlOld bkEnc 6 92 w.heap.size none A n l) wz ∧ True) mixed (fun _ hm => ⟨hm.bl 0, hm.fa 0, hm.fa 1, hm.fa 2, trivial⟩) fun z => ?_
 refine wt 0 16 1 rfl z (ov_move rfl) ?_
 refine wt 1 16 3 rfl z (ov_loads rz92 rfl (fun _ hm => hm.1) rfl rfl) ?_
 refine wt 4 16 19 rfl z (ov_move rfl) ?_
 refine wt 5 16 51 rfl z (ov_field fo92_0 rfl rfl) ?_
 refine wt 6 16 115 rfl z (ov_load sc9 rfl (fun _ hm => hm.1) rfl) ?_
 refine wt 9 16 627 rfl z (ov_move rfl) ?_
 refine wt 10 16 1651 rfl z (ov_len es76 rfl) ?_
 refine wt 11 16 3699 rfl z (ov_geq rfl rfl) ?_
 refine wa1 2 rfl ?_
 refine wl_buildSlice (e := 92) (cs := [.string x0, .string x1, .int .i64 x2, .int .i64 x3, .int .i64 x4, .int .i64 x5]) rfl (by kernel_rfl) rfl fun g2 => ?_
 refine wl_nil ?_
 refine nw 16 3703 (fun _ hm => ⟨hm.bl 1, hm.fa 0, hm.fa 1, hm.fa 2, trivial⟩) fun z => ?_
 refine wa1 3 rfl ?_
 refine wl_callv (v := .int .i64 CE) rfl cb226 rfl rfl (fun wx hm => (by rw [hCE]; exact classed_any cs A0 n0 c0 [(⟨x0, x1, x2, x3, x4, x5⟩ : Bk)] _ 1 1 wx (hm.fact 0 rfl).1 hco hn0 (SlT.ofBlk (l := [(⟨x0, x1, x2, x3, x4, x5⟩ : Bk)]) bk_len (hm.blkI 0 rfl)) (oneB_ok hbo) (by omega))) ?_
 refine wl_nil ?_
 refine nw 16 3711 (fun _ hm => ⟨hm.bl 1, hm.fa 0, hm.fa 1, hm.fa 2, trivial⟩) fun z => ?_
 refine wa1 7 rfl ?_
 refine wl_callv (v := .bool HB) rfl cb143 rfl rfl (fun wx hm => (by rw [hHB]; exact hasKey_any l A n c x0 wx (hm.fact 2 rfl).1 hn)) ?_
 refine wl_nil ?_
 refine nw 16 3839 (fun _ hm => ⟨hm.bl 1, hm.fa 0, hm.fa 1, hm.fa 2, trivial⟩) fun z => ?_
 refine wa1 8 rfl ?_
 refine wl_callw rfl cb68 rfl rfl (fun wx hm => (when_any _ _ wx)) ?_
 refine wl_nil ?_
 refine nw 16 4095 (fun _ hm => ⟨hm.bl 1, hm.fa 0, hm.fa 1, hm.fa 2, trivial⟩) fun z => ?_
 refine wa1 12 rfl ?_
 refine wl_callw rfl cb68 rfl rfl (fun wx hm => (when_any _ _ wx)) ?_
 refine wl_nil ?_
 refine nw 16 8191 (fun _ hm => ⟨hm.bl 1, hm.fa 0, hm.fa 1, hm.fa 2, trivial⟩) fun z => ?_
 refine wa1 13 rfl ?_
 refine wl_buildSlice (e := 33) (cs := [.int .i64 CE, .int .i64 (whenE HB 6), .int .i64 (whenE (decide (7 ≤ ((n : Nat) : Int))) 2)]) rfl (by kernel_rfl) rfl fun g3 => ?_
 refine wl_nil ?_
 refine nw 16 16383 (fun _ hm => ⟨hm.bl 2, hm.fa 0, hm.fa 1, hm.fa 2, trivial⟩) fun z => ?_
 refine wa1 14 rfl ?_
 refine wl_callw rfl cb67 rfl rfl (fun wx hm => (first_any [CE, whenE HB 6, whenE (decide (7 ≤ ((n : Nat) : Int))) 2] _ _ _ wx (hm.blkI 0 rfl) (by simp))) ?_
 refine wl_nil ?_
 refine nw 16 32767 (fun _ hm => ⟨hm.bl 2, hm.fa 0, hm.fa 1, hm.fa 2, trivial⟩) fun z => ?_
 refine wt 15 16 65535 rfl z (ov_assign rfl) ?_
 refine wa_done (by kernel_rfl) ?_
 refine nx_then ?_
 refine gw_ret ?_
 refine nx_ret1 rfl rfl fun wx hm => ?_
 exact ⟨ret_int (by rw [if_pos h1]), hm.g⟩
end Go.Proofs.YtempjmpfdniecaaGreatDoor
namespace Go.Proofs.YtempjmpfdniecaaGreatDoor
abbrev Wn := Int × Int
/-- Two windows have a moment in common. -/
def mtW (a b : Wn) : Bool := decide (a.1 < b.2) && decide (b.1 < a.2)
def onW (t : Int) (a : Wn) : Bool := decide (a.1 ≤ t) && decide (t < a.2)
theorem mtW_symm {a b : Wn} (h : mtW a b = true) : mtW b a = true := by
  unfold mtW at h ⊢
  simp only [Bool.and_eq_true, decide_eq_true_eq] at h ⊢
  omega
theorem free_unit : ∀ (m : Nat) (l : List Nat), l.length < m → ∃ c, 1 ≤ c ∧ c ≤ m ∧ c ∉ l
  | 0, _, h => absurd h (Nat.not_lt_zero _)
  | m + 1, l, h => by
    by_cases hm : m + 1 ∈ l
    · obtain ⟨a, b, rfl⟩ := List.append_of_mem hm
      obtain ⟨c, h1, h2, h3⟩ := free_unit m ((a ++ b).filter fun x => decide (x ≠ m + 1)) (by
        have := List.length_filter_le (fun x => decide (x ≠ m + 1)) (a ++ b)
        simp at h this ⊢
        omega)
      refine ⟨c, h1, by omega, fun hc => h3 ?_⟩
      rw [List.mem_filter]
      refine ⟨?_, by simp; omega⟩
      rcases List.mem_append.1 hc with hc | hc
      · exact List.mem_append.2 (.inl hc)
      · rcases List.mem_cons.1 hc with hc | hc
        · omega
        · exact List.mem_append.2 (.inr hc)
    · exact ⟨m + 1, by omega, Nat.le_refl _, hm⟩
end Go.Proofs.YtempjmpfdniecaaGreatDoor
namespace Go.Proofs.YtempjmpfdniecaaGreatDoor
section
variable {α : Type}
/-- A class, the steps to it, how many vehicles it has. -/
abbrev CdW (α : Type) := α × Nat × Nat
def ApartC (p q : (α × Wn) × Nat) : Prop := p.1.1 = q.1.1 → mtW p.1.2 q.1.2 = true → p.2 ≠ q.2
theorem apartC_symm {p q : (α × Wn) × Nat} (h : ApartC p q) : ApartC q p := fun h0 h1 e => h h0.symm (mtW_symm h1) e.symm
theorem max_startC : ∀ (l : List (α × Wn)), l ≠ [] → ∃ a x b, l = a ++ x :: b ∧ ∀ y ∈ l, y.2.1 ≤ x.2.1
  | [], h => absurd rfl h
  | [x], _ => ⟨[], x, [], rfl, by simp⟩
  | z :: y :: r, _ => by
    obtain ⟨a, x, b, h1, h2⟩ := max_startC (y :: r) (by simp)
    by_cases h : x.2.1 ≤ z.2.1
    · refine ⟨[], z, y :: r, rfl, fun q hq => ?_⟩
      rcases List.mem_cons.1 hq with rfl | hq
      · exact Int.le_refl _
      · exact Int.le_trans (h2 q hq) h
    · refine ⟨z :: a, x, b, by rw [h1]; rfl, fun q hq => ?_⟩
      rcases List.mem_cons.1 hq with rfl | hq
      · omega
      · exact h2 q hq
variable [DecidableEq α]
def onC (c : α) (t : Int) (p : α × Wn) : Bool := decide (p.1 = c) && onW t p.2
/-- No class is wanted by more at one moment than it has. -/
def CapC (cap : α → Nat) (I : List (α × Wn)) : Prop := ∀ c t, I.countP (onC c t) ≤ cap c
theorem colorC {cap : α → Nat} : ∀ (n : Nat) (I : List (α × Wn)), I.length = n → (∀ p ∈ I, p.2.1 < p.2.2) → CapC cap I → ∃ P : List ((α × Wn) × Nat), P.map Prod.fst = I ∧ (∀ p ∈ P, 1 ≤ p.2 ∧ p.2 ≤ cap p.1.1) ∧ P.Pairwise ApartC
  | 0, I, hn, _, _ => by
    obtain rfl := List.length_eq_zero_iff.1 hn
    exact ⟨[], rfl, by simp, List.Pairwise.nil⟩
  | n + 1, I, hn, hw, hc => by
    obtain ⟨a, x, b, rfl, hx⟩ := max_startC I (fun e => by rw [e] at hn; cases hn)
    have hsub : ∀ w, w ∈ a ++ b → w ∈ a ++ x :: b := fun w hm => by
      rcases List.mem_append.1 hm with hm | hm
      · exact List.mem_append.2 (.inl hm)
      · exact List.mem_append.2 (.inr (List.mem_cons_of_mem _ hm))
    obtain ⟨P, h1, h2, h3⟩ := colorC (cap := cap) n (a ++ b) (by simp at hn ⊢; omega) (fun w hm => hw w (hsub w hm)) (fun c t => by
      have h := hc c t
      rw [List.countP_append, List.countP_cons] at h
      rw [List.countP_append]; omega)
    have hxx := hw x (by simp)
    have hcnt : (P.filter fun p => decide (p.1.1 = x.1) && mtW x.2 p.1.2).length < cap x.1 := by
      have e1 : (P.filter fun p => decide (p.1.1 = x.1) && mtW x.2 p.1.2).length ≤ P.countP (fun p => onC x.1 x.2.1 p.1) := by
        rw [← List.countP_eq_length_filter]
        refine List.countP_mono_left fun p hp hm => ?_
        have hp2 : p.1 ∈ a ++ b := by rw [← h1]; exact List.mem_map.2 ⟨p, hp, rfl⟩
        have h4 := hx p.1 (hsub _ hp2)
        rw [Bool.and_eq_true] at hm
        have hm2 := hm.2
        unfold mtW at hm2
        simp only [Bool.and_eq_true, decide_eq_true_eq] at hm2
        unfold onC onW
        rw [hm.1]
        simp only [Bool.and_eq_true, decide_eq_true_eq, Bool.true_and]
        omega
      have e2 : P.countP (fun p => onC x.1 x.2.1 p.1) = (a ++ b).countP (onC x.1 x.2.1) := by
        rw [← h1, List.countP_map]; rfl
      have h5 := hc x.1 x.2.1
      have h6 : onC x.1 x.2.1 x = true := by
        unfold onC onW
        simp only [Bool.and_eq_true, decide_eq_true_eq]
        exact ⟨trivial, by omega⟩
      rw [List.countP_append, List.countP_cons, if_pos h6] at h5
      rw [List.countP_append] at e2
      omega
    obtain ⟨c, c1, c2, c3⟩ := free_unit (cap x.1) ((P.filter fun p => decide (p.1.1 = x.1) && mtW x.2 p.1.2).map Prod.snd) (by rw [List.length_map]; exact hcnt)
    have ha : (P.take a.length).map Prod.fst = a := by rw [List.map_take, h1, List.take_left]
    have hb : (P.drop a.length).map Prod.fst = b := by rw [List.map_drop, h1, List.drop_left]
    refine ⟨P.take a.length ++ (x, c) :: P.drop a.length, by rw [List.map_append, List.map_cons, ha, hb], fun p hp => ?_, ?_⟩
    · rcases List.mem_append.1 hp with hp | hp
      · exact h2 p (List.mem_of_mem_take hp)
      · rcases List.mem_cons.1 hp with rfl | hp
        · exact ⟨c1, c2⟩
        · exact h2 p (List.mem_of_mem_drop hp)
    · rw [List.pairwise_middle (fun h => apartC_symm h), List.take_append_drop, List.pairwise_cons]
      refine ⟨fun p hp hk hm e => c3 ?_, h3⟩
      exact List.mem_map.2 ⟨p, List.mem_filter.2 ⟨hp, by rw [hm, Bool.and_true, decide_eq_true_eq]; exact hk.symm⟩, e.symm⟩
/-- A vehicle is with an earlier booking that is on with this one. -/
def tknW (ws : List Wn) (st : List (α × Nat)) (x : Wn) (c : α) (u : Nat) : Bool := (st.zip ws).any fun p => decide (p.1 = (c, u)) && mtW p.2 x
/-- The highest unit of a class that is given. -/
def higW (st : List (α × Nat)) (c : α) : Nat := st.foldl (fun h p => if p.1 = c then max h p.2 else h) 0
def nxtW (ws : List Wn) (st : List (α × Nat)) (x : Wn) (cs : List (CdW α)) : List (α × Nat × Nat) := cs.flatMap fun k => ((List.range' 1 (min (higW st k.1 + 1) k.2.2)).filter fun u => !tknW ws st x k.1 u).map fun u => (k.1, k.2.1, u)
/-- All ends of the search, in order, with their steps. -/
def solsW (ws : List Wn) : List (List (CdW α)) → List (α × Nat) → List (List (α × Nat) × Nat)
  | [], st => [(st, 0)]
  | cs :: r, st => (nxtW ws st (ws.getD st.length (0, 0)) cs).flatMap fun k => (solsW ws r (st ++ [(k.1, k.2.2)])).map fun o => (o.1, k.2.1 + o.2)
theorem hig_snoc (st : List (α × Nat)) (c' : α) (u : Nat) (c : α) : higW (st ++ [(c', u)]) c = if c' = c then max (higW st c) u else higW st c := by
  unfold higW
  rw [List.foldl_append]; rfl
theorem nodup_bound : ∀ (m : Nat) (l : List Nat), l.Nodup → (∀ x ∈ l, 1 ≤ x ∧ x ≤ m) → l.length ≤ m
  | 0, l, _, h => by
    cases l with
    | nil => exact Nat.le_refl _
    | cons x r => have := h x (List.mem_cons_self ..); omega
  | m + 1, l, hn, h => by
    by_cases hm : m + 1 ∈ l
    · obtain ⟨a, b, rfl⟩ := List.append_of_mem hm
      have hn2 : ((m + 1) :: (a ++ b)).Nodup := (List.pairwise_middle (fun h => Ne.symm h)).1 hn
      rw [List.nodup_cons] at hn2
      have := nodup_bound m (a ++ b) hn2.2 fun x hx => by
        have h1 := h x (by
          rcases List.mem_append.1 hx with hx | hx
          · exact List.mem_append.2 (.inl hx)
          · exact List.mem_append.2 (.inr (List.mem_cons_of_mem _ hx)))
        have h2 : x ≠ m + 1 := fun e => hn2.1 (e ▸ hx)
        omega
      simp at this ⊢
      omega
    · have := nodup_bound m l hn fun x hx => by
        have h1 := h x hx
        have h2 : x ≠ m + 1 := fun e => hm (e ▸ hx)
        omega
      omega
theorem zip_map {β γ δ : Type} (f : β → γ) (g : β → δ) (l : List δ) : ∀ T : List β, (T.map f).zip (T.map g ++ l) = T.map fun q => (f q, g q)
  | [] => rfl
  | x :: T => by simp [zip_map f g l T]
/-- What is given so far: a booking's class, its time, the vehicle it had, the vehicle it has. -/
abbrev Gn (α : Type) := ((α × Wn) × Nat) × Nat
def gst (T : List (Gn α)) : List (α × Nat) := T.map fun q => (q.1.1.1, q.2)
/-- D: the vehicles of each class, in the order in which they came up. -/
def CanW (cap : α → Nat) (T : List (Gn α)) (D : α → List Nat) : Prop := (∀ c, (D c).Nodup ∧ (∀ x ∈ D c, 1 ≤ x ∧ x ≤ cap c) ∧ higW (gst T) c = (D c).length) ∧ ∀ q ∈ T, 1 ≤ q.2 ∧ (D q.1.1.1)[q.2 - 1]? = some q.1.2
inductive FitL (cap : α → Nat) : List ((α × Wn) × Nat) → List (List (CdW α)) → List Nat → Prop
  | nil : FitL cap [] [] []
  | cons {p : (α × Wn) × Nat} {R : List ((α × Wn) × Nat)} {cs : List (CdW α)} {css : List (List (CdW α))} {s : Nat} {ss : List Nat} (h : (p.1.1, s, cap p.1.1) ∈ cs) (hr : FitL cap R css ss) : FitL cap (p :: R) (cs :: css) (s :: ss)
theorem canon_step {cap : α → Nat} {T : List (Gn α)} {D : α → List Nat} {p : (α × Wn) × Nat} {l : List Wn} (hT : CanW cap T D) (hp : 1 ≤ p.2 ∧ p.2 ≤ cap p.1.1) (ha : ∀ q ∈ T, ApartC q.1 p) : ∃ (u : Nat) (D' : α → List Nat), 1 ≤ u ∧ u ≤ min (higW (gst T) p.1.1 + 1) (cap p.1.1) ∧ tknW (T.map (fun q => q.1.1.2) ++ l) (gst T) p.1.2 p.1.1 u = false ∧ CanW cap (T ++ [(p, u)]) D' := by
  obtain ⟨hD, hq⟩ := hT
  obtain ⟨d1, d2, d3⟩ := hD p.1.1
  have htk : ∀ u, (∀ q ∈ T, q.1.1.1 = p.1.1 → q.2 = u → mtW q.1.1.2 p.1.2 = true → False) → tknW (T.map (fun q => q.1.1.2) ++ l) (gst T) p.1.2 p.1.1 u = false := fun u h => by
    unfold tknW gst
    rw [zip_map, List.any_map, List.any_eq_false]
    intro q hq2 hh
    simp only [Function.comp, Bool.and_eq_true, decide_eq_true_eq, Prod.mk.injEq] at hh
    exact h q hq2 hh.1.1 hh.1.2 hh.2
  have hgs : ∀ u, gst (T ++ [(p, u)]) = gst T ++ [(p.1.1, u)] := fun u => by unfold gst; simp
  have hlen := nodup_bound _ _ d1 d2
  by_cases hf : p.2 ∈ D p.1.1
  · obtain ⟨i, hi⟩ := List.getElem?_of_mem hf
    have hil := (List.getElem?_eq_some_iff.1 hi).1
    refine ⟨i + 1, D, by omega, by rw [d3]; omega, htk _ fun q hq2 h1 h2 h3 => ?_, fun c => ?_, fun q hq2 => ?_⟩
    · obtain ⟨_, k2⟩ := hq q hq2
      rw [h1, h2, Nat.add_sub_cancel, hi] at k2
      exact ha q hq2 h1 h3 (Option.some.inj k2).symm
    · obtain ⟨e1, e2, e3⟩ := hD c
      refine ⟨e1, e2, ?_⟩
      rw [hgs, hig_snoc]
      split
      · rename_i hc
        rw [e3, ← hc]; omega
      · exact e3
    · rcases List.mem_append.1 hq2 with hq2 | hq2
      · exact hq q hq2
      · rw [List.mem_singleton.1 hq2]
        exact ⟨by dsimp only; omega, by dsimp only; rw [Nat.add_sub_cancel]; exact hi⟩
  · have hnd : (D p.1.1 ++ [p.2]).Nodup := by
      rw [List.nodup_append]
      refine ⟨d1, by simp, fun a ha2 b hb2 e => ?_⟩
      rw [List.mem_singleton] at hb2
      subst hb2; subst e
      exact hf ha2
    have hlen2 := nodup_bound _ _ hnd fun x hx => by
      rcases List.mem_append.1 hx with hx | hx
      · exact d2 x hx
      · rw [List.mem_singleton.1 hx]; exact hp
    rw [List.length_append, List.length_singleton] at hlen2
    refine ⟨(D p.1.1).length + 1, fun c => if c = p.1.1 then D c ++ [p.2] else D c, by omega, by rw [d3]; omega, htk _ fun q hq2 h1 h2 h3 => ?_, fun c => ?_, fun q hq2 => ?_⟩
    · obtain ⟨_, k2⟩ := hq q hq2
      rw [h1, h2, Nat.add_sub_cancel, List.getElem?_eq_none (Nat.le_refl _)] at k2
      cases k2
    · by_cases hc : c = p.1.1
      · subst hc
        dsimp only
        rw [if_pos rfl]
        refine ⟨hnd, fun x hx => ?_, ?_⟩
        · rcases List.mem_append.1 hx with hx | hx
          · exact d2 x hx
          · rw [List.mem_singleton.1 hx]; exact hp
        · rw [hgs, hig_snoc, if_pos rfl, d3, List.length_append, List.length_singleton]; omega
      · obtain ⟨e1, e2, e3⟩ := hD c
        dsimp only
        rw [if_neg hc]
        refine ⟨e1, e2, ?_⟩
        rw [hgs, hig_snoc, if_neg (fun e => hc e.symm)]; exact e3
    · rcases List.mem_append.1 hq2 with hq2 | hq2
      · obtain ⟨k1, k2⟩ := hq q hq2
        refine ⟨k1, ?_⟩
        dsimp only
        split
        · have := (List.getElem?_eq_some_iff.1 k2).1
          rw [List.getElem?_append_left this]; exact k2
        · exact k2
      · rw [List.mem_singleton.1 hq2]
        dsimp only
        rw [if_pos rfl, Nat.add_sub_cancel]
        exact ⟨by omega, by simp⟩
/-- Where the classes have room, the search comes to an end with them. -/
theorem canon {cap : α → Nat} : ∀ (R : List ((α × Wn) × Nat)) (css : List (List (CdW α))) (ss : List Nat) (T : List (Gn α)) (D : α → List Nat), FitL cap R css ss → CanW cap T D → (T.map Prod.fst ++ R).Pairwise ApartC → (∀ p ∈ R, 1 ≤ p.2 ∧ p.2 ≤ cap p.1.1) → ∃ o, (o, ss.sum) ∈ solsW (T.map (fun q => q.1.1.2) ++ R.map fun p => p.1.2) css (gst T) ∧ o.map Prod.fst = T.map (fun q => q.1.1.1) ++ R.map fun p => p.1.1
  | _, _, _, T, D, .nil, _, _, _ => ⟨gst T, by simp [solsW], by unfold gst; simp⟩
  | p :: R, cs :: css, s :: ss, T, D, .cons h hr, hT, ha, hb => by
    have hap : ∀ q ∈ T, ApartC q.1 p := fun q hq => (List.pairwise_append.1 ha).2.2 q.1 (List.mem_map.2 ⟨q, hq, rfl⟩) p (List.mem_cons_self ..)
    obtain ⟨u, D', u1, u2, u3, u4⟩ := canon_step (l := (p :: R).map fun p => p.1.2) hT (hb p (List.mem_cons_self ..)) hap
    obtain ⟨o, o1, o2⟩ := canon R css ss (T ++ [(p, u)]) D' hr u4 (by
      rw [List.map_append, List.append_assoc]; exact ha) fun q hq => hb q (List.mem_cons_of_mem _ hq)
    have hgs : gst (T ++ [(p, u)]) = gst T ++ [(p.1.1, u)] := by unfold gst; simp
    have hws : (T ++ [(p, u)]).map (fun q => q.1.1.2) ++ (R.map fun p => p.1.2) = T.map (fun q => q.1.1.2) ++ (p :: R).map fun p => p.1.2 := by simp
    rw [hgs, hws] at o1
    refine ⟨o, ?_, by rw [o2]; simp⟩
    unfold solsW
    have hx : (T.map (fun q => q.1.1.2) ++ (p :: R).map fun p => p.1.2).getD (gst T).length (0, 0) = p.1.2 := by
      unfold gst
      rw [List.getD_eq_getElem?_getD, List.length_map, List.getElem?_append_right (by simp)]
      simp
    rw [hx, List.mem_flatMap]
    refine ⟨(p.1.1, s, u), ?_, ?_⟩
    · unfold nxtW
      rw [List.mem_flatMap]
      refine ⟨_, h, List.mem_map.2 ⟨u, List.mem_filter.2 ⟨?_, by rw [u3]; rfl⟩, rfl⟩⟩
      rw [List.mem_range'_1]
      dsimp only
      omega
    · rw [List.sum_cons]
      exact List.mem_map.2 ⟨(o, ss.sum), o1, rfl⟩
/-- The whole: bookings with classes that have room. -/
theorem canon_all {cap : α → Nat} {I : List (α × Wn)} {css : List (List (CdW α))} {ss : List Nat} (hw : ∀ p ∈ I, p.2.1 < p.2.2) (hc : CapC cap I) (hf : ∀ P : List ((α × Wn) × Nat), P.map Prod.fst = I → FitL cap P css ss) : ∃ o, (o, ss.sum) ∈ solsW (I.map Prod.snd) css [] ∧ o.map Prod.fst = I.map Prod.fst := by
  obtain ⟨P, h1, h2, h3⟩ := colorC _ I rfl hw hc
  obtain ⟨o, o1, o2⟩ := canon P css ss [] (fun _ => []) (hf P h1) ⟨fun c => ⟨List.Pairwise.nil, (fun x hx => by cases hx), rfl⟩, (fun q hq => by cases hq)⟩ h3 h2
  refine ⟨o, ?_, ?_⟩
  · have e : P.map (fun p => p.1.2) = I.map Prod.snd := by rw [← h1, List.map_map]; rfl
    rw [← e]; exact o1
  · rw [o2, ← h1, List.map_map]; rfl
end
end Go.Proofs.YtempjmpfdniecaaGreatDoor
namespace Go.Proofs.YtempjmpfdniecaaGreatDoor
section
variable {α : Type} [DecidableEq α]
def cuW (q : (α × Wn) × Nat) : α × Nat := (q.1.1, q.2)
def wnW (q : (α × Wn) × Nat) : Wn := q.1.2
def PropW (cap : α → Nat) (P : List ((α × Wn) × Nat)) : Prop := (∀ p ∈ P, 1 ≤ p.2 ∧ p.2 ≤ cap p.1.1) ∧ P.Pairwise ApartC
/-- Who has vehicles has room. -/
theorem cap_of {cap : α → Nat} {P : List ((α × Wn) × Nat)} (h : PropW cap P) : CapC cap (P.map Prod.fst) := fun c t => by
  obtain ⟨hb, ha⟩ := h
  have e : (P.map Prod.fst).countP (onC c t) = ((P.filter fun p => onC c t p.1).map Prod.snd).length := by
    rw [List.countP_map, List.countP_eq_length_filter, List.length_map]; rfl
  rw [e]
  refine nodup_bound _ _ ?_ fun x hx => ?_
  · rw [List.Nodup, List.pairwise_map]
    have h1 := List.Pairwise.filter (fun p => onC c t p.1) ha
    refine List.Pairwise.imp_of_mem (fun {p q} hp hq hpq => ?_) h1
    have hp := (List.mem_filter.1 hp).2
    have hq := (List.mem_filter.1 hq).2
    unfold onC onW at hp hq
    simp only [Bool.and_eq_true, decide_eq_true_eq] at hp hq
    refine hpq (hp.1.trans hq.1.symm) ?_
    unfold mtW
    simp only [Bool.and_eq_true, decide_eq_true_eq]
    omega
  · obtain ⟨p, hp, rfl⟩ := List.mem_map.1 hx
    obtain ⟨h1, h2⟩ := List.mem_filter.1 hp
    unfold onC at h2
    simp only [Bool.and_eq_true, decide_eq_true_eq] at h2
    rw [← h2.1]
    exact hb p h1
theorem sols_P {cap : α → Nat} : ∀ (xs : List Wn) (css : List (List (CdW α))) (P : List ((α × Wn) × Nat)) (o : List (α × Nat)) (t : Nat), xs.length = css.length → (∀ cs ∈ css, ∀ k ∈ cs, k.2.2 = cap k.1) → PropW cap P → (o, t) ∈ solsW (P.map wnW ++ xs) css (P.map cuW) → ∃ Q ss, FitL cap Q css ss ∧ t = ss.sum ∧ o = (P ++ Q).map cuW ∧ Q.map wnW = xs ∧ PropW cap (P ++ Q)
  | [], [], P, o, t, _, _, hP, h => by
    unfold solsW at h
    rw [List.mem_singleton, Prod.mk.injEq] at h
    exact ⟨[], [], .nil, h.2, by rw [List.append_nil]; exact h.1, rfl, by rw [List.append_nil]; exact hP⟩
  | x :: xs, cs :: css, P, o, t, hl, hk, hP, h => by
    unfold solsW at h
    have hx : (P.map wnW ++ x :: xs).getD (P.map cuW).length (0, 0) = x := by
      rw [List.getD_eq_getElem?_getD, List.length_map, List.getElem?_append_right (by simp)]
      simp
    rw [hx, List.mem_flatMap] at h
    obtain ⟨⟨c, s, u⟩, h1, h2⟩ := h
    obtain ⟨⟨o', t'⟩, h3, h4⟩ := List.mem_map.1 h2
    rw [Prod.mk.injEq] at h4
    dsimp only at h3 h4
    obtain ⟨rfl, rfl⟩ := h4
    unfold nxtW at h1
    rw [List.mem_flatMap] at h1
    obtain ⟨k, k1, k2⟩ := h1
    obtain ⟨u', k3, k4⟩ := List.mem_map.1 k2
    simp only [Prod.mk.injEq] at k4
    obtain ⟨rfl, rfl, rfl⟩ := k4
    obtain ⟨k5, k6⟩ := List.mem_filter.1 k3
    rw [List.mem_range'_1] at k5
    have hc := hk cs (List.mem_cons_self ..) k k1
    have hP2 : PropW cap (P ++ [((k.1, x), u')]) := by
      refine ⟨fun p hp => ?_, ?_⟩
      · rcases List.mem_append.1 hp with hp | hp
        · exact hP.1 p hp
        · rw [List.mem_singleton.1 hp]
          dsimp only
          omega
      · rw [List.pairwise_append]
        refine ⟨hP.2, List.pairwise_singleton _ _, fun p hp q hq => ?_⟩
        rw [List.mem_singleton.1 hq]
        intro e1 e2 e3
        dsimp only at e1 e2 e3
        have k7 : tknW (P.map wnW ++ x :: xs) (P.map cuW) x k.1 u' = true := by
          unfold tknW
          rw [zip_map, List.any_map, List.any_eq_true]
          refine ⟨p, hp, ?_⟩
          simp only [Function.comp, Bool.and_eq_true, decide_eq_true_eq]
          refine ⟨?_, e2⟩
          unfold cuW
          rw [e1, e3]
        rw [k7] at k6
        cases k6
    have hcu : (P ++ [((k.1, x), u')]).map cuW = P.map cuW ++ [(k.1, u')] := by simp [cuW]
    have hwn : (P ++ [((k.1, x), u')]).map wnW ++ xs = P.map wnW ++ x :: xs := by simp [wnW]
    obtain ⟨Q, ss, q1, q2, q3, q4, q5⟩ := sols_P xs css (P ++ [((k.1, x), u')]) o' t' (by simpa using hl) (fun cs hcs => hk cs (List.mem_cons_of_mem _ hcs)) hP2 (by rw [hcu, hwn]; exact h3)
    refine ⟨((k.1, x), u') :: Q, k.2.1 :: ss, .cons ?_ q1, by rw [List.sum_cons, q2], by rw [q3]; simp, by rw [List.map_cons, q4]; rfl, by rw [List.append_assoc] at q5; exact q5⟩
    show (k.1, k.2.1, cap k.1) ∈ cs
    rw [← hc]; exact k1
omit [DecidableEq α] in
theorem fit_congr {cap : α → Nat} : ∀ {Q P : List ((α × Wn) × Nat)} {css : List (List (CdW α))} {ss : List Nat}, FitL cap Q css ss → P.map Prod.fst = Q.map Prod.fst → FitL cap P css ss
  | [], [], _, _, .nil, _ => .nil
  | q :: Q, p :: P, _, _, .cons h hr, e => by
    rw [List.map_cons, List.map_cons] at e
    injection e with e1 e2
    exact .cons (by rw [e1]; exact h) (fit_congr hr e2)
/-- The steps of the ends are the steps of the divisions of classes that have room. -/
theorem sols_iff {cap : α → Nat} {xs : List Wn} {css : List (List (CdW α))} (hl : xs.length = css.length) (hw : ∀ x ∈ xs, x.1 < x.2) (hk : ∀ cs ∈ css, ∀ k ∈ cs, k.2.2 = cap k.1) (t : Nat) : (∃ o, (o, t) ∈ solsW xs css []) ↔ ∃ Q ss, FitL cap Q css ss ∧ t = ss.sum ∧ Q.map wnW = xs ∧ CapC cap (Q.map Prod.fst) := by
  constructor
  · rintro ⟨o, h⟩
    obtain ⟨Q, ss, q1, q2, _, q4, q5⟩ := sols_P (cap := cap) xs css [] o t hl hk ⟨(fun p hp => by cases hp), List.Pairwise.nil⟩ h
    exact ⟨Q, ss, q1, q2, q4, cap_of q5⟩
  · rintro ⟨Q, ss, q1, rfl, rfl, q4⟩
    have e : (Q.map Prod.fst).map Prod.snd = Q.map wnW := by rw [List.map_map]; rfl
    obtain ⟨o, o1, _⟩ := canon_all (cap := cap) (I := Q.map Prod.fst) (css := css) (ss := ss) (fun p hp => hw p.2 (by rw [← e]; exact List.mem_map.2 ⟨p, hp, rfl⟩)) q4 fun P hP => fit_congr q1 hP
    rw [e] at o1
    exact ⟨o, o1⟩
/-- The document's search: the first end with as many steps. -/
def fillW (ws : List Wn) : List (List (CdW α)) → List (α × Nat) → Nat → Option (List (α × Nat))
  | [], st, left => if left = 0 then some st else none
  | cs :: r, st, left => (nxtW ws st (ws.getD st.length (0, 0)) cs).findSome? fun k => if left < k.2.1 then none else fillW ws r (st ++ [(k.1, k.2.2)]) (left - k.2.1)
theorem fill_find {ws : List Wn} : ∀ (css : List (List (CdW α))) (st : List (α × Nat)) (left : Nat), fillW ws css st left = ((solsW ws css st).find? fun o => decide (o.2 = left)).map Prod.fst
  | [], st, left => by
    unfold fillW solsW
    by_cases h : left = 0
    · subst h; simp
    · rw [if_neg h, List.find?_cons_of_neg (by simpa using fun e => h e.symm)]; rfl
  | cs :: r, st, left => by
    unfold fillW solsW
    rw [List.find?_flatMap, List.map_findSome?]
    congr 1
    funext k
    rw [Function.comp, List.find?_map]
    by_cases h : left < k.2.1
    · rw [if_pos h]
      have e : (fun o : List (α × Nat) × Nat => decide (o.2 = left)) ∘ (fun o : List (α × Nat) × Nat => (o.1, k.2.1 + o.2)) = fun _ => false := by
        funext o
        simp only [Function.comp, decide_eq_false_iff_not]
        omega
      rw [e, show ((solsW ws r (st ++ [(k.1, k.2.2)])).find? fun _ => false) = none from List.find?_eq_none.2 (by simp)]; rfl
    · rw [if_neg h, fill_find r]
      have e : (fun o : List (α × Nat) × Nat => decide (o.2 = left)) ∘ (fun o : List (α × Nat) × Nat => (o.1, k.2.1 + o.2)) = fun o : List (α × Nat) × Nat => decide (o.2 = left - k.2.1) := by
        funext o
        simp only [Function.comp, decide_eq_decide]
        omega
      rw [e, Option.map_map]; rfl
def headW (cs : List (CdW α)) : Nat := (cs.head?.map fun k => k.2.1).getD 0
/-- The least steps of the bookings to come. -/
def restW : List (List (CdW α)) → Nat
  | [] => 0
  | cs :: r => headW cs + restW r
def unitsW (ws : List Wn) (F : List (α × Nat) → Wn → CdW α → Bool) : List (List (CdW α)) → List (α × Nat) → Nat → Option (List (α × Nat))
  | [], st, _ => some st
  | cs :: r, st, left => if left < restW (cs :: r) then none else cs.findSome? fun k => if left < k.2.1 + restW r then none else if F st (ws.getD st.length (0, 0)) k = false then none else
    (List.range' 1 (min (higW st k.1 + 1) k.2.2)).findSome? fun u => if tknW ws st (ws.getD st.length (0, 0)) k.1 u = true then none else unitsW ws F r (st ++ [(k.1, u)]) (left - k.2.1)
omit [DecidableEq α] in
theorem fs_filter {β γ δ : Type} {p : β → Bool} {f : β → γ} {g : γ → Option δ} : ∀ l : List β, ((l.filter p).map f).findSome? g = l.findSome? fun u => if p u = true then g (f u) else none
  | [] => rfl
  | x :: l => by
    cases h : p x with
    | true =>
      rw [List.filter_cons_of_pos h, List.map_cons, List.findSome?_cons, List.findSome?_cons, h, if_pos rfl, fs_filter l]
    | false =>
      rw [List.filter_cons_of_neg (by rw [h]; decide), List.findSome?_cons, h, fs_filter l]; rfl
omit [DecidableEq α] in
theorem fs_flat {β γ δ : Type} {f : β → List γ} {g : γ → Option δ} : ∀ l : List β, (l.flatMap f).findSome? g = l.findSome? fun x => (f x).findSome? g
  | [] => rfl
  | x :: l => by
    rw [List.flatMap_cons, List.findSome?_append, List.findSome?_cons, fs_flat l]
    cases (f x).findSome? g <;> rfl
omit [DecidableEq α] in
theorem fs_none {β γ : Type} {f : β → Option γ} {l : List β} (h : ∀ x ∈ l, f x = none) : l.findSome? f = none := List.findSome?_eq_none_iff.2 h
omit [DecidableEq α] in
theorem fs_congr {β γ : Type} {f g : β → Option γ} : ∀ {l : List β}, (∀ x ∈ l, f x = g x) → l.findSome? f = l.findSome? g
  | [], _ => rfl
  | x :: l, h => by
    rw [List.findSome?_cons, List.findSome?_cons, h x (List.mem_cons_self ..), fs_congr fun y hy => h y (List.mem_cons_of_mem _ hy)]
theorem sols_ge {ws : List Wn} : ∀ (css : List (List (CdW α))) (st : List (α × Nat)), (∀ cs ∈ css, ∀ k ∈ cs, headW cs ≤ k.2.1) → ∀ o ∈ solsW ws css st, restW css ≤ o.2
  | [], st, _, o, h => Nat.zero_le _
  | cs :: r, st, hh, o, h => by
    unfold solsW at h
    rw [List.mem_flatMap] at h
    obtain ⟨k, h1, h2⟩ := h
    obtain ⟨o', h3, rfl⟩ := List.mem_map.1 h2
    unfold nxtW at h1
    rw [List.mem_flatMap] at h1
    obtain ⟨k', k1, k2⟩ := h1
    obtain ⟨u, _, rfl⟩ := List.mem_map.1 k2
    have i1 := hh cs (List.mem_cons_self ..) k' k1
    have i2 := sols_ge r _ (fun cs hcs => hh cs (List.mem_cons_of_mem _ hcs)) o' h3
    show headW cs + restW r ≤ k'.2.1 + o'.2
    omega
/-- Where no end has fewer steps, the first with no more is the first with as many. -/
theorem find_least {β : Type} {l : List (β × Nat)} {n : Nat} (h : ∀ o ∈ l, n ≤ o.2) : (l.find? fun o => decide (o.2 ≤ n)) = l.find? fun o => decide (o.2 = n) := by
  induction l with
  | nil => rfl
  | cons x l ih =>
    have h1 := h x (List.mem_cons_self ..)
    rw [List.find?_cons, List.find?_cons, ih fun o ho => h o (List.mem_cons_of_mem _ ho)]
    rw [show decide (x.2 ≤ n) = decide (x.2 = n) from by rw [decide_eq_decide]; omega]
end
end Go.Proofs.YtempjmpfdniecaaGreatDoor
namespace Go.Proofs.YtempjmpfdniecaaGreatDoor
section
variable {α : Type} [DecidableEq α]
/-- A booking that wants a class: its time, what it may get; and what it gets. -/
abbrev ItW (α : Type) := Wn × List (CdW α)
abbrev KiW (α : Type) := ItW α × CdW α
def plW2 (p : KiW α) : α × Wn := (p.2.1, p.1.1)
/-- A division of classes that has room, with so many steps. -/
def DivE (cap : α → Nat) (pl : List (α × Wn)) (items : List (ItW α)) (t : Nat) : Prop := ∃ K : List (KiW α), K.map Prod.fst = items ∧ (∀ p ∈ K, p.2 ∈ p.1.2) ∧ t = (K.map fun p => p.2.2.1).sum ∧ CapC cap (pl ++ K.map plW2)
def allT (F : List (α × Wn) → Wn → CdW α → Bool) : List (ItW α) → List (α × Wn) → List Nat
  | [], _ => [0]
  | it :: r, pl => it.2.flatMap fun k => if F pl it.1 k = true then (allT F r (pl ++ [(k.1, it.1)])).map fun t => k.2.1 + t else []
theorem cap_mono {cap : α → Nat} {a b : List (α × Wn)} (h : CapC cap (a ++ b)) : CapC cap a := fun c t => by
  have := h c t
  rw [List.countP_append] at this
  omega
theorem perm_lift {β γ : Type} {f : β → γ} : ∀ {a b : List γ}, a.Perm b → ∀ K : List β, K.map f = a → ∃ K', K'.map f = b ∧ K.Perm K'
  | _, _, .nil, K, h => ⟨K, h, List.Perm.refl _⟩
  | _, _, .cons x h, K, e => by
    cases K with
    | nil => cases e
    | cons p K =>
      rw [List.map_cons] at e
      injection e with e1 e2
      obtain ⟨K', k1, k2⟩ := perm_lift h K e2
      exact ⟨p :: K', by rw [List.map_cons, k1, e1], k2.cons p⟩
  | _, _, .swap x y l, K, e => by
    cases K with
    | nil => cases e
    | cons p K =>
      cases K with
      | nil => rw [List.map_cons] at e; injection e with _ e; cases e
      | cons q K =>
        rw [List.map_cons, List.map_cons] at e
        injection e with e1 e2
        injection e2 with e2 e3
        exact ⟨q :: p :: K, by rw [List.map_cons, List.map_cons, e1, e2, e3], List.Perm.swap ..⟩
  | _, _, .trans h1 h2, K, e => by
    obtain ⟨K1, k1, k2⟩ := perm_lift h1 K e
    obtain ⟨K2, k3, k4⟩ := perm_lift h2 K1 k1
    exact ⟨K2, k3, k2.trans k4⟩
omit [DecidableEq α] in
theorem sum_perm {a b : List Nat} (h : a.Perm b) : a.sum = b.sum := by
  induction h with
  | nil => rfl
  | cons x _ ih => rw [List.sum_cons, List.sum_cons, ih]
  | swap x y l => simp only [List.sum_cons]; omega
  | trans _ _ i1 i2 => exact i1.trans i2
/-- The order of the bookings does not matter. -/
theorem div_perm {cap : α → Nat} {a b : List (ItW α)} (h : a.Perm b) {t : Nat} (ha : DivE cap [] a t) : DivE cap [] b t := by
  obtain ⟨K, h1, h2, h3, h4⟩ := ha
  obtain ⟨K', k1, k2⟩ := perm_lift h K h1
  refine ⟨K', k1, fun p hp => h2 p (k2.mem_iff.2 hp), by rw [h3]; exact sum_perm (k2.map _), fun c t => ?_⟩
  have := h4 c t
  rw [List.nil_append] at this ⊢
  rw [← (k2.map plW2).countP_eq]
  exact this
omit [DecidableEq α] in
theorem fit_div {cap : α → Nat} : ∀ {Q : List ((α × Wn) × Nat)} {css : List (List (CdW α))} {ss : List Nat}, FitL cap Q css ss → ∃ K : List (KiW α), K.map Prod.fst = (Q.map wnW).zip css ∧ (∀ p ∈ K, p.2 ∈ p.1.2) ∧ ss.sum = (K.map fun p => p.2.2.1).sum ∧ K.map plW2 = Q.map Prod.fst
  | [], _, _, .nil => ⟨[], rfl, (fun p hp => by cases hp), rfl, rfl⟩
  | q :: Q, cs :: css, s :: ss, .cons h hr => by
    obtain ⟨K, h1, h2, h3, h4⟩ := fit_div hr
    refine ⟨((q.1.2, cs), (q.1.1, s, cap q.1.1)) :: K, by rw [List.map_cons, h1]; rfl, fun p hp => ?_, by rw [List.map_cons, List.sum_cons, List.sum_cons, h3], by rw [List.map_cons, List.map_cons, h4]; rfl⟩
    rcases List.mem_cons.1 hp with rfl | hp
    · exact h
    · exact h2 p hp
omit [DecidableEq α] in
theorem div_fit {cap : α → Nat} : ∀ (xs : List Wn) (css : List (List (CdW α))) (K : List (KiW α)), xs.length = css.length → (∀ cs ∈ css, ∀ k ∈ cs, k.2.2 = cap k.1) → K.map Prod.fst = xs.zip css → (∀ p ∈ K, p.2 ∈ p.1.2) → ∃ Q, FitL cap Q css (K.map fun p => p.2.2.1) ∧ Q.map wnW = xs ∧ Q.map Prod.fst = K.map plW2
  | [], [], K, _, _, e, _ => by
    rw [List.zip_nil_left, List.map_eq_nil_iff] at e
    subst e
    exact ⟨[], .nil, rfl, rfl⟩
  | x :: xs, cs :: css, K, hl, hk, e, h => by
    cases K with
    | nil => cases e
    | cons p K =>
      rw [List.map_cons, List.zip_cons_cons] at e
      injection e with e1 e2
      obtain ⟨Q, q1, q2, q3⟩ := div_fit xs css K (by simpa using hl) (fun c hc => hk c (List.mem_cons_of_mem _ hc)) e2 fun q hq => h q (List.mem_cons_of_mem _ hq)
      have hp := h p (List.mem_cons_self ..)
      rw [e1] at hp
      have hc := hk cs (List.mem_cons_self ..) p.2 hp
      refine ⟨((p.2.1, x), 0) :: Q, ?_, by rw [List.map_cons, q2]; rfl, by rw [List.map_cons, List.map_cons, q3]; unfold plW2; rw [e1]⟩
      refine .cons ?_ q1
      show (p.2.1, p.2.2.1, cap p.2.1) ∈ cs
      rw [← hc]; exact hp
/-- The ends of the search have the steps of the divisions. -/
theorem sols_div {cap : α → Nat} {xs : List Wn} {css : List (List (CdW α))} (hl : xs.length = css.length) (hw : ∀ x ∈ xs, x.1 < x.2) (hk : ∀ cs ∈ css, ∀ k ∈ cs, k.2.2 = cap k.1) (t : Nat) : (∃ o, (o, t) ∈ solsW xs css []) ↔ DivE cap [] (xs.zip css) t := by
  rw [sols_iff hl hw hk]
  constructor
  · rintro ⟨Q, ss, q1, rfl, rfl, q4⟩
    obtain ⟨K, k1, k2, k3, k4⟩ := fit_div q1
    exact ⟨K, k1, k2, k3, by rw [List.nil_append, k4]; exact q4⟩
  · rintro ⟨K, k1, k2, k3, k4⟩
    obtain ⟨Q, q1, q2, q3⟩ := div_fit xs css K hl hk k1 k2
    exact ⟨Q, _, q1, k3, q2, by rw [q3]; rw [List.nil_append] at k4; exact k4⟩
def minO : Option Nat → List Nat → Option Nat
  | b, [] => b
  | none, x :: l => minO (some x) l
  | some y, x :: l => minO (some (min y x)) l
theorem minO_app : ∀ (a : List Nat) (b : Option Nat) (c : List Nat), minO b (a ++ c) = minO (minO b a) c
  | [], _, _ => by
    rw [List.nil_append]
    cases ‹Option Nat› <;> rfl
  | x :: a, none, c => by rw [List.cons_append, minO, minO]; exact minO_app a _ c
  | x :: a, some y, c => by rw [List.cons_append, minO, minO]; exact minO_app a _ c
theorem minO_ge : ∀ (l : List Nat) (y : Nat), (∀ x ∈ l, y ≤ x) → minO (some y) l = some y
  | [], _, _ => rfl
  | x :: l, y, h => by
    rw [minO, Nat.min_eq_left (h x (List.mem_cons_self ..))]
    exact minO_ge l y fun z hz => h z (List.mem_cons_of_mem _ hz)
theorem minO_some : ∀ (l : List Nat) (y : Nat), ∃ m, minO (some y) l = some m ∧ m ≤ y ∧ (∀ x ∈ l, m ≤ x) ∧ (m = y ∨ m ∈ l)
  | [], y => ⟨y, rfl, Nat.le_refl _, (fun x hx => by cases hx), .inl rfl⟩
  | x :: l, y => by
    obtain ⟨m, h1, h2, h3, h4⟩ := minO_some l (min y x)
    refine ⟨m, h1, by omega, fun z hz => ?_, ?_⟩
    · rcases List.mem_cons.1 hz with rfl | hz
      · omega
      · exact h3 z hz
    · rcases h4 with h4 | h4
      · by_cases h : y ≤ x
        · exact .inl (by omega)
        · exact .inr (by rw [h4, Nat.min_eq_right (by omega)]; exact List.mem_cons_self ..)
      · exact .inr (List.mem_cons_of_mem _ h4)
/-- The least of a list: none of none. -/
theorem minO_none (l : List Nat) : (l = [] ∧ minO none l = none) ∨ ∃ m, minO none l = some m ∧ m ∈ l ∧ ∀ x ∈ l, m ≤ x := by
  cases l with
  | nil => exact .inl ⟨rfl, rfl⟩
  | cons x l =>
    obtain ⟨m, h1, h2, h3, h4⟩ := minO_some l x
    refine .inr ⟨m, h1, ?_, fun z hz => ?_⟩
    · rcases h4 with rfl | h4
      · exact List.mem_cons_self ..
      · exact List.mem_cons_of_mem _ h4
    · rcases List.mem_cons.1 hz with rfl | hz
      · exact h2
      · exact h3 z hz
def restI : List (ItW α) → Nat
  | [] => 0
  | it :: r => headW it.2 + restI r
def stopW (best : Option Nat) (n : Nat) : Bool := match best with
  | none => false
  | some b => decide (b ≤ n)
/-- The program's search for the least. -/
def bbW (F : List (α × Wn) → Wn → CdW α → Bool) : List (ItW α) → List (α × Wn) → Nat → Option Nat → Option Nat
  | items, pl, used, best => if stopW best (used + restI items) = true then best else
    match items with
    | [] => some used
    | it :: r => it.2.foldl (fun best k => if F pl it.1 k = true then bbW F r (pl ++ [(k.1, it.1)]) (used + k.2.1) best else best) best
omit [DecidableEq α] in
theorem allT_ge {F : List (α × Wn) → Wn → CdW α → Bool} : ∀ (items : List (ItW α)) (pl : List (α × Wn)), (∀ it ∈ items, ∀ k ∈ it.2, headW it.2 ≤ k.2.1) → ∀ t ∈ allT F items pl, restI items ≤ t
  | [], _, _, t, _ => Nat.zero_le _
  | it :: r, pl, hh, t, h => by
    unfold allT at h
    rw [List.mem_flatMap] at h
    obtain ⟨k, k1, k2⟩ := h
    split at k2
    · obtain ⟨t', t1, rfl⟩ := List.mem_map.1 k2
      have i1 := hh it (List.mem_cons_self ..) k k1
      have i2 := allT_ge r _ (fun i hi => hh i (List.mem_cons_of_mem _ hi)) t' t1
      show headW it.2 + restI r ≤ k.2.1 + t'
      omega
    · cases k2
omit [DecidableEq α] in
theorem bb_min {F : List (α × Wn) → Wn → CdW α → Bool} : ∀ (items : List (ItW α)) (pl : List (α × Wn)) (used : Nat) (best : Option Nat), (∀ it ∈ items, ∀ k ∈ it.2, headW it.2 ≤ k.2.1) → bbW F items pl used best = minO best ((allT F items pl).map fun t => used + t)
  | items, pl, used, best, hh => by
    unfold bbW
    split
    · rename_i hb
      cases best with
      | none => cases hb
      | some b =>
        have hb2 : b ≤ used + restI items := by simpa [stopW] using hb
        refine (minO_ge _ b fun x hx => ?_).symm
        obtain ⟨t, ht, rfl⟩ := List.mem_map.1 hx
        have := allT_ge items pl hh t ht
        omega
    · rename_i hb
      cases items with
      | nil =>
        unfold allT
        cases best with
        | none => rfl
        | some b =>
          have hb2 : ¬ b ≤ used := fun h => hb (decide_eq_true (show b ≤ used + 0 from h))
          show some used = some (min b (used + 0))
          rw [Nat.min_eq_right (by omega)]; rfl
      | cons it r =>
        unfold allT
        have hr := fun pl' used' best' => bb_min (F := F) r pl' used' best' fun i hi => hh i (List.mem_cons_of_mem _ hi)
        dsimp only
        clear hb
        generalize it.2 = cs
        induction cs generalizing best with
        | nil => cases best <;> rfl
        | cons k cs ih =>
          rw [List.foldl_cons, ih, List.flatMap_cons, List.map_append, minO_app]
          congr 1
          split
          · rw [hr, List.map_map]
            congr 1
            refine List.map_congr_left fun t _ => ?_
            simp only [Function.comp]
            omega
          · cases best <;> rfl
end
end Go.Proofs.YtempjmpfdniecaaGreatDoor
namespace Go.Proofs.YtempjmpfdniecaaGreatDoor
open Go.RowKit
section
variable {α : Type} [DecidableEq α]
omit [DecidableEq α] in
theorem busy_spec {T : List (Int × Int)} {a b : Int} (hab : a < b) : (∀ s, a ≤ s → s < b → ((onT T s : Nat) : Int) ≤ (busyT T a b).1) ∧ ∃ s, a ≤ s ∧ s < b ∧ (busyT T a b).1 = ((onT T s : Nat) : Int) := by
  have hs : ∀ x, x ∈ sortI (a :: frsM a b T) → a ≤ x ∧ x < b := fun x hx => by
    rw [sortI_mem] at hx
    rcases List.mem_cons.1 hx with rfl | hx
    · omega
    · have := frsM_mem.1 hx
      obtain ⟨t, _, h1, h2⟩ := this
      omega
  obtain ⟨t1, t2, t3⟩ := busyF_all (f := onT T) (sortI_pair (a :: frsM a b T)) (by rw [sortI_len]; simp)
  have e : busyT T a b = busyF (onT T) (sortI (a :: frsM a b T)) := rfl
  rw [← e] at t1 t2 t3
  refine ⟨fun s h1 h2 => ?_, _, (hs _ t1).1, (hs _ t1).2, t2.symm⟩
  by_cases h0 : 0 < onT T s
  · obtain ⟨t, ht, k1, k2⟩ := onT_dom h0
    by_cases k : t.1 < a
    · have h3 := (t3 a (sortI_mem.2 (List.mem_cons_self ..))).1
      have h4 := k2 a (by omega) h1
      omega
    · have h3 := (t3 t.1 (sortI_mem.2 (List.mem_cons_of_mem _ (frsM_mem.2 ⟨t, ht, rfl, by omega⟩)))).1
      have h4 := k2 t.1 (Int.le_refl _) k1
      omega
  · have h3 := (t3 a (sortI_mem.2 (List.mem_cons_self ..))).1
    omega
omit [DecidableEq α] in
theorem onT_onW (T : List (Int × Int)) (t : Int) : onT T t = T.countP (onW t) := by
  unfold onT
  refine List.countP_congr fun u _ => ?_
  unfold onW
  rw [inB_iff]
  simp only [Bool.and_eq_true, decide_eq_true_eq]
  omega
/-- The times of those of a class that meet a window. -/
def timC (pl : List (α × Wn)) (x : Wn) (c : α) : List Wn := (pl.filter fun p => decide (p.1 = c) && mtW p.2 x).map Prod.snd
def roomF (pl : List (α × Wn)) (x : Wn) (k : CdW α) : Bool := decide ((busyT (timC pl x k.1) x.1 x.2).1 < (k.2.2 : Int))
theorem timC_on {pl : List (α × Wn)} {x : Wn} {c : α} {t : Int} (h : onW t x = true) : onT (timC pl x c) t = pl.countP (onC c t) := by
  rw [onT_onW]
  unfold timC
  rw [List.countP_map, List.countP_filter]
  refine List.countP_congr fun p _ => ?_
  unfold onC
  simp only [Function.comp, Bool.and_eq_true, decide_eq_true_eq]
  constructor
  · rintro ⟨h1, h2, _⟩
    exact ⟨h2, h1⟩
  · rintro ⟨h1, h2⟩
    refine ⟨h2, h1, ?_⟩
    unfold onW at h h2
    unfold mtW
    simp only [Bool.and_eq_true, decide_eq_true_eq] at h h2 ⊢
    omega
theorem roomF_iff {cap : α → Nat} (pl : List (α × Wn)) (x : Wn) (k : CdW α) (hx : x.1 < x.2) (hk : k.2.2 = cap k.1) (hp : CapC cap pl) : roomF pl x k = true ↔ CapC cap (pl ++ [(k.1, x)]) := by
  obtain ⟨b1, s, s1, s2, b2⟩ := busy_spec (T := timC pl x k.1) hx
  unfold roomF
  rw [decide_eq_true_eq]
  constructor
  · intro h c t
    rw [List.countP_append, List.countP_singleton]
    have h1 := hp c t
    split
    · rename_i h2
      unfold onC at h2
      rw [Bool.and_eq_true, decide_eq_true_eq] at h2
      dsimp only at h2
      obtain ⟨rfl, h3⟩ := h2
      have h4 := timC_on (pl := pl) (c := k.1) h3
      unfold onW at h3
      simp only [Bool.and_eq_true, decide_eq_true_eq] at h3
      have h5 := b1 t h3.1 h3.2
      omega
    · omega
  · intro h
    have h1 := h k.1 s
    have h3 : onW s x = true := by
      unfold onW
      simp only [Bool.and_eq_true, decide_eq_true_eq]; omega
    have h4 := timC_on (pl := pl) (c := k.1) h3
    rw [List.countP_append, List.countP_singleton, if_pos (by unfold onC; rw [h3]; simp)] at h1
    omega
theorem full_all {m : Nat} {l : List Nat} (hn : l.Nodup) (hb : ∀ x ∈ l, 1 ≤ x ∧ x ≤ m) (hl : m ≤ l.length) {u : Nat} (h1 : 1 ≤ u) (h2 : u ≤ m) : u ∈ l := by
  refine Classical.byContradiction fun h => ?_
  have := nodup_bound m (u :: l) (List.nodup_cons.2 ⟨h, hn⟩) fun x hx => by
    rcases List.mem_cons.1 hx with rfl | hx
    · exact ⟨h1, h2⟩
    · exact hb x hx
  rw [List.length_cons] at this
  omega
/-- What the search for vehicles has given. -/
def GivJ (cap : α → Nat) (ws : List Wn) (st : List (α × Nat)) : Prop := ∃ P : List ((α × Wn) × Nat), PropW cap P ∧ st = P.map cuW ∧ ∃ r, ws = P.map wnW ++ r
def roomU (ws : List Wn) (st : List (α × Nat)) (x : Wn) (k : CdW α) : Bool := roomF ((st.zip ws).map fun p => (p.1.1, p.2)) x k
/-- Without room all vehicles of the class are taken. -/
theorem roomU_no {cap : α → Nat} {ws : List Wn} {st : List (α × Nat)} {x : Wn} {k : CdW α} (hj : GivJ cap ws st) (hx : x.1 < x.2) (hk : k.2.2 = cap k.1) (h : roomU ws st x k = false) : ∀ u, 1 ≤ u → u ≤ k.2.2 → tknW ws st x k.1 u = true := fun u u1 u2 => by
  obtain ⟨P, hP, rfl, r, rfl⟩ := hj
  unfold roomU at h
  have e : ((P.map cuW).zip (P.map wnW ++ r)).map (fun p => (p.1.1, p.2)) = P.map Prod.fst := by
    rw [zip_map, List.map_map]; rfl
  rw [e] at h
  unfold roomF at h
  rw [decide_eq_false_iff_not] at h
  obtain ⟨_, s, s1, s2, b2⟩ := busy_spec (T := timC (P.map Prod.fst) x k.1) hx
  have h3 : onW s x = true := by
    unfold onW
    simp only [Bool.and_eq_true, decide_eq_true_eq]; omega
  have h4 := timC_on (pl := P.map Prod.fst) (c := k.1) h3
  have hlen : k.2.2 ≤ ((P.filter fun p => onC k.1 s p.1).map Prod.snd).length := by
    rw [List.length_map, ← List.countP_eq_length_filter]
    rw [List.countP_map] at h4
    have h5 : P.countP (onC k.1 s ∘ Prod.fst) = P.countP (fun p => onC k.1 s p.1) := rfl
    omega
  have hmem := full_all (m := k.2.2) (l := (P.filter fun p => onC k.1 s p.1).map Prod.snd) (by
    rw [List.Nodup, List.pairwise_map]
    refine List.Pairwise.imp_of_mem (fun {p q} hp hq hpq => ?_) (List.Pairwise.filter (fun p => onC k.1 s p.1) hP.2)
    have hp := (List.mem_filter.1 hp).2
    have hq := (List.mem_filter.1 hq).2
    unfold onC onW at hp hq
    simp only [Bool.and_eq_true, decide_eq_true_eq] at hp hq
    refine hpq (hp.1.trans hq.1.symm) ?_
    unfold mtW
    simp only [Bool.and_eq_true, decide_eq_true_eq]
    omega) (fun y hy => by
    obtain ⟨p, hp, rfl⟩ := List.mem_map.1 hy
    obtain ⟨p1, p2⟩ := List.mem_filter.1 hp
    unfold onC at p2
    rw [Bool.and_eq_true, decide_eq_true_eq] at p2
    have := hP.1 p p1
    rw [p2.1, ← hk] at this
    exact this) hlen u1 u2
  obtain ⟨p, hp, rfl⟩ := List.mem_map.1 hmem
  obtain ⟨p1, p2⟩ := List.mem_filter.1 hp
  unfold onC at p2
  rw [Bool.and_eq_true, decide_eq_true_eq] at p2
  unfold tknW
  rw [zip_map, List.any_map, List.any_eq_true]
  refine ⟨p, p1, ?_⟩
  simp only [Function.comp, Bool.and_eq_true, decide_eq_true_eq]
  refine ⟨by unfold cuW; rw [p2.1], ?_⟩
  have h6 := p2.2
  unfold onW at h3 h6
  unfold mtW wnW
  simp only [Bool.and_eq_true, decide_eq_true_eq] at h3 h6 ⊢
  omega
end
end Go.Proofs.YtempjmpfdniecaaGreatDoor
namespace Go.Proofs.YtempjmpfdniecaaGreatDoor
section
variable {α : Type} [DecidableEq α]
/-- The vehicles of a class that are given are the first ones. -/
def CanU (st : List (α × Nat)) : Prop := ∀ c u, (c, u) ∈ st ↔ 1 ≤ u ∧ u ≤ higW st c
theorem canU_nil : CanU ([] : List (α × Nat)) := fun c u => by
  constructor
  · intro h; cases h
  · rintro ⟨h1, h2⟩
    have h3 : u ≤ 0 := h2
    omega
theorem canU_snoc {st : List (α × Nat)} (h : CanU st) {c : α} {u : Nat} (h1 : 1 ≤ u) (h2 : u ≤ higW st c + 1) : CanU (st ++ [(c, u)]) := fun c' u' => by
  rw [List.mem_append, List.mem_singleton, hig_snoc, h c' u']
  by_cases hc : c = c'
  · subst hc
    rw [if_pos rfl]
    constructor
    · rintro (h3 | h3)
      · omega
      · injection h3 with _ h4
        omega
    · rintro ⟨h3, h4⟩
      by_cases h5 : u' ≤ higW st c
      · exact .inl ⟨h3, h5⟩
      · exact .inr (by rw [show u' = u by omega])
  · rw [if_neg hc]
    constructor
    · rintro (h3 | h3)
      · exact h3
      · injection h3 with h4 _
        exact absurd h4.symm hc
    · exact fun h3 => .inl h3
/-- The document goes through what is free; of a class one vehicle that nobody has. -/
def docS {β : Type} (st : List (α × Nat)) (left : Nat) (g : α × Nat × Nat → Option β) : List (α × Nat × Nat) → List α → Option β
  | [], _ => none
  | k :: r, fr => if left < k.2.1 ∨ ((k.1, k.2.2) ∉ st ∧ k.1 ∈ fr) then docS st left g r fr else
    match g k with
    | some o => some o
    | none => docS st left g r (if (k.1, k.2.2) ∈ st then fr else k.1 :: fr)
def docN (ws : List Wn) (st : List (α × Nat)) (x : Wn) (cs : List (CdW α)) : List (α × Nat × Nat) := cs.flatMap fun k => ((List.range' 1 k.2.2).filter fun u => !tknW ws st x k.1 u).map fun u => (k.1, k.2.1, u)
theorem docS_fr {β : Type} {st : List (α × Nat)} {left : Nat} {g : α × Nat × Nat → Option β} : ∀ (b : List (α × Nat × Nat)) (fr fr' : List α), (∀ k ∈ b, (k.1 ∈ fr ↔ k.1 ∈ fr')) → docS st left g b fr = docS st left g b fr'
  | [], _, _, _ => rfl
  | k :: r, fr, fr', h => by
    have hk := h k (List.mem_cons_self ..)
    have hr : ∀ q ∈ r, (q.1 ∈ fr ↔ q.1 ∈ fr') := fun q hq => h q (List.mem_cons_of_mem _ hq)
    unfold docS
    by_cases hc : left < k.2.1 ∨ ((k.1, k.2.2) ∉ st ∧ k.1 ∈ fr)
    · rw [if_pos hc, if_pos (show left < k.2.1 ∨ ((k.1, k.2.2) ∉ st ∧ k.1 ∈ fr') by rw [← hk]; exact hc), docS_fr r fr fr' hr]
    · rw [if_neg hc, if_neg (show ¬ (left < k.2.1 ∨ ((k.1, k.2.2) ∉ st ∧ k.1 ∈ fr')) by rw [← hk]; exact hc)]
      cases g k with
      | some o => rfl
      | none =>
        dsimp only
        split
        · exact docS_fr r fr fr' hr
        · refine docS_fr r _ _ fun q hq => ?_
          rw [List.mem_cons, List.mem_cons, hr q hq]
/-- Those that somebody has are all tried. -/
theorem docS_used {β : Type} {st : List (α × Nat)} {left : Nat} {g : α × Nat × Nat → Option β} : ∀ (a b : List (α × Nat × Nat)) (fr : List α), (∀ k ∈ a, (k.1, k.2.2) ∈ st) → docS st left g (a ++ b) fr = (a.findSome? fun k => if left < k.2.1 then none else g k).or (docS st left g b fr)
  | [], _, _, _ => rfl
  | k :: a, b, fr, h => by
    have hk := h k (List.mem_cons_self ..)
    have ih := docS_used (left := left) (g := g) a b fr fun q hq => h q (List.mem_cons_of_mem _ hq)
    rw [List.cons_append, List.findSome?_cons]
    conv => lhs; unfold docS
    by_cases hl : left < k.2.1
    · rw [if_pos (.inl hl), if_pos hl, ih]
    · rw [if_neg (by rintro (h1 | h1); exact hl h1; exact h1.1 hk), if_neg hl]
      cases g k with
      | some o => rfl
      | none =>
        dsimp only
        rw [if_pos hk, ih]
/-- Of those of one class that nobody has the others are passed over. -/
theorem docS_skip {β : Type} {st : List (α × Nat)} {left : Nat} {g : α × Nat × Nat → Option β} {c : α} {s : Nat} : ∀ (a b : List (α × Nat × Nat)) (fr : List α), (∀ k ∈ a, (k.1, k.2.2) ∉ st ∧ k.1 = c ∧ k.2.1 = s) → (left < s ∨ c ∈ fr) → docS st left g (a ++ b) fr = docS st left g b fr
  | [], _, _, _, _ => rfl
  | k :: a, b, fr, h, hc => by
    obtain ⟨h1, h2, h3⟩ := h k (List.mem_cons_self ..)
    rw [List.cons_append]
    conv => lhs; unfold docS
    rw [if_pos (by rcases hc with hc | hc; exact .inl (by rw [h3]; exact hc); exact .inr ⟨h1, by rw [h2]; exact hc⟩)]
    exact docS_skip a b fr (fun q hq => h q (List.mem_cons_of_mem _ hq)) hc
theorem docS_new {β : Type} {st : List (α × Nat)} {left : Nat} {g : α × Nat × Nat → Option β} {c : α} {s : Nat} (a b : List (α × Nat × Nat)) (fr : List α) (h : ∀ k ∈ a, (k.1, k.2.2) ∉ st ∧ k.1 = c ∧ k.2.1 = s) (hc : c ∉ fr) (hb : ∀ k ∈ b, k.1 ≠ c) : docS st left g (a ++ b) fr = ((a.take 1).findSome? fun k => if left < k.2.1 then none else g k).or (docS st left g b fr) := by
  by_cases hl : left < s
  · rw [docS_skip a b fr h (.inl hl)]
    have e : ((a.take 1).findSome? fun k => if left < k.2.1 then none else g k) = none := fs_none fun k hk => by
      rw [(h k (List.mem_of_mem_take hk)).2.2, if_pos hl]
    rw [e]; rfl
  · cases a with
    | nil => rfl
    | cons k a =>
      obtain ⟨h1, h2, h3⟩ := h k (List.mem_cons_self ..)
      rw [List.cons_append]
      conv => lhs; unfold docS
      rw [if_neg (by rintro (h4 | h4); exact hl (by rw [← h3]; exact h4); exact hc (by rw [← h2]; exact h4.2)), List.take_succ_cons, List.take_zero, List.findSome?_cons, if_neg (show ¬ left < k.2.1 from by rw [h3]; exact hl)]
      cases g k with
      | some o => rfl
      | none =>
        dsimp only
        rw [if_neg h1, docS_skip a b _ (fun q hq => h q (List.mem_cons_of_mem _ hq)) (.inr (by rw [h2]; exact List.mem_cons_self ..))]
        refine docS_fr b _ _ fun q hq => ?_
        rw [List.mem_cons, h2]
        constructor
        · rintro (h5 | h5)
          · exact absurd h5 (hb q hq)
          · exact h5
        · exact fun h5 => .inr h5
theorem take1_filter {a h : Nat} {p : Nat → Bool} (ha : p a = true) : ((List.range' a (h + 1)).filter p).take 1 = [a] := by
  rw [List.range'_succ, List.filter_cons_of_pos ha, List.take_succ_cons, List.take_zero]
/-- The document's search goes through the same vehicles. -/
theorem doc_same {β : Type} {ws : List Wn} {st : List (α × Nat)} {x : Wn} {left : Nat} {g : α × Nat × Nat → Option β} (hu : CanU st) (ht : ∀ c u, tknW ws st x c u = true → (c, u) ∈ st) : ∀ (cs : List (CdW α)) (fr : List α), (cs.map fun k => k.1).Nodup → (∀ k ∈ cs, k.1 ∉ fr) → docS st left g (docN ws st x cs) fr = (nxtW ws st x cs).findSome? fun k => if left < k.2.1 then none else g k
  | [], _, _, _ => rfl
  | k :: cs, fr, hn, hf => by
    rw [List.map_cons, List.nodup_cons] at hn
    have ih := doc_same (left := left) (g := g) hu ht cs fr hn.2 fun q hq => hf q (List.mem_cons_of_mem _ hq)
    have hb : ∀ q ∈ docN ws st x cs, q.1 ≠ k.1 := fun q hq e => by
      unfold docN at hq
      rw [List.mem_flatMap] at hq
      obtain ⟨k', k1, k2⟩ := hq
      obtain ⟨u, _, rfl⟩ := List.mem_map.1 k2
      exact hn.1 (by rw [← e]; exact List.mem_map.2 ⟨k', k1, rfl⟩)
    have e1 : docN ws st x (k :: cs) = ((List.range' 1 k.2.2).filter fun u => !tknW ws st x k.1 u).map (fun u => (k.1, k.2.1, u)) ++ docN ws st x cs := by unfold docN; rw [List.flatMap_cons]
    have e2 : nxtW ws st x (k :: cs) = ((List.range' 1 (min (higW st k.1 + 1) k.2.2)).filter fun u => !tknW ws st x k.1 u).map (fun u => (k.1, k.2.1, u)) ++ nxtW ws st x cs := by unfold nxtW; rw [List.flatMap_cons]
    rw [e1, e2, List.findSome?_append, ← ih]
    have hused : ∀ n, n ≤ higW st k.1 → ∀ q ∈ ((List.range' 1 n).filter fun u => !tknW ws st x k.1 u).map (fun u => (k.1, k.2.1, u)), (q.1, q.2.2) ∈ st := fun n hn2 q hq => by
      obtain ⟨u, h1, rfl⟩ := List.mem_map.1 hq
      have h2 := List.mem_range'_1.1 (List.mem_filter.1 h1).1
      exact (hu k.1 u).2 (by omega)
    by_cases hm : k.2.2 ≤ higW st k.1
    · rw [Nat.min_eq_right (by omega), docS_used _ _ _ (hused _ hm)]
    · obtain ⟨d, hd⟩ : ∃ d, k.2.2 = higW st k.1 + (d + 1) := ⟨k.2.2 - higW st k.1 - 1, by omega⟩
      have hfree : (!tknW ws st x k.1 (1 + higW st k.1)) = true := by
        cases h5 : tknW ws st x k.1 (1 + higW st k.1) with
        | false => rfl
        | true =>
          have := (hu k.1 _).1 (ht _ _ h5)
          omega
      rw [Nat.min_eq_left (by omega), hd, show List.range' 1 (higW st k.1 + (d + 1)) = List.range' 1 (higW st k.1) ++ List.range' (1 + higW st k.1) (d + 1) from (List.range'_append_1 ..).symm, show List.range' 1 (higW st k.1 + 1) = List.range' 1 (higW st k.1) ++ List.range' (1 + higW st k.1) 1 from (List.range'_append_1 ..).symm, List.filter_append, List.filter_append, List.map_append, List.map_append, List.append_assoc, docS_used _ _ _ (hused _ (Nat.le_refl _)), List.findSome?_append]
      rw [docS_new _ _ _ (fun q hq => by
        obtain ⟨u, h1, rfl⟩ := List.mem_map.1 hq
        have h2 := List.mem_range'_1.1 (List.mem_filter.1 h1).1
        refine ⟨fun h3 => ?_, rfl, rfl⟩
        have := (hu k.1 u).1 h3
        omega) (hf k (List.mem_cons_self ..)) hb]
      rw [← List.map_take, take1_filter hfree]
      have e3 : (List.range' (1 + higW st k.1) 1).filter (fun u => !tknW ws st x k.1 u) = [1 + higW st k.1] := by
        exact List.filter_cons_of_pos (p := fun u => !tknW ws st x k.1 u) (l := []) hfree
      rw [e3, Option.or_assoc]
end
end Go.Proofs.YtempjmpfdniecaaGreatDoor
namespace Go.Proofs.YtempjmpfdniecaaGreatDoor
open Go.RowKit
section
variable {α : Type} [DecidableEq α]
theorem allT_iff' {cap : α → Nat} : ∀ (items : List (ItW α)) (pl : List (α × Wn)) (t : Nat), (∀ it ∈ items, ∀ k ∈ it.2, k.2.2 = cap k.1) → (∀ it ∈ items, it.1.1 < it.1.2) → CapC cap pl → (t ∈ allT roomF items pl ↔ DivE cap pl items t)
  | [], pl, t, _, _, hp => by
    unfold allT DivE
    rw [List.mem_singleton]
    constructor
    · rintro rfl
      exact ⟨[], rfl, (fun p hp => by cases hp), rfl, by rw [List.map_nil, List.append_nil]; exact hp⟩
    · rintro ⟨K, h1, _, h3, _⟩
      rw [List.map_eq_nil_iff] at h1
      subst h1
      exact h3
  | it :: r, pl, t, hk, hw, hp => by
    have hF : ∀ k ∈ it.2, (roomF pl it.1 k = true ↔ CapC cap (pl ++ [(k.1, it.1)])) := fun k k1 => roomF_iff pl it.1 k (hw it (List.mem_cons_self ..)) (hk it (List.mem_cons_self ..) k k1) hp
    unfold allT
    rw [List.mem_flatMap]
    constructor
    · rintro ⟨k, k1, k2⟩
      split at k2
      · rename_i hf
        obtain ⟨t', t1, rfl⟩ := List.mem_map.1 k2
        have hc := (hF k k1).1 hf
        obtain ⟨K, h1, h2, h3, h4⟩ := (allT_iff' r _ t' (fun i hi => hk i (List.mem_cons_of_mem _ hi)) (fun i hi => hw i (List.mem_cons_of_mem _ hi)) hc).1 t1
        refine ⟨(it, k) :: K, by rw [List.map_cons, h1], fun p hp => ?_, by rw [List.map_cons, List.sum_cons, h3], ?_⟩
        · rcases List.mem_cons.1 hp with rfl | hp
          · exact k1
          · exact h2 p hp
        · rw [List.append_assoc] at h4; exact h4
      · cases k2
    · rintro ⟨K, h1, h2, h3, h4⟩
      cases K with
      | nil => cases h1
      | cons p K =>
        rw [List.map_cons] at h1
        injection h1 with h5 h6
        have k1 : p.2 ∈ it.2 := by rw [← h5]; exact h2 p (List.mem_cons_self ..)
        have e : pl ++ (p :: K).map plW2 = (pl ++ [(p.2.1, it.1)]) ++ K.map plW2 := by rw [← h5]; simp [plW2]
        rw [e] at h4
        have hc := cap_mono h4
        refine ⟨p.2, k1, ?_⟩
        rw [if_pos ((hF p.2 k1).2 hc)]
        refine List.mem_map.2 ⟨(K.map fun p => p.2.2.1).sum, (allT_iff' r _ _ (fun i hi => hk i (List.mem_cons_of_mem _ hi)) (fun i hi => hw i (List.mem_cons_of_mem _ hi)) hc).2 ⟨K, h6, fun q hq => h2 q (List.mem_cons_of_mem _ hq), rfl, h4⟩, ?_⟩
        rw [h3, List.map_cons, List.sum_cons]
/-- The document's search. -/
def docF (ws : List Wn) : List (List (CdW α)) → List (α × Nat) → Nat → Option (List (α × Nat))
  | [], st, left => if left = 0 then some st else none
  | cs :: r, st, left => docS st left (fun k => docF ws r (st ++ [(k.1, k.2.2)]) (left - k.2.1)) (docN ws st (ws.getD st.length (0, 0)) cs) []
theorem tkn_mem {ws : List Wn} {st : List (α × Nat)} {x : Wn} {c : α} {u : Nat} (h : tknW ws st x c u = true) : (c, u) ∈ st := by
  unfold tknW at h
  obtain ⟨p, hp, h2⟩ := List.any_eq_true.1 h
  rw [Bool.and_eq_true, decide_eq_true_eq] at h2
  rw [← h2.1]
  exact (List.of_mem_zip hp).1
theorem nxt_can {ws : List Wn} {st : List (α × Nat)} {x : Wn} {cs : List (CdW α)} (hu : CanU st) {k : α × Nat × Nat} (h : k ∈ nxtW ws st x cs) : CanU (st ++ [(k.1, k.2.2)]) := by
  unfold nxtW at h
  rw [List.mem_flatMap] at h
  obtain ⟨k', _, k2⟩ := h
  obtain ⟨u, h1, rfl⟩ := List.mem_map.1 k2
  have h2 := List.mem_range'_1.1 (List.mem_filter.1 h1).1
  exact canU_snoc hu h2.1 (by dsimp only; omega)
theorem docF_fill {ws : List Wn} : ∀ (css : List (List (CdW α))) (st : List (α × Nat)) (left : Nat), CanU st → (∀ cs ∈ css, (cs.map fun k => k.1).Nodup) → docF ws css st left = fillW ws css st left
  | [], _, _, _, _ => rfl
  | cs :: r, st, left, hu, hn => by
    unfold docF fillW
    rw [doc_same hu (fun c u h => tkn_mem h) cs [] (hn cs (List.mem_cons_self ..)) (fun k _ h => by cases h)]
    refine fs_congr fun k hk => ?_
    rw [docF_fill r _ _ (nxt_can hu hk) fun c hc => hn c (List.mem_cons_of_mem _ hc)]
/-- The search for vehicles, for bookings whose classes have as many as cap says. -/
def okC (cap : α → Nat) (xs : List Wn) (css : List (List (CdW α))) : Prop := xs.length = css.length ∧ (∀ x ∈ xs, x.1 < x.2) ∧ (∀ cs ∈ css, ∀ k ∈ cs, k.2.2 = cap k.1) ∧ (∀ cs ∈ css, ∀ k ∈ cs, headW cs ≤ k.2.1) ∧ ∀ cs ∈ css, (cs.map fun k => k.1).Nodup
/-- The search for vehicles with as few steps as can be: the program's, over a list that may be out of bounds behind its end. -/
theorem units_go {cap : α → Nat} {xs : List Wn} (hw : ∀ x ∈ xs, x.1 < x.2) : ∀ (css : List (List (CdW α))) (P : List ((α × Wn) × Nat)) (ys : List Wn) (left : Nat), PropW cap P → xs = P.map wnW ++ ys → ys.length = css.length → (∀ cs ∈ css, ∀ k ∈ cs, k.2.2 = cap k.1) → (∀ cs ∈ css, ∀ k ∈ cs, headW cs ≤ k.2.1) → unitsW xs (roomU xs) css (P.map cuW) left = ((solsW xs css (P.map cuW)).find? fun o => decide (o.2 ≤ left)).map Prod.fst
  | [], P, _, left, _, _, _, _, _ => by
    unfold unitsW solsW
    simp
  | cs :: r, P, ys, left, hP, hx, hl, hk, hh => by
    cases ys with
    | nil => cases hl
    | cons y ys =>
      have hy : xs.getD (P.map cuW).length (0, 0) = y := by
        rw [hx, List.getD_eq_getElem?_getD, List.length_map, List.getElem?_append_right (by simp)]
        simp
      have hyw : y.1 < y.2 := hw y (by rw [hx]; simp)
      unfold unitsW
      rw [hy]
      by_cases hl2 : left < restW (cs :: r)
      · rw [if_pos hl2]
        have e : ((solsW xs (cs :: r) (P.map cuW)).find? fun o => decide (o.2 ≤ left)) = none := List.find?_eq_none.2 fun o ho => by
          have := sols_ge (cs :: r) _ hh o ho
          simp; omega
        rw [e]; rfl
      · rw [if_neg hl2]
        unfold solsW
        rw [hy, List.find?_flatMap, List.map_findSome?]
        unfold nxtW
        rw [fs_flat]
        refine fs_congr fun k hkm => ?_
        have hkc := hk cs (List.mem_cons_self ..) k hkm
        rw [fs_filter]
        by_cases h1 : left < k.2.1 + restW r
        · rw [if_pos h1]
          refine (fs_none fun u hu => ?_).symm
          split
          · simp only [Function.comp]
            rw [List.find?_map]
            have e : (solsW xs r (P.map cuW ++ [(k.1, u)])).find? ((fun o : List (α × Nat) × Nat => decide (o.2 ≤ left)) ∘ fun o => (o.1, k.2.1 + o.2)) = none := List.find?_eq_none.2 fun o ho => by
              have := sols_ge r _ (fun cs hcs => hh cs (List.mem_cons_of_mem _ hcs)) o ho
              simp; omega
            rw [e]; rfl
          · rfl
        · rw [if_neg h1]
          by_cases h2 : roomU xs (P.map cuW) y k = false
          · rw [if_pos h2]
            refine (fs_none fun u hu => ?_).symm
            rw [List.mem_range'_1] at hu
            rw [roomU_no ⟨P, hP, rfl, y :: ys, hx⟩ hyw hkc h2 u hu.1 (by omega), if_neg (by decide)]
          · rw [if_neg h2]
            refine fs_congr fun u hu => ?_
            rw [List.mem_range'_1] at hu
            cases ht : tknW xs (P.map cuW) y k.1 u with
            | true => rfl
            | false =>
              rw [if_neg (by decide), if_pos (by rfl)]
              simp only [Function.comp]
              have hP2 : PropW cap (P ++ [((k.1, y), u)]) := by
                refine ⟨fun p hp => ?_, ?_⟩
                · rcases List.mem_append.1 hp with hp | hp
                  · exact hP.1 p hp
                  · rw [List.mem_singleton.1 hp]
                    dsimp only
                    omega
                · rw [List.pairwise_append]
                  refine ⟨hP.2, List.pairwise_singleton _ _, fun p hp q hq => ?_⟩
                  rw [List.mem_singleton.1 hq]
                  intro e1 e2 e3
                  dsimp only at e1 e2 e3
                  have k7 : tknW xs (P.map cuW) y k.1 u = true := by
                    rw [hx]
                    unfold tknW
                    rw [zip_map, List.any_map, List.any_eq_true]
                    refine ⟨p, hp, ?_⟩
                    simp only [Function.comp, Bool.and_eq_true, decide_eq_true_eq]
                    refine ⟨?_, e2⟩
                    unfold cuW
                    rw [e1, e3]
                  rw [k7] at ht
                  cases ht
              have hcu : (P ++ [((k.1, y), u)]).map cuW = P.map cuW ++ [(k.1, u)] := by simp [cuW]
              have ih := units_go hw r (P ++ [((k.1, y), u)]) ys (left - k.2.1) hP2 (by rw [hx]; simp [wnW]) (by simpa using hl) (fun c hc => hk c (List.mem_cons_of_mem _ hc)) (fun c hc => hh c (List.mem_cons_of_mem _ hc))
              rw [hcu] at ih
              rw [List.find?_map, ih]
              have e : (fun o : List (α × Nat) × Nat => decide (o.2 ≤ left)) ∘ (fun o : List (α × Nat) × Nat => (o.1, k.2.1 + o.2)) = fun o : List (α × Nat) × Nat => decide (o.2 ≤ left - k.2.1) := by
                funext o
                simp only [Function.comp, decide_eq_decide]
                omega
              rw [e, Option.map_map]; rfl
/-- The program's least over any order of the bookings, its vehicles, and the document's answer. -/
theorem assign_same {cap : α → Nat} {xs : List Wn} {css : List (List (CdW α))} (h : okC cap xs css) {items : List (ItW α)} (hp : items.Perm (xs.zip css)) :
    (bbW roomF items [] 0 none = none ∧ ∀ n, docF xs css [] n = none) ∨ ∃ n o, bbW roomF items [] 0 none = some n ∧ (∀ m, m < n → docF xs css [] m = none) ∧ docF xs css [] n = some o ∧ unitsW xs (roomU xs) css [] n = some o ∧ (o, n) ∈ solsW xs css [] := by
  obtain ⟨hl, hw, hk, hh, hn⟩ := h
  have hin : ∀ it ∈ items, it.2 ∈ css ∧ it.1 ∈ xs := fun it hi => by
    have := List.of_mem_zip (hp.mem_iff.1 hi)
    exact ⟨this.2, this.1⟩
  have hdoc : ∀ m, docF xs css [] m = ((solsW xs css []).find? fun o => decide (o.2 = m)).map Prod.fst := fun m => by
    rw [docF_fill css [] m canU_nil hn, fill_find]
  have hall : ∀ t, t ∈ allT roomF items [] ↔ ∃ o, (o, t) ∈ solsW xs css [] := fun t => by
    rw [sols_div hl hw hk]
    have hF := allT_iff' (cap := cap) items [] t (fun it hi => hk _ (hin it hi).1) (fun it hi => hw _ (hin it hi).2) (fun c t => Nat.zero_le _)
    rw [hF]
    exact ⟨div_perm hp, div_perm hp.symm⟩
  have hb := bb_min (F := roomF) items [] 0 none fun it hi => hh _ (hin it hi).1
  have hz : ((allT roomF items ([] : List (α × Wn))).map fun t => 0 + t) = allT roomF items [] := by
    conv => rhs; rw [← List.map_id (allT roomF items [])]
    exact List.map_congr_left fun t _ => Nat.zero_add t
  rw [hz] at hb
  rcases minO_none (allT roomF items []) with ⟨h1, h2⟩ | ⟨n, h1, h2, h3⟩
  · refine .inl ⟨hb.trans h2, fun m => ?_⟩
    rw [hdoc, List.find?_eq_none.2 fun o ho => ?_]; rfl
    have := (hall o.2).2 ⟨o.1, ho⟩
    rw [h1] at this
    cases this
  · obtain ⟨o1, ho1⟩ := (hall n).1 h2
    have hmin : ∀ o ∈ solsW xs css [], n ≤ o.2 := fun o ho => h3 o.2 ((hall o.2).2 ⟨o.1, ho⟩)
    obtain ⟨o, ho⟩ : ∃ o, ((solsW xs css []).find? fun o => decide (o.2 = n)) = some o := by
      cases hf : (solsW xs css []).find? fun o => decide (o.2 = n) with
      | some o => exact ⟨o, rfl⟩
      | none => exact absurd (List.find?_eq_none.1 hf (o1, n) ho1) (by simp)
    have ho2 : o.2 = n := by simpa using List.find?_some ho
    refine .inr ⟨n, o.1, hb.trans h1, fun m hm => ?_, ?_, ?_, ?_⟩
    · rw [hdoc, List.find?_eq_none.2 fun o ho => ?_]; rfl
      have := hmin o ho
      simp; omega
    · rw [hdoc, ho]; rfl
    · have h5 := units_go (cap := cap) hw css [] xs n ⟨(fun p hp => by cases hp), List.Pairwise.nil⟩ rfl hl hk hh
      rw [List.map_nil, find_least hmin, ho] at h5
      exact h5
    · rw [← ho2]
      exact List.mem_of_find?_eq_some ho
end
end Go.Proofs.YtempjmpfdniecaaGreatDoor
namespace Go.Proofs.YtempjmpfdniecaaGreatDoor
section
variable {α : Type} [DecidableEq α]
/-- The classes of a way, with their steps (from i on) and numbers. -/
def wayC (many : α → Nat) : Nat → List α → List (CdW α)
  | _, [] => []
  | i, c :: r => (c, i, many c) :: wayC many (i + 1) r
/-- Those with vehicles. -/
def chC (many : α → Nat) (ks : List α) : List (CdW α) := (wayC many 0 ks).filter fun k => decide (0 < k.2.2)
omit [DecidableEq α] in
theorem way_mem {many : α → Nat} : ∀ (ks : List α) (i : Nat) (k : CdW α), k ∈ wayC many i ks → i ≤ k.2.1 ∧ k.2.1 < i + ks.length ∧ k.2.2 = many k.1
  | [], _, _, h => by cases h
  | c :: r, i, k, h => by
    unfold wayC at h
    rcases List.mem_cons.1 h with rfl | h
    · exact ⟨Nat.le_refl _, by simp, rfl⟩
    · have := way_mem r (i + 1) k h
      rw [List.length_cons]
      omega
omit [DecidableEq α] in
theorem way_keys {many : α → Nat} : ∀ (ks : List α) (i : Nat), (wayC many i ks).map (fun k => k.1) = ks
  | [], _ => rfl
  | c :: r, i => by rw [wayC, List.map_cons, way_keys r]
omit [DecidableEq α] in
theorem way_head {many : α → Nat} : ∀ (ks : List α) (i : Nat), ∀ k ∈ (wayC many i ks).filter (fun k => decide (0 < k.2.2)), headW ((wayC many i ks).filter fun k => decide (0 < k.2.2)) ≤ k.2.1
  | [], _, _, h => by cases h
  | c :: r, i, k, h => by
    unfold wayC at h ⊢
    by_cases h0 : 0 < many c
    · rw [List.filter_cons_of_pos (by simpa using h0)] at h ⊢
      show i ≤ k.2.1
      rcases List.mem_cons.1 h with rfl | h
      · exact Nat.le_refl _
      · have := way_mem r (i + 1) k (List.mem_filter.1 h).1
        omega
    · rw [List.filter_cons_of_neg (by simpa using h0)] at h ⊢
      exact way_head r (i + 1) k h
omit [DecidableEq α] in
theorem ch_ok {many : α → Nat} {ks : List α} (hn : ks.Nodup) : (∀ k ∈ chC many ks, k.2.2 = many k.1) ∧ (∀ k ∈ chC many ks, headW (chC many ks) ≤ k.2.1) ∧ ((chC many ks).map fun k => k.1).Nodup ∧ ∀ k ∈ chC many ks, k.2.1 < ks.length :=
  ⟨fun k hk => (way_mem ks 0 k (List.mem_filter.1 hk).1).2.2, way_head ks 0, by
    have h : ((chC many ks).map fun k => k.1).Sublist ((wayC many 0 ks).map fun k => k.1) := List.Sublist.map _ List.filter_sublist
    rw [way_keys] at h
    exact h.nodup hn, fun k hk => by
    have := (way_mem ks 0 k (List.mem_filter.1 hk).1).2.1
    omega⟩
/-- The steps of an end are bounded. -/
theorem sols_le {ws : List Wn} {M : Nat} : ∀ (css : List (List (CdW α))) (st : List (α × Nat)), (∀ cs ∈ css, ∀ k ∈ cs, k.2.1 ≤ M) → ∀ o ∈ solsW ws css st, o.2 ≤ css.length * M
  | [], st, _, o, h => by
    unfold solsW at h
    rw [List.mem_singleton.1 h]
    exact Nat.zero_le _
  | cs :: r, st, hh, o, h => by
    unfold solsW at h
    rw [List.mem_flatMap] at h
    obtain ⟨k, h1, h2⟩ := h
    obtain ⟨o', h3, rfl⟩ := List.mem_map.1 h2
    unfold nxtW at h1
    rw [List.mem_flatMap] at h1
    obtain ⟨k', k1, k2⟩ := h1
    obtain ⟨u, _, rfl⟩ := List.mem_map.1 k2
    have i1 := hh cs (List.mem_cons_self ..) k' k1
    have i2 := sols_le r _ (fun cs hcs => hh cs (List.mem_cons_of_mem _ hcs)) o' h3
    show k'.2.1 + o'.2 ≤ (r.length + 1) * M
    rw [Nat.add_mul]
    omega
end
end Go.Proofs.YtempjmpfdniecaaGreatDoor
namespace Go.Proofs.YtempjmpfdniecaaGreatDoor
open Go.RowKit
theorem SlOld.again {α : Type} {enc : α → List Value} {k : Nat} {T : TypeId} {N : Nat} {row : Option Nat} {A : Option Addr} {n : Nat} {l : List α} {w : World} (h : SlOld enc k T N row A n l w) : SlOld enc k T w.heap.size row A n l w := ⟨h.1, fun b off e hn => by
  obtain ⟨b2, off2, cells, fz, e2, hh, _⟩ := h.1.at_ hn
  rw [e] at e2; cases e2
  exact ⟨(Array.getElem?_eq_some_iff.1 hh).1, (h.2 b off e hn).2⟩⟩
theorem BlkOld.again2 {N g br : Nat} {T : TypeId} {cs : List Value} {w : World} (h : BlkOld N (some br) g T cs w) : BlkOld w.heap.size (some br) g T cs w := ⟨⟨h.2.lt, h.1.2⟩, h.2⟩
theorem iE_len (x : Int) : (iEnc x).length = 1 := rfl
end Go.Proofs.YtempjmpfdniecaaGreatDoor
namespace Go.Proofs.YtempjmpfdniecaaGreatDoor
section
variable {α β : Type}
theorem sink_map {lt : α → α → Bool} {lt' : β → β → Bool} {f : α → β} (hf : ∀ x y, lt' (f x) (f y) = lt x y) : ∀ (j : Nat) (l : List α), sink lt' j (l.map f) = (sink lt j l).map f
  | 0, l => by simp [sink]
  | j + 1, l => by
    have ih := fun m => sink_map (lt := lt) (lt' := lt') hf j m
    cases hx : l[j + 1]? with
    | none =>
      unfold sink
      simp [List.getElem?_map, hx]
    | some x =>
      cases hy : l[j]? with
      | none =>
        unfold sink
        simp [List.getElem?_map, hx, hy]
      | some y =>
        have hx' : (l.map f)[j + 1]? = some (f x) := by rw [List.getElem?_map, hx]; rfl
        have hy' : (l.map f)[j]? = some (f y) := by rw [List.getElem?_map, hy]; rfl
        cases h : lt x y with
        | true =>
          rw [sink_yes hx hy h, sink_yes hx' hy' (by rw [hf]; exact h), ← ih, List.map_set, List.map_set]
        | false =>
          rw [sink_no hx hy h, sink_no hx' hy' (by rw [hf]; exact h)]
theorem isortF_map {lt : α → α → Bool} {lt' : β → β → Bool} {f : α → β} (hf : ∀ x y, lt' (f x) (f y) = lt x y) : ∀ (k i : Nat) (l : List α), isortF lt' k i (l.map f) = (isortF lt k i l).map f
  | 0, i, l => by simp [isortF]
  | k + 1, i, l => by
    unfold isortF
    rw [sink_map hf, isortF_map hf]
/-- Sorting commutes with a map that keeps the order. -/
theorem isort_mapF {lt : α → α → Bool} {lt' : β → β → Bool} {f : α → β} (hf : ∀ x y, lt' (f x) (f y) = lt x y) (l : List α) : isort lt' (l.map f) = (isort lt l).map f := by
  unfold isort
  rw [isortF_map hf, List.length_map]
end
end Go.Proofs.YtempjmpfdniecaaGreatDoor
namespace Go.Proofs.YtempjmpfdniecaaGreatDoor
def bkAt (l : List Bk) (i : Nat) : Bk := (l[i]?).getD ⟨⟨#[]⟩, ⟨#[]⟩, 0, 0, 0, 0⟩
end Go.Proofs.YtempjmpfdniecaaGreatDoor
namespace Go.Proofs.YtempjmpfdniecaaGreatDoor
open Go.RowKit
/-- A station as cells: a key and fourteen numbers. -/
def stCells (key : ByteArray) (hs : List Int) : List Value := .string key :: hs.map (Value.int .i64)
theorem st_one (key : ByteArray) (hs : List Int) : ∀ v ∈ stCells key hs, v.oneCell' = true := by
  intro v hv
  simp only [stCells, List.mem_cons] at hv
  rcases hv with rfl | hv
  · rfl
  · exact ints_one _ v hv
theorem info_st : (Tryz.prog.info? 152).map (·.size) = some 15 := by kernel_rfl
theorem info_win : (Tryz.prog.info? 27).map (·.size) = some 2 := by kernel_rfl
theorem st_len (key : ByteArray) (hs : List Int) (h : hs.length = 14) : (stCells key hs).length = 15 := by simp [stCells, h]
theorem info_hours : (Tryz.prog.info? 150).map (·.size) = some 14 := by kernel_rfl
end Go.Proofs.YtempjmpfdniecaaGreatDoor
namespace Go.Proofs.YtempjmpfdniecaaGreatDoor
open Go.RowKit
def stEnc (s : St) : List Value := stCells s.key s.hs
def StOk (s : St) : Prop := s.hs.length = 14 ∧ s.key.size ≤ 1000000 ∧ ∀ h ∈ s.hs, -9223372036854775808 ≤ h ∧ h ≤ 9223372036854775807
theorem hrs_pair (hs : List Int) (j : Nat) (h : j * 2 + 1 < hs.length) : ((hs.map (Value.int .i64)).drop (j * 2)).take 2 = [.int .i64 (frAt hs j), .int .i64 (toAt hs j)] := by
  have h0 : j * 2 < (hs.map (Value.int .i64)).length := by simp; omega
  have h1 : j * 2 + 1 < (hs.map (Value.int .i64)).length := by simp; omega
  rw [List.drop_eq_getElem_cons h0, List.drop_eq_getElem_cons h1]
  simp [frAt, toAt, List.getD_eq_getElem?_getD, List.getElem?_eq_getElem (show j * 2 < hs.length by omega), List.getElem?_eq_getElem h]
set_option maxRecDepth 100000 in
set_option maxHeartbeats 1000000 in
theorem checkStations_any (l : List St) (A : Option Addr) (n c : Nat) (w : World) (hl : SlT stEnc 15 152 w A n l) (hok : ∀ s ∈ l, StOk s) (hn : n ≤ 1000000) :
    Calls Tryz.prog 207 #[.slice A n c] w fun e w' => e = .returned (.int .i64 (stationsE l)) ∧ w.grownBy w' none := by
  by_cases h50 : 50 < n
  · have hsp : stationsE l = 2 := by simp [stationsE, hl.len, h50]
    have Hsp := Lib.hid hsp; clear hsp
    go_enter Tryz.func207, Tryz.ntmps207
    go_wp2_with fail
    go_ret
    exact ⟨by rw [Hsp.out]; rfl, World.grownBy.refl _ _⟩
  · have hsp : stationsE l = scanE stationE (prevOf l 0) (l.drop 0) := by simp [stationsE, hl.len, h50, prevOf]
    have Hsp := Lib.hid hsp; clear hsp
    have hd : decide ((50 : Int) < (n : Int)) = false := by simp; omega
    go_enter Tryz.func207, Tryz.ntmps207
    go_wp2_with fail
    go_loopw [12] (fun i wr => ∃ k : Nat, k ≤ n ∧ i = .int .i64 k ∧ stationsE l = scanE stationE (prevOf l k) (l.drop k) ∧ w.grownBy wr none) (fun i _ => n - (intOf i).toNat)
    case atStart => exact ⟨0, Nat.zero_le _, rfl, Hsp.out, World.grownBy.refl _ _⟩
    case round =>
      obtain ⟨k, hk, rfl, hE, hgr⟩ := hrel
      have HE := Lib.hid hE; clear hE
      by_cases hlt : k < n
      · have hlr := hl.grow0 hgr
        obtain ⟨b, off, rfl, hbl, hrg⟩ := hlr.get (by omega)
        obtain ⟨x, hx⟩ : ∃ x, l[k]? = some x := ⟨_, List.getElem?_eq_getElem (by have := hl.len; omega)⟩
        have hxo := hok x (List.mem_of_getElem? hx)
        have hrx := hrg k x hx
        have hat := scanE_at stationE l k x hx
        have Hat := Lib.hid hat; clear hat
        have Hrg := Lib.hid hrg; clear hrg
        obtain ⟨key, hs⟩ := x
        have hrx : wr.rangeAt b (off + k * 15) (stCells key hs) := hrx
        have hl14 := Lib.hid (show hs.length = 14 from hxo.1)
        have hks : key.size ≤ 1000000 := hxo.2.1
        have hhb : ∀ h ∈ hs, -9223372036854775808 ≤ h ∧ h ≤ 9223372036854775807 := hxo.2.2
        have hln := fun (_ : True) => (st_len key hs hl14.out)
        have hst : (Tryz.prog.info? 152).map (·.size) = some (stCells key hs).length := by rw [hln trivial]; exact info_st
        have Hst := Lib.hid hst; clear hst hxo hln
        have hnew : Blk (wr.alloc (.cells #[.string ⟨#[]⟩, .int .i64 0, .int .i64 0, .int .i64 0, .int .i64 0, .int .i64 0, .int .i64 0, .int .i64 0, .int .i64 0, .int .i64 0, .int .i64 0, .int .i64 0, .int .i64 0, .int .i64 0, .int .i64 0] 152)) wr.heap.size 152 (stCells (⟨#[]⟩ : ByteArray) (List.replicate 14 0)) := Blk.at_ wr rfl _ _
        go_wp2_with (first
          | (with_reducible refine wpList_load_mid rfl 152 (.tmp 15) rfl b (off + k * 15) rfl (stCells key hs) _ hrx Tryz.underlying152 rfl Hst.out ?_)
          | (with_reducible refine wpList_store_all rfl 152 (.tmp 4) (.tmp 16) rfl wr.heap.size _ _ (stCells key hs) hnew rfl rfl 15 info_st (st_len _ _ hl14.out) (st_len _ _ (by simp)) (st_one _ _) ?_
             intro w1 hb1 hg1
             have hk1 : w1.cell? ⟨wr.heap.size, 0, none⟩ = some (.string key) := hb1.cell_of rfl))
        refine (isKey_any key _ (by omega)).mono ?_
        rintro e w2 ⟨rfl, rfl⟩
        have hgr1 : w.grownBy w1 none := grow_own (grow_alloc hgr _) hg1 (by simpa using hgr.size)
        have hgw : wr.grownBy w1 none := grow_own (grow_alloc (World.grownBy.refl _ _) _) hg1 (by simp)
        clear hrx hnew hg1
        by_cases hkey : keyB key = false
        · have h5 : stationE (prevOf l k) ⟨key, hs⟩ = 5 := by simp [stationE, hkey]
          have H5 := Lib.hid h5; clear h5
          go_wp2_with fail
          go_ret
          exact ⟨by rw [HE.out, Hat.out, if_neg (by rw [H5.out]; decide), H5.out]; rfl, hgr1⟩
        · have hkey : keyB key = true := by simpa using hkey
          obtain ⟨o8, ho8⟩ : ∃ o, o = prevB (prevOf l k) (fun q => leB key q.key) := ⟨_, rfl⟩
          have Ho8 := Lib.hid ho8; clear ho8
          go_upto_region 8 with fail
          go_cut [22] (fun v wx => v = .bool o8 ∧ ∃ nq, wx = w1.drewN nq)
          case first =>
            by_cases hk0 : k = 0
            · have hz : decide ((0 : Int) < (k : Int)) = false := by simp; omega
              have hz2 : decide (0 < k) = false := by simp; omega
              have ho : o8 = false := by rw [Ho8.out]; simp [prevB, prevOf, hk0]
              have Ho := Lib.hid ho
              clear ho hk0
              go_quiet (fail)
              go_wp2_with fail
              go_meet
              exact ⟨by rw [Ho.out], _, rfl⟩
            · have hz : (0 : Int) < (k : Int) := by omega
              have hz2 : decide (0 < k) = true := decide_eq_true (by omega)
              obtain ⟨q, hq⟩ : ∃ q, l[k - 1]? = some q := ⟨_, List.getElem?_eq_getElem (by have := hl.len; omega)⟩
              have hrq := Hrg.out (k - 1) q hq
              have ho : o8 = leB key q.key := by rw [Ho8.out]; simp [prevB, prevOf, hk0, hq]
              have Ho := Lib.hid ho
              have hqk : wr.cell? ⟨b, off + (k - 1) * 15, none⟩ = some (.string q.key) := hrq 0 _ rfl
              have hki : (k : Int) - 1 = ((k - 1 : Nat) : Int) := by omega
              have hk1n : (k : Int) - 1 < (n : Int) := by omega
              have hqk1 : w1.cell? ⟨b, off + (k - 1) * 15, none⟩ = some (.string q.key) := (World.cell?_of_block (hgw.block b hbl (by simp))).trans hqk
              clear ho hk0 hq hrq
              go_quiet (fail)
              go_wp2_with fail
              go_meet
              exact ⟨by rw [Ho.out]; rfl, _, rfl⟩
          case rest =>
            obtain ⟨rfl, nq, rfl⟩ := hcut
            have hb2 : Blk (w1.drewN nq) wr.heap.size 152 (stCells key hs) := hb1.drewN nq
            have hgr2 : w.grownBy (w1.drewN nq) none := grow_drewN hgr1 nq
            clear hb1 hgr1 hgw
            obtain ⟨w2, hw2⟩ : ∃ w2, w2 = w1.drewN nq := ⟨_, rfl⟩
            rw [← hw2] at hb2 hgr2 ⊢
            clear hw2
            cases o8
            · have hE1 : stationE (prevOf l k) ⟨key, hs⟩ = if hoursBad hs then 1 else 0 := by
                have ho := Ho8.out
                unfold stationE
                rw [if_neg (by simp [hkey]), show prevB (prevOf l k) (fun q => leB (⟨key, hs⟩ : St).key q.key) = _ from ho.symm]
                rfl
              have HE1 := Lib.hid hE1; clear hE1
              have hvv : ∀ j v, (hs.map (Value.int .i64))[j]? = some v → (stCells key hs)[1 + j]? = some v := fun j v hv => by rw [Nat.add_comm]; exact hv
              have Hvv := Lib.hid hvv; clear hvv
              go_wp2_with (with_reducible refine wpList_load_blk rfl 150 (.tmp 36) rfl wr.heap.size 1 _ (stCells key hs) (hs.map (Value.int .i64)) _ hb2 rfl Tryz.underlying150 rfl 14 info_hours (by simpa using hl14.out) Hvv.out ?_)
              obtain ⟨wo, hwo⟩ : ∃ wo : World, wo = wr := ⟨_, rfl⟩
              rw [← hwo] at hb2 ⊢
              clear hwo
              go_loopw [38] (fun i wr => ∃ j : Nat, j ≤ 7 ∧ i = .int .i64 j ∧ (∀ t, t < j → winBad (frAt hs t) (toAt hs t) = false) ∧ w.grownBy wr none) (fun i _ => 7 - (intOf i).toNat)
              case atStart => exact ⟨0, by omega, rfl, fun t ht => absurd ht (by omega), hgr2⟩
              case round =>
                obtain ⟨j, hj, rfl, hJ, hgj⟩ := hrel
                have HJ := Lib.hid hJ; clear hJ
                by_cases hj7 : j < 7
                · have hvs : ((hs.map (Value.int .i64)).drop (j * 2)).take 2 = [.int .i64 (frAt hs j), .int .i64 (toAt hs j)] := hrs_pair hs j (by have := hl14.out; omega)
                  have Hvs := Lib.hid hvs; clear hvs
                  obtain ⟨f, hf⟩ : ∃ f, f = frAt hs j := ⟨_, rfl⟩
                  obtain ⟨t, ht⟩ : ∃ t, t = toAt hs j := ⟨_, rfl⟩
                  rw [← hf, ← ht] at Hvs
                  have Hf := Lib.hid hf
                  have Ht := Lib.hid ht
                  clear hf ht
                  go_wp2_with (with_reducible refine wpList_index_row rfl 150 (.tmp 37) (.tmp 38) rfl (hs.map (Value.int .i64)) j rfl rfl 7 _ Tryz.underlying150 _ Tryz.underlying27 rfl 2 info_win hj7 [.int .i64 f, .int .i64 t] Hvs.out ?_)
                  refine (in_any _ _ _ _).mono ?_
                  rintro e w3 ⟨rfl, rfl⟩
                  obtain ⟨x, hx⟩ : ∃ x, inB f 0 t = x := ⟨_, rfl⟩
                  rw [hx]
                  have Hx := Lib.hid hx; clear hx
                  by_cases hbad : winBad f t = true
                  · have hany : hoursBad hs = true := by
                      simp only [hoursBad, List.any_eq_true, List.mem_range]
                      exact ⟨j, hj7, by rw [← Hf.out, ← Ht.out]; exact hbad⟩
                    have Hfin := Lib.hid (show stationE (prevOf l k) ⟨key, hs⟩ = 1 by rw [HE1.out, if_pos hany])
                    have Hb := Lib.hid hbad
                    clear hany hbad
                    cases x
                    · go_wp2_with fail
                      go_ret
                      exact ⟨by rw [HE.out, Hat.out, if_neg (by rw [Hfin.out]; decide), Hfin.out]; rfl, grow_alloc hgj _⟩
                    · have h14 : (1440 : Int) < t := by have := Hb.out; simp [winBad, Hx.out] at this; exact this
                      go_wp2_with fail
                      go_ret
                      exact ⟨by rw [HE.out, Hat.out, if_neg (by rw [Hfin.out]; decide), Hfin.out]; rfl, grow_alloc hgj _⟩
                  · have hx1 : x = true := by have := Hx.out; simp only [winBad, this] at hbad; cases x <;> simp_all
                    have h14 : ¬ (1440 : Int) < t := by intro h; apply hbad; simp [winBad, h]
                    have Hb := Lib.hid (show winBad f t = false by simpa using hbad)
                    subst hx1
                    clear hbad
                    go_wp2_with fail
                    go_roundw
                    case rel => exact ⟨j + 1, by omega, by go_num, fun i hi => by
                      rcases Nat.lt_or_ge i j with h | h
                      · exact HJ.out i h
                      · obtain rfl : i = j := by omega
                        rw [← Hf.out, ← Ht.out]; exact Hb.out, grow_alloc hgj _⟩
                    case measure => simp [intOf]; omega
                · have hno : hoursBad hs = false := by
                    simp only [hoursBad, List.any_eq_false, List.mem_range]
                    intro i hi
                    rw [HJ.out i (by omega)]
                    decide
                  have Hfin := Lib.hid (show stationE (prevOf l k) ⟨key, hs⟩ = 0 by rw [HE1.out, if_neg (by simp [hno])])
                  clear hno
                  go_wp2_with fail
                  go_roundw
                  case rel => exact ⟨k + 1, by omega, by go_num, by rw [HE.out, Hat.out, if_pos Hfin.out], hgj⟩
                  case measure => simp [intOf]; omega
            · have hE1 : stationE (prevOf l k) ⟨key, hs⟩ = 7 := by
                have ho := Ho8.out
                unfold stationE
                rw [if_neg (by simp [hkey]), show prevB (prevOf l k) (fun q => leB (⟨key, hs⟩ : St).key q.key) = _ from ho.symm]
                rfl
              have Hfin := Lib.hid hE1; clear hE1
              go_wp2_with fail
              go_ret
              exact ⟨by rw [HE.out, Hat.out, if_neg (by rw [Hfin.out]; decide), Hfin.out]; rfl, hgr2⟩
      · go_wp2_with fail
        go_ret
        exact ⟨by rw [HE.out, scanE_end _ _ _ _ (by have := hl.len; omega)]; rfl, hgr⟩
end Go.Proofs.YtempjmpfdniecaaGreatDoor
namespace Go.Proofs.YtempjmpfdniecaaGreatDoor
open Go.RowKit
open Go.ChangeMaps (setBlock)
/-- The map at block g holds es. -/
def MapAt (g : Nat) (es : Array MapEntry) (ck : Nat) (w : World) : Prop := w.heap[g]? = some (.map es ck)
theorem MapAt.lasts2 {N : Nat} {row : Option Nat} {Tt : List TypeId} {g : Nat} {es : Array MapEntry} {ck : Nat} : Lasts2 N row Tt (MapAt g es ck) :=
  ⟨fun w w' h hx => (h.block g (Array.getElem?_eq_some_iff.1 hx).1 (by simp)).trans hx,
   fun w w' r T c h1 _ _ h3 hx => (h3.block g (Array.getElem?_eq_some_iff.1 hx).1 (fun e => by
     have e2 : g = r := by injection e
     subst e2
     unfold MapAt at hx
     rw [h1] at hx; cases hx)).trans hx⟩
/-- The map at block g, one of the call's own. -/
def OwnMap (N g : Nat) (es : Array MapEntry) (ck : Nat) (w : World) : Prop := N ≤ g ∧ MapAt g es ck w
theorem OwnMap.lasts2 {N M : Nat} {row : Option Nat} {Tt : List TypeId} {g : Nat} {es : Array MapEntry} {ck : Nat} : Lasts2 N row Tt (OwnMap M g es ck) :=
  ⟨fun w w' h hx => ⟨hx.1, MapAt.lasts2.gr (N := N) (row := row) (Tt := Tt) w w' h hx.2⟩, fun w w' r T c h1 h2 h3 h4 hx => ⟨hx.1, MapAt.lasts2.st w w' r T c h1 h2 h3 h4 hx.2⟩⟩
theorem BlkOld.far {N g b : Nat} {row : Option Nat} {T : TypeId} {cs : List Value} : ∀ w w' : World, N ≤ g → w.grownBy w' (some g) → BlkOld N row b T cs w → BlkOld N row b T cs w' := fun _ _ h1 h2 ⟨h3, h4⟩ => ⟨h3, h4.grown h2 (fun e => by
  have e2 : b = g := by injection e
  omega)⟩
end Go.Proofs.YtempjmpfdniecaaGreatDoor
namespace Go.Proofs.YtempjmpfdniecaaGreatDoor
open Go.RowKit Go.MapKept
open Go.ChangeMaps (setBlock)
theorem bytes_ext {a b : ByteArray} (h : a.toList = b.toList) : a = b := by
  rw [ByteArray.toList_eq, ByteArray.toList_eq] at h
  cases a; cases b
  simp only at h
  exact congrArg ByteArray.mk (Array.toList_inj.1 h)
theorem bytes_eqb {a b : ByteArray} : (a.toList == b.toList) = true ↔ a = b :=
  ⟨fun h => bytes_ext (by simpa using h), fun h => by subst h; simp⟩
def fDel {α : Type} (f : ByteArray → Option α) (k : ByteArray) : ByteArray → Option α := fun j => if (j.toList == k.toList) = true then none else f j
def fNil {α : Type} : ByteArray → Option α := fun _ => none
theorem fDel_same {α : Type} (f : ByteArray → Option α) (k : ByteArray) : fDel f k k = none := by unfold fDel; rw [if_pos (by simp)]
theorem fDel_other {α : Type} (f : ByteArray → Option α) {k j : ByteArray} (h : j ≠ k) : fDel f k j = f j := by unfold fDel; rw [if_neg (fun e => h (bytes_eqb.1 e))]
/-- What a map's block holds, key by key. -/
def Entries {α : Type} (enc : α → Value) (f : ByteArray → Option α) (es : Array MapEntry) (ck : Nat) : Prop :=
  Stamped es ck ∧ (∀ x ∈ es.toList, IsKey .string x.key) ∧ ∀ k v, (∃ e ∈ es.toList, e.key = .string k ∧ e.val = v) ↔ ∃ x, f k = some x ∧ v = enc x
/-- The map at block g, one of the call's own, has under each key what f says. -/
def MapF {α : Type} (enc : α → Value) (N g : Nat) (f : ByteArray → Option α) (w : World) : Prop :=
  N ≤ g ∧ ∃ es ck, w.heap[g]? = some (.map es ck) ∧ Entries enc f es ck
theorem MapF.lt {α : Type} {enc : α → Value} {N g : Nat} {f : ByteArray → Option α} {w : World} (h : MapF enc N g f w) : g < w.heap.size := by
  obtain ⟨_, es, ck, hb, _⟩ := h
  exact (Array.getElem?_eq_some_iff.1 hb).1
theorem MapF.kept {α : Type} {enc : α → Value} {N g : Nat} {f : ByteArray → Option α} {w w' : World} {row : Option Nat} (h : MapF enc N g f w) (hg : w.grownBy w' row) (hne : some g ≠ row) : MapF enc N g f w' := by
  have hlt := h.lt
  obtain ⟨h0, es, ck, hb, he⟩ := h
  exact ⟨h0, es, ck, (hg.block g hlt hne).trans hb, he⟩
theorem MapF.lasts2 {α : Type} {enc : α → Value} {N M : Nat} {row : Option Nat} {Tt : List TypeId} {g : Nat} {f : ByteArray → Option α} : Lasts2 N row Tt (MapF enc M g f) :=
  ⟨fun w w' h hx => hx.kept h (by simp),
   fun w w' r T c h1 _ _ h3 hx => hx.kept h3 (fun e => by
     have e2 : g = r := by injection e
     subst e2
     obtain ⟨_, es, ck, hb, _⟩ := hx
     rw [h1] at hb; cases hb)⟩
theorem MapF.far {α : Type} {enc : α → Value} {N M g g1 : Nat} {f : ByteArray → Option α} (hne : g1 ≠ g) : ∀ w w' : World, N ≤ g → w.grownBy w' (some g) → MapF enc M g1 f w → MapF enc M g1 f w' :=
  fun _ _ _ hg h => h.kept hg (fun e => hne (by injection e))
theorem SlOld.far {α : Type} {enc : α → List Value} {k N g : Nat} {T : TypeId} {row : Option Nat} {A : Option Addr} {n : Nat} {l : List α} : ∀ w w' : World, N ≤ g → w.grownBy w' (some g) → SlOld enc k T N row A n l w → SlOld enc k T N row A n l w' := fun w w' h1 h2 ⟨h3, h4⟩ => by
  refine ⟨⟨h3.len, fun hn => ?_⟩, h4⟩
  obtain ⟨b, off, cells, fz, e, hh, hr⟩ := h3.at_ hn
  exact ⟨b, off, cells, fz, e, (h2.block b (Array.getElem?_eq_some_iff.1 hh).1 (fun e2 => by
    have e3 : b = g := by injection e2
    obtain ⟨h5, _⟩ := h4 b off e hn
    omega)).trans hh, hr⟩
section
variable {α : Type} {enc : α → Value} {f : ByteArray → Option α} {es : Array MapEntry} {ck : Nat}
theorem Entries.nil : Entries enc fNil #[] 0 := ⟨stamped_empty 0, by simp, fun k v => by simp [fNil]⟩
/-- Where a key is, or that it is not there. -/
theorem Entries.find (h : Entries enc f es ck) (k : ByteArray) : (Instr.findNow .string (.string k) es.toList 0 = some none ∧ f k = none ∧ ∀ x ∈ es.toList, x.key ≠ .string k) ∨ ∃ j e x, Instr.findNow .string (.string k) es.toList 0 = some (some (j, e.val)) ∧ es[j]? = some e ∧ e.key = .string k ∧ f k = some x ∧ e.val = enc x := by
  have hk : IsKey .string (.string k) := trivial
  rcases findNow_spec hk es.toList 0 h.2.1 with ⟨h1, h2⟩ | ⟨j, e, h1, h2, h3⟩
  · left
    refine ⟨h1, ?_, h2⟩
    cases hf : f k with
    | none => rfl
    | some x =>
      obtain ⟨e, he, hek, _⟩ := (h.2.2 k (enc x)).2 ⟨x, hf, rfl⟩
      exact absurd hek (h2 e he)
  · right
    obtain ⟨x, hx, hv⟩ := (h.2.2 k e.val).1 ⟨e, List.mem_of_getElem? h2, h3, rfl⟩
    refine ⟨j, e, x, by simpa using h1, by simpa using h2, h3, hx, hv⟩
theorem Entries.same (h : Entries enc f es ck) {k : ByteArray} (hn : f k = none) : Entries enc (fDel f k) es ck := by
  have e : fDel f k = f := by
    funext j
    by_cases hj : j = k
    · subst hj; rw [fDel_same, hn]
    · rw [fDel_other _ hj]
  rw [e]; exact h
end
end Go.Proofs.YtempjmpfdniecaaGreatDoor
namespace Go.Proofs.YtempjmpfdniecaaGreatDoor
/-- The classes of a booking: its own, then those above. -/
def clsF (cs : List Cs) (b : Bk) : List ByteArray := b.cls :: pathN cs cs.length b.cls
theorem range_bk (l : List Bk) : (List.range l.length).map (bkAt l) = l := by
  apply List.ext_getElem?
  intro i
  rw [List.getElem?_map]
  by_cases hi : i < l.length
  · rw [List.getElem?_range hi, List.getElem?_eq_getElem hi]
    show some ((l[i]?).getD _) = _
    rw [List.getElem?_eq_getElem hi]; rfl
  · rw [List.getElem?_eq_none (by rw [List.length_range]; omega), List.getElem?_eq_none (by omega)]; rfl
end Go.Proofs.YtempjmpfdniecaaGreatDoor
namespace Go.Proofs.YtempjmpfdniecaaGreatDoor
open Go.RowKit
def wnB (b : Bk) : Wn := (b.fr, b.to_)
def capB (sl : List Sk) (k : ByteArray) : Nat := (manyV sl k).toNat
/-- The choices of a booking. -/
def chB (cs : List Cs) (sl : List Sk) (b : Bk) : List (CdW ByteArray) := chC (capB sl) (clsF cs b)
theorem path_nodup {l : List Cs} (hc : Closed l) (hl : loopB l l.length = false) {k : ByteArray} (hk : 0 ≤ ixP (csP k) l 0) : (k :: pathN l l.length k).Nodup := by
  have hno : ∀ x ∈ l, ¬ x.key ∈ pathN l l.length x.key := fun x hx hm => by
    have : loopB l l.length = true := List.any_eq_true.2 ⟨x, hx, inK_mem.2 hm⟩
    rw [hl] at this; cases this
  refine List.nodup_cons.2 ⟨fun hu => ?_, ?_⟩
  · obtain ⟨x, _, hx, rfl⟩ := ix_key hk
    exact hno x hx hu
  · show List.Pairwise (fun a b => a ≠ b) _
    rw [List.pairwise_iff_getElem]
    intro i j hi hj hij he
    have hxi : (pathN l l.length k)[i]? = some ((pathN l l.length k)[i]) := List.getElem?_eq_getElem hi
    have hxj : (pathN l l.length k)[j]? = some ((pathN l l.length k)[j]) := List.getElem?_eq_getElem hj
    rw [← he] at hxj
    generalize (pathN l l.length k)[i] = u at *
    have hd := pathN_drop l i _ _ u hxi
    have hmem : u ∈ pathN l (l.length - (i + 1)) u := by
      rw [← hd]
      refine List.mem_of_getElem? (i := j - (i + 1)) ?_
      rw [List.getElem?_drop, show i + 1 + (j - (i + 1)) = j by omega]; exact hxj
    have hb := pathN_len l l.length k
    have hmore := pathN_more l (l.length - (i + 1)) u (i + 1)
    rw [show l.length - (i + 1) + (i + 1) = l.length by omega] at hmore
    rw [hmore] at hmem
    obtain ⟨x, _, hx, rfl⟩ := ix_key (path_in hc _ _ u (List.mem_of_getElem? hxi))
    exact hno x hx (List.mem_of_mem_take hmem)
theorem path_lenA {l : List Cs} (hc : Closed l) (hl : loopB l l.length = false) {k : ByteArray} (hk : 0 ≤ ixP (csP k) l 0) : (k :: pathN l l.length k).length ≤ l.length := by
  have hin : ∀ u ∈ k :: pathN l l.length k, 0 ≤ ixP (csP u) l 0 := fun u hu => by
    rcases List.mem_cons.1 hu with rfl | hu
    · exact hk
    · exact path_in hc _ _ u hu
  have hbound : ∀ x ∈ (k :: pathN l l.length k).map (fun u => (ixP (csP u) l 0).toNat), x < l.length := fun x hx => by
    obtain ⟨u, hu, rfl⟩ := List.mem_map.1 hx
    have h1 := hin u hu
    have h2 := ixP_bound (p := csP u) l
    omega
  have hsame : ∀ u ∈ k :: pathN l l.length k, ∀ v ∈ k :: pathN l l.length k, (ixP (csP u) l 0).toNat = (ixP (csP v) l 0).toNat → u = v := fun u hu v hv he => by
    obtain ⟨x, hx, _, hxu⟩ := ix_key (hin u hu)
    obtain ⟨y, hy, _, hyv⟩ := ix_key (hin v hv)
    rw [he, hy] at hx
    injection hx with hx
    subst hx
    exact hxu.symm.trans hyv
  have hpair : ((k :: pathN l l.length k).map (fun u => (ixP (csP u) l 0).toNat)).Pairwise (fun a b => a ≠ b) := by
    rw [List.pairwise_map]
    have hnd : (k :: pathN l l.length k).Pairwise (fun a b => a ≠ b) := path_nodup hc hl hk
    exact hnd.imp_of_mem fun {a b} ha hb hab he => hab (hsame a ha b hb he)
  have := pigeon _ _ hbound hpair
  rwa [List.length_map] at this
theorem okB {cs : List Cs} {sl : List Sk} {l : List Bk} (hcl : Closed cs) (hlo : loopB cs cs.length = false) (hk : ∀ b ∈ l, 0 ≤ ixP (csP b.cls) cs 0) (ht : ∀ b ∈ l, b.fr < b.to_) : okC (capB sl) (l.map wnB) (l.map (chB cs sl)) := by
  have hch := fun b hb => ch_ok (many := capB sl) (path_nodup hcl hlo (hk b hb))
  refine ⟨by simp, fun x hx => ?_, fun c hc k hkm => ?_, fun c hc k hkm => ?_, fun c hc => ?_⟩
  · obtain ⟨b, hb, rfl⟩ := List.mem_map.1 hx; exact ht b hb
  · obtain ⟨b, hb, rfl⟩ := List.mem_map.1 hc; exact (hch b hb).1 k hkm
  · obtain ⟨b, hb, rfl⟩ := List.mem_map.1 hc; exact (hch b hb).2.1 k hkm
  · obtain ⟨b, hb, rfl⟩ := List.mem_map.1 hc; exact (hch b hb).2.2.1
/-- What the document gives with so many steps; the first that is there. -/
def asgF (cs : List Cs) (sl : List Sk) (l : List Bk) (n : Nat) : Option (List (ByteArray × Nat)) := docF (l.map wnB) (l.map (chB cs sl)) [] n
def asgO (cs : List Cs) (sl : List Sk) (l : List Bk) : Option (List (ByteArray × Nat)) := (List.range (l.length * cs.length + 1)).findSome? (asgF cs sl l)
theorem range_find {β : Type} {f : Nat → Option β} {N n : Nat} {o : β} (h1 : ∀ m, m < n → f m = none) (h2 : f n = some o) (h : n < N) : (List.range N).findSome? f = some o := by
  obtain ⟨d, rfl⟩ : ∃ d, N = n + (d + 1) := ⟨N - n - 1, by omega⟩
  rw [List.range_add, List.findSome?_append, fs_none (fun x hx => h1 x (List.mem_range.1 hx)), List.range_succ_eq_map, List.map_cons, List.findSome?_cons, Nat.add_zero, h2]
  rfl
theorem sols_empty {ws : List Wn} : ∀ (css : List (List (CdW ByteArray))) (st : List (ByteArray × Nat)), [] ∈ css → solsW ws css st = []
  | [], _, h => by cases h
  | cs :: r, st, h => by
    unfold solsW
    rcases List.mem_cons.1 h with e | h
    · rw [← e]; rfl
    · rw [List.flatMap_eq_nil_iff]
      intro k _
      rw [sols_empty r _ h]; rfl
/-- The program's answer and the document's. -/
theorem asg_same {cs : List Cs} {sl : List Sk} {l : List Bk} (hcl : Closed cs) (hlo : loopB cs cs.length = false) (hk : ∀ b ∈ l, 0 ≤ ixP (csP b.cls) cs 0) (ht : ∀ b ∈ l, b.fr < b.to_) {items : List (ItW ByteArray)} (hp : items.Perm ((l.map wnB).zip (l.map (chB cs sl)))) :
    (bbW roomF items [] 0 none = none ∧ asgO cs sl l = none) ∨ ∃ n o, bbW roomF items [] 0 none = some n ∧ asgO cs sl l = some o ∧ unitsW (l.map wnB) (roomU (l.map wnB)) (l.map (chB cs sl)) [] n = some o ∧ n ≤ l.length * cs.length ∧ (o, n) ∈ solsW (l.map wnB) (l.map (chB cs sl)) [] := by
  rcases assign_same (okB (sl := sl) hcl hlo hk ht) hp with ⟨h1, h2⟩ | ⟨n, o, h1, h2, h3, h4, h5⟩
  · exact .inl ⟨h1, fs_none fun n _ => h2 n⟩
  · have hle := sols_le (M := cs.length) (l.map (chB cs sl)) [] (fun c hc k hkm => by
      obtain ⟨b, hb, rfl⟩ := List.mem_map.1 hc
      have h6 := (ch_ok (many := capB sl) (path_nodup hcl hlo (hk b hb))).2.2.2 k hkm
      have h7 := path_lenA hcl hlo (hk b hb)
      omega) _ h5
    rw [List.length_map] at hle
    exact .inr ⟨n, o, h1, range_find h2 h3 (by dsimp only at hle; omega), h4, hle, h5⟩
theorem asg_empty {cs : List Cs} {sl : List Sk} {l : List Bk} (hcl : Closed cs) (hlo : loopB cs cs.length = false) (hk : ∀ b ∈ l, 0 ≤ ixP (csP b.cls) cs 0) (ht : ∀ b ∈ l, b.fr < b.to_) (h : [] ∈ l.map (chB cs sl)) : asgO cs sl l = none := by
  rcases asg_same (sl := sl) hcl hlo hk ht (List.Perm.refl _) with ⟨_, h2⟩ | ⟨n, o, _, _, _, _, h5⟩
  · exact h2
  · rw [sols_empty _ _ h] at h5; cases h5
end Go.Proofs.YtempjmpfdniecaaGreatDoor
namespace Go.Proofs.YtempjmpfdniecaaGreatDoor
open Go.RowKit
theorem list14 (hs : List Int) (h : hs.length = 14) : ∃ a0 a1 a2 a3 a4 a5 a6 a7 a8 a9 a10 a11 a12 a13, hs = [a0, a1, a2, a3, a4, a5, a6, a7, a8, a9, a10, a11, a12, a13] := by
  match hs, h with
  | [a0, a1, a2, a3, a4, a5, a6, a7, a8, a9, a10, a11, a12, a13], _ => exact ⟨a0, a1, a2, a3, a4, a5, a6, a7, a8, a9, a10, a11, a12, a13, rfl⟩
def hourFr (hs : List Int) (d : Int) : Int := d * 1440 + frAt hs (d % 7).toNat
def hourTo (hs : List Int) (d : Int) : Int := d * 1440 + toAt hs (d % 7).toNat
def GotWin (w : World) (a b : Int) (e : Ending) (w' : World) : Prop := e = .returned (.agg #[.int .i64 a, .int .i64 b]) ∧ w.grownBy w' none
set_option maxRecDepth 100000 in
set_option maxHeartbeats 1000000 in
theorem hours_any (key : ByteArray) (hs : List Int) (d : Int) (w : World) (hl : hs.length = 14) (hd0 : 0 ≤ d) (hd1 : d ≤ 1000000000) (hb : ∀ h ∈ hs, -1000000000000000000 ≤ h ∧ h ≤ 1000000000000000000) :
    Calls Tryz.prog 190 #[.agg (stCells key hs).toArray, .int .i64 d] w (GotWin w (hourFr hs d) (hourTo hs d)) := by
  obtain ⟨j, hj⟩ : ∃ j : Nat, (j : Int) = d % 7 := ⟨(d % 7).toNat, by omega⟩
  have hj7 : j < 7 := by omega
  have hF : hourFr hs d = d * 1440 + frAt hs j := by unfold hourFr; rw [← hj]; simp
  have hT : hourTo hs d = d * 1440 + toAt hs j := by unfold hourTo; rw [← hj]; simp
  have hf : -1000000000000000000 ≤ frAt hs j ∧ frAt hs j ≤ 1000000000000000000 := by
    unfold frAt; rw [List.getD_eq_getElem?_getD, List.getElem?_eq_getElem (by omega)]; exact hb _ (List.getElem_mem _)
  have ht : -1000000000000000000 ≤ toAt hs j ∧ toAt hs j ≤ 1000000000000000000 := by
    unfold toAt; rw [List.getD_eq_getElem?_getD, List.getElem?_eq_getElem (by omega)]; exact hb _ (List.getElem_mem _)
  rw [hF, hT]
  have hvs : ((hs.map (Value.int .i64)).drop (j * 2)).take 2 = [.int .i64 (frAt hs j), .int .i64 (toAt hs j)] := hrs_pair hs j (by omega)
  generalize frAt hs j = f at *
  generalize toAt hs j = t at *
  have hvv : ∀ i v, [Value.int .i64 f, Value.int .i64 t][i]? = some v → (stCells key hs)[1 + j * 2 + i]? = some v := fun i v hv => by
    rw [← hvs, List.getElem?_take] at hv
    split at hv
    · rw [List.getElem?_drop] at hv
      rw [show 1 + j * 2 + i = (j * 2 + i) + 1 by omega]
      exact hv
    · cases hv
  have Hvv := Lib.hid hvv
  have hj' : d % 7 = (j : Int) := hj.symm
  have hbox : Blk ((w.alloc (.cells (stCells key hs).toArray 152)).alloc (.cells #[.int .i64 0, .int .i64 0] 27)) w.heap.size 152 (stCells key hs) := (Blk.at_ w rfl _ _).alloc _
  clear hvv hvs hF hT hj
  go_enter Tryz.func190, Tryz.ntmps190
  go_wp2_with (with_reducible refine wpList_load_blk rfl 27 (.tmp 9) rfl w.heap.size (1 + j * 2) _ (stCells key hs) [.int .i64 f, .int .i64 t] _ hbox rfl Tryz.underlying27 rfl 2 info_win (by simp) Hvv.out ?_)
  refine bodyPost_ret (v := .agg #[.int .i64 (d * 1440 + f), .int .i64 (d * 1440 + t)]) (by simp [results, Tryz.results190, go_sem]) rfl ⟨rfl, ?_⟩
  exact grow_alloc (grow_alloc (grow_alloc (World.grownBy.refl _ _) _) _) _
theorem sl_one {key : ByteArray} {hs : List Int} {w : World} {g : Nat} (h : Blk w g 152 (stCells key hs)) : SlT stEnc 15 152 w (some ⟨g, 0, none⟩) 1 [⟨key, hs⟩] :=
  ⟨rfl, fun _ => ⟨g, 0, _, _, rfl, h, fun i x hx j v hv => by
    match i, hx with
    | 0, hx =>
      simp at hx; subst hx
      simpa [stEnc] using hv⟩⟩
set_option maxRecDepth 100000 in
set_option maxHeartbeats 1000000 in
theorem checkStation_any (key : ByteArray) (hs : List Int) (f : Int) (w : World) (hok : StOk ⟨key, hs⟩) :
    Calls Tryz.prog 188 #[.agg (stCells key hs).toArray, .int .i64 f] w fun e w' => e = .returned (.int .i64 (firstE [stationsE [⟨key, hs⟩], f])) ∧ w.grownBy w' none := by
  have hsl := fun (wz : World) (hz : wz.heap.size = w.heap.size + 1) => sl_one (Blk.at_ wz hz 152 (stCells key hs))
  have Hsl := Lib.hid hsl
  have Hok := Lib.hid hok
  clear hsl
  obtain ⟨a0, a1, a2, a3, a4, a5, a6, a7, a8, a9, a10, a11, a12, a13, rfl⟩ := list14 hs hok.1
  clear hok
  show Calls Tryz.prog 188 #[.agg #[.string key, .int .i64 a0, .int .i64 a1, .int .i64 a2, .int .i64 a3, .int .i64 a4, .int .i64 a5, .int .i64 a6, .int .i64 a7, .int .i64 a8, .int .i64 a9, .int .i64 a10, .int .i64 a11, .int .i64 a12, .int .i64 a13], .int .i64 f] w _
  go_enter Tryz.func188, Tryz.ntmps188
  go_wp2_with fail
  refine (checkStations_any [⟨key, [a0, a1, a2, a3, a4, a5, a6, a7, a8, a9, a10, a11, a12, a13]⟩] _ _ _ _ (Hsl.out (w.alloc (.cells #[.string key, .int .i64 a0, .int .i64 a1, .int .i64 a2, .int .i64 a3, .int .i64 a4, .int .i64 a5, .int .i64 a6, .int .i64 a7, .int .i64 a8, .int .i64 a9, .int .i64 a10, .int .i64 a11, .int .i64 a12, .int .i64 a13] 152)) (by simp)) (by intro s hs; simp at hs; subst hs; exact Hok.out) (by omega)).mono ?_
  rintro e w1 ⟨rfl, hg1⟩
  have hg1' : w.grownBy w1 none := grow_trans (grow_alloc (grow_alloc (World.grownBy.refl _ _) _) _) hg1
  obtain ⟨E, hE⟩ : ∃ E, E = stationsE [⟨key, [a0, a1, a2, a3, a4, a5, a6, a7, a8, a9, a10, a11, a12, a13]⟩] := ⟨_, rfl⟩
  rw [← hE]
  have HE := Lib.hid hE; clear hE
  go_wp2_with fail
  refine (first_any [E, f] _ _ _ _ (Blk.at_ _ rfl _ _) (by simp)).mono ?_
  rintro e w2 ⟨rfl, rfl⟩
  go_wp2_with fail
  go_ret
  exact ⟨by rw [← HE.out]; rfl, grow_alloc hg1' _⟩
def isOpenE (s : St) (at_ : Int) : Int := firstE [stationsE [s], momentE at_]
def isOpenV (s : St) (at_ : Int) : Bool := isOpenE s at_ == 0 && decide (hourFr s.hs (at_ / 1440) ≤ at_) && decide (at_ < hourTo s.hs (at_ / 1440))
end Go.Proofs.YtempjmpfdniecaaGreatDoor
namespace Go.Proofs.YtempjmpfdniecaaGreatDoor
open Go.RowKit
set_option maxRecDepth 100000 in
set_option maxHeartbeats 2000000 in
theorem lotOpen_any (key : ByteArray) (hs : List Int) (at_ : Int) (w : World) (hok : StOk ⟨key, hs⟩) (hb : ∀ h ∈ hs, -1000000000000000000 ≤ h ∧ h ≤ 1000000000000000000) :
    Calls Tryz.prog 94 #[.agg (stCells key hs).toArray, .int .i64 at_] w (RetBE w (isOpenV ⟨key, hs⟩ at_) (isOpenE ⟨key, hs⟩ at_)) := by
  have Hok := Lib.hid hok
  have Hb := Lib.hid hb
  clear hb
  obtain ⟨a0, a1, a2, a3, a4, a5, a6, a7, a8, a9, a10, a11, a12, a13, rfl⟩ := list14 hs hok.1
  clear hok
  show Calls Tryz.prog 94 #[.agg #[.string key, .int .i64 a0, .int .i64 a1, .int .i64 a2, .int .i64 a3, .int .i64 a4, .int .i64 a5, .int .i64 a6, .int .i64 a7, .int .i64 a8, .int .i64 a9, .int .i64 a10, .int .i64 a11, .int .i64 a12, .int .i64 a13], .int .i64 at_] w _
  go_enter Tryz.func94, Tryz.ntmps94
  go_wp2_with fail
  refine wp_region_still_tail 3 (by kernel_rfl) (by kernel_rfl) ?_
  change wpStill _ _ (World.drew _) _ _ _
  simp only [List.take_succ_cons, List.take_zero, List.drop_succ_cons, List.drop_zero]
  still_step
  still_step
  still_call ((moment_any at_ _).mono fun _ _ h => ⟨h.1, h.2.symm⟩)
  refine wpStill_nil ?_
  change wpList _ _ _ _ _ (World.drew _)
  go_wp2_with fail
  refine (checkStation_any key [a0, a1, a2, a3, a4, a5, a6, a7, a8, a9, a10, a11, a12, a13] _ _ Hok.out).mono ?_
  rintro e w1 ⟨rfl, hg1⟩
  obtain ⟨E, hE⟩ : ∃ E, E = isOpenE ⟨key, [a0, a1, a2, a3, a4, a5, a6, a7, a8, a9, a10, a11, a12, a13]⟩ at_ := ⟨_, rfl⟩
  rw [show firstE [stationsE [⟨key, [a0, a1, a2, a3, a4, a5, a6, a7, a8, a9, a10, a11, a12, a13]⟩], momentE at_] = E from hE.symm]
  have HE := Lib.hid hE; clear hE
  have hbox : Blk w1 w.heap.size 152 (stCells key [a0, a1, a2, a3, a4, a5, a6, a7, a8, a9, a10, a11, a12, a13]) := ((Blk.at_ w rfl _ _).drewN 1).grown hg1 (by simp)
  have hgw : w.grownBy w1 none := grow_trans (grow_drew (grow_alloc (World.grownBy.refl _ _) _)) hg1
  clear hg1
  by_cases h0 : E = 0
  · have hm := momentE_ok (firstE_two (HE.out.symm.trans h0)).2
    have hdv : at_.tdiv 1440 = at_ / 1440 := Int.tdiv_eq_ediv_of_nonneg hm.1
    have hd0 : 0 ≤ at_ / 1440 := by omega
    have hd1 : at_ / 1440 ≤ 1000000000 := by omega
    obtain ⟨d, hd⟩ : ∃ d, d = at_ / 1440 := ⟨_, rfl⟩
    have hV : isOpenV ⟨key, [a0, a1, a2, a3, a4, a5, a6, a7, a8, a9, a10, a11, a12, a13]⟩ at_ = (decide (hourFr [a0, a1, a2, a3, a4, a5, a6, a7, a8, a9, a10, a11, a12, a13] d ≤ at_) && decide (at_ < hourTo [a0, a1, a2, a3, a4, a5, a6, a7, a8, a9, a10, a11, a12, a13] d)) := by
      unfold isOpenV
      rw [← HE.out, h0, ← hd]; rfl
    rw [← hd] at hdv hd0 hd1
    have hd' : at_ / 1440 = d := hd.symm
    have HV := Lib.hid hV
    subst h0
    clear hV hd
    go_wp2_with (with_reducible refine wpList_load_all rfl 152 (.tmp 2) rfl w.heap.size _ (stCells key [a0, a1, a2, a3, a4, a5, a6, a7, a8, a9, a10, a11, a12, a13]) _ hbox rfl Tryz.underlying152 rfl 15 info_st rfl ?_)
    refine (hours_any key [a0, a1, a2, a3, a4, a5, a6, a7, a8, a9, a10, a11, a12, a13] _ _ rfl hd0 hd1 Hb.out).mono ?_
    rintro e w2 ⟨rfl, hg2⟩
    have hgw2 := grow_trans hgw hg2
    obtain ⟨F, hF⟩ : ∃ F, F = hourFr [a0, a1, a2, a3, a4, a5, a6, a7, a8, a9, a10, a11, a12, a13] d := ⟨_, rfl⟩
    obtain ⟨T, hT⟩ : ∃ T, T = hourTo [a0, a1, a2, a3, a4, a5, a6, a7, a8, a9, a10, a11, a12, a13] d := ⟨_, rfl⟩
    rw [← hF, ← hT] at HV ⊢
    clear hF hT hbox hgw hg2
    go_wp2_with fail
    all_goals
      go_ret2
      exact ⟨ret_be (by rw [HV.out]; simp [*] <;> (intros; omega)) HE.out, grow_alloc hgw2 _⟩
  · have hne : (E != 0) = true := by simpa using h0
    have hV : isOpenV ⟨key, [a0, a1, a2, a3, a4, a5, a6, a7, a8, a9, a10, a11, a12, a13]⟩ at_ = false := by
      unfold isOpenV
      rw [← HE.out]; simp [h0]
    have HV := Lib.hid hV
    clear hV h0
    go_wp2_with fail
    go_ret2
    exact ⟨ret_be HV.out.symm HE.out, hgw⟩
end Go.Proofs.YtempjmpfdniecaaGreatDoor
namespace Go.Proofs.YtempjmpfdniecaaGreatDoor
open Go.RowKit
/-- The next opening from day d on; n days are left. -/
def nextFrom (hs : List Int) (at_ : Int) : Nat → Int → Option Int
  | 0, _ => none
  | n + 1, d => if max at_ (hourFr hs d) < hourTo hs d then some (max at_ (hourFr hs d)) else nextFrom hs at_ n (d + 1)
end Go.Proofs.YtempjmpfdniecaaGreatDoor
namespace Go.Proofs.YtempjmpfdniecaaGreatDoor
def frD (hs : List Int) (d : Int) : Int := frAt hs (d % 7).toNat
def toD (hs : List Int) (d : Int) : Int := toAt hs (d % 7).toNat
theorem hourFr_eq (hs : List Int) (d : Int) : hourFr hs d = d * 1440 + frD hs d := rfl
theorem hourTo_eq (hs : List Int) (d : Int) : hourTo hs d = d * 1440 + toD hs d := rfl
section
variable {hs : List Int} {at_ : Int}
theorem never (h : ∀ e, ¬ frD hs e < toD hs e) : ∀ (n : Nat) (d : Int), nextFrom hs at_ n d = none
  | 0, _ => rfl
  | n + 1, d => by
    have h1 := h d
    rw [nextFrom, if_neg (by rw [hourFr_eq, hourTo_eq]; omega)]
    exact never h n (d + 1)
end
end Go.Proofs.YtempjmpfdniecaaGreatDoor
namespace Go.Proofs.YtempjmpfdniecaaGreatDoor
open Go.RowKit
theorem gfilt_at {α : Type} {p : α → Bool} {l : List α} {i : Nat} {x : α} (h : l[i]? = some x) : (l.take (i + 1)).filter p = (l.take i).filter p ++ (if p x = true then [x] else []) := by
  rw [List.take_add_one, h, List.filter_append]
  by_cases hp : p x = true
  · rw [if_pos hp, Option.toList_some, List.filter_cons_of_pos hp]; rfl
  · rw [if_neg hp, Option.toList_some, List.filter_cons_of_neg hp]; rfl
/-- Right bookings have classes that there are. -/
theorem gcheckE_ok {cs : List Cs} {l : List Bk} (h : checkE cs l = 0) : classesE cs = 0 ∧ formE l = 0 ∧ ∀ b ∈ l, keysE cs [b.cls] = 0 := by
  unfold checkE firstE at h
  by_cases h1 : classesE cs = 0
  · rw [if_pos h1] at h
    have h2 : classedE cs l = 0 := by
      unfold firstE at h
      by_cases e : classedE cs l = 0
      · exact e
      · rw [if_neg e] at h; exact h
    unfold classedE at h2
    by_cases h3 : formE l = 0
    · rw [if_neg (by rw [h3]; decide)] at h2
      refine ⟨h1, h3, fun b hb => ?_⟩
      rw [keysE_one, h1]
      have h4 : noB cs b.cls = false := by
        cases hn : noB cs b.cls with
        | false => rfl
        | true =>
          rw [if_pos (List.any_eq_true.2 ⟨b, hb, hn⟩)] at h2
          cases h2
      unfold noB at h4
      rw [h4]; rfl
    · rw [if_pos h3] at h2; exact absurd h2 h3
  · rw [if_neg h1] at h; exact absurd h h1
/-- A right stock has at most a hundred vehicles of a class. -/
theorem many_le {cs : List Cs} {sl : List Sk} (h : stockE cs sl = 0) (k : ByteArray) : manyV sl k ≤ 100 := by
  have hall : ∀ x ∈ sl, x.many ≤ 100 := fun x hx => by
    unfold stockE firstE at h
    by_cases h1 : classesE cs = 0
    · rw [if_pos h1] at h
      unfold firstE at h
      by_cases h2 : 30 < sl.length
      · rw [if_pos h2] at h; cases h
      · rw [if_neg h2] at h
        have h3 : scanE (skE cs) none sl = 0 := by
          by_cases e : scanE (skE cs) none sl = 0
          · exact e
          · rw [if_neg e] at h; exact h
        obtain ⟨q, hq⟩ := scanE_all h3 x hx
        unfold skE at hq
        repeat (split at hq; · cases hq)
        rename_i h4 h5 h6
        simp [inB] at h6
        omega
    · rw [if_neg h1] at h; exact absurd h h1
  clear h
  induction sl with
  | nil => show (0 : Int) ≤ 100; omega
  | cons x r ih =>
    unfold manyV
    split
    · exact hall x (List.mem_cons_self ..)
    · exact ih fun y hy => hall y (List.mem_cons_of_mem _ hy)
end Go.Proofs.YtempjmpfdniecaaGreatDoor
namespace Go.Proofs.YtempjmpfdniecaaGreatDoor
open Go.RowKit
structure ChS where
  A : Option Addr
  n : Nat
  c : Nat
  l : List (CdW ByteArray)
def cdEnc (k : CdW ByteArray) : List Value := [.string k.1, .int .i64 (k.2.1 : Int), .int .i64 (k.2.2 : Int)]
theorem cd_len (k : CdW ByteArray) : (cdEnc k).length = 3 := rfl
def csnEnc (x : ChS) : List Value := [.slice x.A x.n x.c]
theorem csn_len (x : ChS) : (csnEnc x).length = 1 := rfl
def Chs (T : TypeId) (cx : List ChS) (w : World) : Prop := ∀ x ∈ cx, SlT cdEnc 3 T w x.A x.n x.l
theorem Chs.lasts {N : Nat} {row : Option Nat} {Tt : List TypeId} {T : TypeId} {cx : List ChS} (hT : Tt.contains T = true) : Lasts2 N row Tt (Chs T cx) := lasts_all fun _ _ => SlT.lasts2 hT
theorem Chs.grow {T : TypeId} {cx : List ChS} {w w' : World} (h : Chs T cx w) (hg : w.grownBy w' none) : Chs T cx w' := fun x hx => (h x hx).grow0 hg
def ownC (T : TypeId) (x : ChS) : Own := ⟨.slice x.A x.n x.c, T, 3, x.n, x.l.flatMap cdEnc⟩
def famC (T : TypeId) (cx : List ChS) : List Own := cx.map (ownC T)
section
variable {c : Cx} {K : World → Prop} {L : List (Nat × TypeId × List Value)} {O O' F : List Own} {X : List (World → Prop)} {w : World}
theorem Mem.permO (h : Mem c K L O X w) (hp : O.Perm O') : Mem c K L O' X w := ⟨h.g, h.k, h.b, h.nd, fun r hr => h.o r (hp.mem_iff.2 hr), fun r hr => h.od r (hp.mem_iff.2 hr), (hp.pairwise_iff (fun hr g hg e => hr g e hg)).1 h.oo, h.x, h.kk, h.l, h.rs⟩
theorem Mem.pickT (h : Mem c K L (O ++ F) X w) (ls os xs : List Nat) (hl : allNe ls = true) (ho : allNe os = true) : Mem c K (pickI L ls) (pickI O os ++ F) (pickI X xs) w := by
  have h1 := (h.pickL ls hl).pickX xs
  have hs : ∀ x ∈ pickI O os ++ F, x ∈ O ++ F := fun x hx => by
    rcases List.mem_append.1 hx with hx | hx
    · obtain ⟨i, _, hi⟩ := pickI_mem hx
      exact List.mem_append_left _ (List.mem_of_getElem? hi)
    · exact List.mem_append_right _ hx
  refine ⟨h1.g, h1.k, h1.b, h1.nd, fun r hr => h1.o r (hs r hr), fun r hr => h1.od r (hs r hr), ?_, h1.x, h1.kk, h1.l, h1.rs⟩
  obtain ⟨p1, p2, p3⟩ := List.pairwise_append.1 h1.oo
  refine List.pairwise_append.2 ⟨pickI_pair (fun _ _ hr g hg e => hr g e hg) p1 ho, p2, fun x hx y hy => ?_⟩
  obtain ⟨i, _, hi⟩ := pickI_mem hx
  exact p3 x (List.mem_of_getElem? hi) y hy
/-- A row comes into the family. -/
theorem Mem.famSnoc {T : TypeId} {cx : List ChS} {x : ChS} {o : Own} (h : Mem c K L ([ownC T x, o] ++ famC T cx) X w) : Mem c K L ([o] ++ famC T (cx ++ [x])) X w := by
  refine h.permO ?_
  unfold famC
  rw [List.map_append]
  show (ownC T x :: ([o] ++ cx.map (ownC T))).Perm ([o] ++ (cx.map (ownC T) ++ [ownC T x]))
  rw [← List.append_assoc]
  exact (List.perm_append_singleton _ _).symm
theorem Mem.famChs {T : TypeId} {cx : List ChS} (h : Mem c K L (O ++ famC T cx) X w) (hl : ∀ x ∈ cx, x.l.length = x.n) : Chs T cx w := fun x hx => SlT.ofOwn cd_len (h.o _ (List.mem_append_right _ (List.mem_map.2 ⟨x, hx, rfl⟩))) (hl x hx)
end
theorem way_get {many : ByteArray → Nat} : ∀ (ks : List ByteArray) (i j : Nat) (x : ByteArray), ks[j]? = some x → (wayC many i ks)[j]? = some (x, i + j, many x)
  | [], _, _, _, h => by cases h
  | c :: r, i, 0, x, h => by
    cases h; rfl
  | c :: r, i, j + 1, x, h => by
    unfold wayC
    rw [List.getElem?_cons_succ, way_get r (i + 1) j x (by simpa using h), show i + 1 + j = i + (j + 1) by omega]
theorem way_len {many : ByteArray → Nat} : ∀ (ks : List ByteArray) (i : Nat), (wayC many i ks).length = ks.length
  | [], _ => rfl
  | c :: r, i => by unfold wayC; rw [List.length_cons, List.length_cons, way_len r]
/-- The choices among the first classes of a way. -/
def chT (sl : List Sk) (ks : List ByteArray) (j : Nat) : List (CdW ByteArray) := ((wayC (capB sl) 0 ks).take j).filter fun k => decide (0 < k.2.2)
theorem chT_at {sl : List Sk} {ks : List ByteArray} {j : Nat} {x : ByteArray} (h : ks[j]? = some x) : chT sl ks (j + 1) = chT sl ks j ++ (if 0 < capB sl x then [(x, j, capB sl x)] else []) := by
  unfold chT
  rw [gfilt_at (way_get (many := capB sl) ks 0 j x h), Nat.zero_add]
  dsimp only
  by_cases h0 : 0 < capB sl x
  · rw [if_pos h0, if_pos (by simpa using h0)]
  · rw [if_neg h0, if_neg (by simpa using h0)]
theorem chT_end {sl : List Sk} {ks : List ByteArray} {j : Nat} (h : ks.length ≤ j) : chT sl ks j = chC (capB sl) ks := by
  unfold chT chC
  rw [List.take_of_length_le (by rw [way_len]; exact h)]
theorem chT_len (sl : List Sk) (ks : List ByteArray) (j : Nat) : (chT sl ks j).length ≤ ks.length := by
  unfold chT
  have h1 := List.length_filter_le (fun k : CdW ByteArray => decide (0 < k.2.2)) ((wayC (capB sl) 0 ks).take j)
  rw [List.length_take, way_len] at h1
  omega
def lenN (css : List (List (CdW ByteArray))) (j : Nat) : Nat := (css.getD j []).length
def coLt (css : List (List (CdW ByteArray))) (a b : Int) : Bool := decide (cmpI (lenN css a.toNat : Int) (lenN css b.toNat : Int) < 0)
def coLtN (css : List (List (CdW ByteArray))) (a b : Nat) : Bool := decide (cmpI (lenN css a : Int) (lenN css b : Int) < 0)
def ordN (css : List (List (CdW ByteArray))) (n : Nat) : List Nat := isort (coLtN css) (List.range n)
theorem ordN_eq (css : List (List (CdW ByteArray))) (n : Nat) : isort (coLt css) ((List.range n).map fun k => ((k : Nat) : Int)) = (ordN css n).map fun k => ((k : Nat) : Int) := isort_mapF (fun x y => by unfold coLt coLtN; rw [Int.toNat_natCast, Int.toNat_natCast]) _
theorem ordN_perm (css : List (List (CdW ByteArray))) (n : Nat) : (ordN css n).Perm (List.range n) := isort_perm _ _
def itB (cs : List Cs) (sl : List Sk) (l : List Bk) (j : Nat) : ItW ByteArray := (wnB (bkAt l j), chB cs sl (bkAt l j))
theorem it_range (cs : List Cs) (sl : List Sk) (l : List Bk) : (List.range l.length).map (itB cs sl l) = (l.map wnB).zip (l.map (chB cs sl)) := by
  have h := congrArg (List.map (fun b => (wnB b, chB cs sl b))) (range_bk l)
  rw [List.map_map] at h
  rw [List.zip_map']
  exact h
theorem it_perm {cs : List Cs} {sl : List Sk} {l : List Bk} {o : List Nat} (h : o.Perm (List.range l.length)) : (o.map (itB cs sl l)).Perm ((l.map wnB).zip (l.map (chB cs sl))) := by
  rw [← it_range]
  exact h.map _
/-- The bookings that have classes. -/
def clAt (cl : List ByteArray) (j : Nat) : ByteArray := (cl[j]?).getD ⟨#[]⟩
def plB (l : List Bk) (cl : List ByteArray) (o : List Nat) : List (ByteArray × Wn) := o.map fun j => (clAt cl j, wnB (bkAt l j))
theorem plB_set {l : List Bk} {cl : List ByteArray} {o : List Nat} {i : Nat} {x : ByteArray} (h : i ∉ o) : plB l (cl.set i x) o = plB l cl o := by
  unfold plB clAt
  refine List.map_congr_left fun j hj => ?_
  rw [List.getElem?_set_ne (show i ≠ j from fun e => h (by rw [e]; exact hj))]
theorem nodup_take {o : List Nat} (hn : o.Nodup) {k i : Nat} (h : o[k]? = some i) : i ∉ o.take k := fun hin => by
  obtain ⟨q, hq⟩ := List.getElem?_of_mem hin
  rw [List.getElem?_take] at hq
  split at hq
  · have h1 := (List.getElem?_eq_some_iff.1 hq).1
    have h2 := (List.getElem?_eq_some_iff.1 h).1
    exact absurd (((List.getElem?_eq_some_iff.1 hq).2).trans ((List.getElem?_eq_some_iff.1 h).2).symm) (List.pairwise_iff_getElem.1 hn q k h1 h2 (by omega))
  · cases hq
theorem plB_snoc {l : List Bk} {cl : List ByteArray} {o : List Nat} {k i : Nat} {x : ByteArray} (h : o[k]? = some i) (hn : o.Nodup) (hi : i < cl.length) : plB l (cl.set i x) (o.take (k + 1)) = plB l cl (o.take k) ++ [(x, wnB (bkAt l i))] := by
  rw [List.take_add_one, h, Option.toList_some]
  have e := plB_set (l := l) (cl := cl) (x := x) (nodup_take hn h)
  unfold plB at e ⊢
  rw [List.map_append, e, List.map_cons, List.map_nil]
  congr 3
  unfold clAt
  rw [List.getElem?_set_self hi]; rfl
def nEnc (k : Nat) : List Value := [.int .i64 (k : Int)]
theorem n_len (k : Nat) : (nEnc k).length = 1 := rfl
theorem n_flat (l : List Nat) : (l.map fun k => ((k : Nat) : Int)).flatMap iEnc = l.flatMap nEnc := by
  rw [List.flatMap_map]; rfl
theorem tl_dec (a b : ByteArray) : (a.toList == b.toList) = decide (a = b) := by
  rw [Bool.eq_iff_iff, beq_iff_eq, decide_eq_true_eq]
  exact ⟨ba_ext, fun h => by rw [h]⟩
theorem clAt_get {cl : List ByteArray} {j : Nat} {x : ByteArray} (h : cl[j]? = some x) : clAt cl j = x := by unfold clAt; rw [h]; rfl
theorem bkAt_get {l : List Bk} {j : Nat} {x : Bk} (h : l[j]? = some x) : bkAt l j = x := by unfold bkAt; rw [h]; rfl
theorem timC_at {l : List Bk} {cl : List ByteArray} {o : List Nat} {k j : Nat} {x : Wn} {c : ByteArray} (h : o[k]? = some j) : timC (plB l cl (o.take (k + 1))) x c = timC (plB l cl (o.take k)) x c ++ (if (decide (clAt cl j = c) && mtW (wnB (bkAt l j)) x) = true then [wnB (bkAt l j)] else []) := by
  unfold timC plB
  rw [List.take_add_one, h, Option.toList_some, List.map_append, List.filter_append, List.map_append]
  congr 1
  rw [List.map_cons, List.map_nil, List.filter_cons]
  dsimp only
  split <;> rfl
theorem timC_ok {l : List Bk} {cl : List ByteArray} {o : List Nat} {x : Wn} {c : ByteArray} (ht : BkTim l) (ho : ∀ j ∈ o, j < l.length) : TimOk (timC (plB l cl o) x c) := fun t h => by
  unfold timC plB at h
  obtain ⟨p, h1, rfl⟩ := List.mem_map.1 h
  obtain ⟨j, h2, rfl⟩ := List.mem_map.1 (List.mem_filter.1 h1).1
  obtain ⟨b, hb⟩ : ∃ b, l[j]? = some b := ⟨_, List.getElem?_eq_getElem (ho j h2)⟩
  dsimp only
  rw [bkAt_get hb]
  exact ht b (List.mem_of_getElem? hb)
theorem timC_len (l : List Bk) (cl : List ByteArray) (o : List Nat) (x : Wn) (c : ByteArray) : (timC (plB l cl o) x c).length ≤ o.length := by
  unfold timC plB
  rw [List.length_map]
  have := List.length_filter_le (fun p : ByteArray × Wn => decide (p.1 = c) && mtW p.2 x) (o.map fun j => (clAt cl j, wnB (bkAt l j)))
  rwa [List.length_map] at this
theorem restI_W {items : List (ItW ByteArray)} : restI items = restW (items.map Prod.snd) := by
  induction items with
  | nil => rfl
  | cons it r ih => unfold restI restW; rw [List.map_cons, ih]
theorem restW_at {css : List (List (CdW ByteArray))} {n : Nat} {cs : List (CdW ByteArray)} (h : css[n]? = some cs) : restW (css.drop n) = headW cs + restW (css.drop (n + 1)) := by
  obtain ⟨hi, rfl⟩ := List.getElem?_eq_some_iff.1 h
  rw [List.drop_eq_getElem_cons hi, restW]
theorem restW_le {M : Nat} : ∀ {css : List (List (CdW ByteArray))}, (∀ cs ∈ css, ∀ k ∈ cs, k.2.1 ≤ M) → restW css ≤ css.length * M
  | [], _ => Nat.zero_le _
  | cs :: r, h => by
    have ih := restW_le (css := r) fun c hc => h c (List.mem_cons_of_mem _ hc)
    have h0 : headW cs ≤ M := by
      unfold headW
      cases cs with
      | nil => exact Nat.zero_le _
      | cons k t => exact h _ (List.mem_cons_self ..) k (List.mem_cons_self ..)
    rw [restW, List.length_cons, Nat.add_mul]
    omega
def restR (css : List (List (CdW ByteArray))) (j n : Nat) : Int := if j ≤ n then ((restW (css.drop n) : Nat) : Int) else 0
def restL (css : List (List (CdW ByteArray))) (j : Nat) : List Int := (List.range (css.length + 1)).map (restR css j)
theorem restL_len (css : List (List (CdW ByteArray))) (j : Nat) : (restL css j).length = css.length + 1 := by unfold restL; simp
theorem restL_at {css : List (List (CdW ByteArray))} {j n : Nat} (h : n ≤ css.length) : (restL css j)[n]? = some (restR css j n) := by
  unfold restL
  rw [List.getElem?_map, List.getElem?_range (by omega)]; rfl
theorem restL_zero (css : List (List (CdW ByteArray))) : restL css css.length = List.replicate (css.length + 1) 0 := by
  refine List.ext_getElem? fun n => ?_
  unfold restL
  rw [List.getElem?_map, List.getElem?_replicate]
  by_cases h : n < css.length + 1
  · rw [List.getElem?_range h, if_pos h, Option.map_some]
    congr 1
    unfold restR
    split
    · rw [List.drop_eq_nil_of_le (by assumption)]; rfl
    · rfl
  · rw [if_neg h, List.getElem?_eq_none (by simpa using h)]; rfl
theorem restL_set {css : List (List (CdW ByteArray))} {j : Nat} (hj : j < css.length) : (restL css (j + 1)).set j ((restW (css.drop j) : Nat) : Int) = restL css j := by
  refine List.ext_getElem? fun n => ?_
  by_cases e : j = n
  · subst e
    rw [List.getElem?_set_self (by rw [restL_len]; omega), restL_at (by omega)]
    unfold restR
    rw [if_pos (Nat.le_refl _)]
  · rw [List.getElem?_set_ne e]
    rcases Nat.lt_or_ge css.length n with h | h
    · rw [List.getElem?_eq_none (by rw [restL_len]; omega), List.getElem?_eq_none (by rw [restL_len]; omega)]
    · rw [restL_at h, restL_at h]
      unfold restR
      by_cases h1 : j ≤ n
      · rw [if_pos h1, if_pos (by omega)]
      · rw [if_neg h1, if_neg (by omega)]
section
variable {F : List (ByteArray × Wn) → Wn → CdW ByteArray → Bool} {items r : List (ItW ByteArray)} {pl : List (ByteArray × Wn)} {used : Nat} {best : Option Nat}
theorem bb_stop (h : stopW best (used + restI items) = true) : bbW F items pl used best = best := by
  unfold bbW; rw [if_pos h]
theorem bb_end (h : stopW best (used + restI ([] : List (ItW ByteArray))) = false) : bbW F [] pl used best = some used := by
  unfold bbW; rw [if_neg (by rw [h]; decide)]
/-- One choice. -/
def bbS (F : List (ByteArray × Wn) → Wn → CdW ByteArray → Bool) (r : List (ItW ByteArray)) (pl : List (ByteArray × Wn)) (x : Wn) (used : Nat) (best : Option Nat) (k : CdW ByteArray) : Option Nat := if F pl x k = true then bbW F r (pl ++ [(k.1, x)]) (used + k.2.1) best else best
theorem bb_at {it : ItW ByteArray} (h : stopW best (used + restI (it :: r)) = false) : bbW F (it :: r) pl used best = it.2.foldl (bbS F r pl it.1 used) best := by
  unfold bbW; rw [if_neg (by rw [h]; decide)]; rfl
end
theorem foldl_at {α β : Type} {f : β → α → β} {l : List α} {j : Nat} {x : α} {b : β} (h : l[j]? = some x) : (l.drop j).foldl f b = (l.drop (j + 1)).foldl f (f b x) := by
  obtain ⟨hj, rfl⟩ := List.getElem?_eq_some_iff.1 h
  rw [List.drop_eq_getElem_cons hj, List.foldl_cons]
theorem foldl_end {α β : Type} {f : β → α → β} {l : List α} {j : Nat} {b : β} (h : l.length ≤ j) : (l.drop j).foldl f b = b := by
  rw [List.drop_eq_nil_of_le h]; rfl
def bestI : Option Nat → Int
  | none => -1
  | some n => (n : Int)
theorem stopW_iff {b : Option Nat} {n : Nat} : (decide (0 ≤ bestI b) && decide (bestI b ≤ (n : Int))) = stopW b n := by
  cases b with
  | none => rfl
  | some m =>
    show (decide (0 ≤ (m : Int)) && decide ((m : Int) ≤ (n : Int))) = decide (m ≤ n)
    rw [Bool.eq_iff_iff]
    simp only [Bool.and_eq_true, decide_eq_true_eq]
    omega
theorem plB_take {l : List Bk} {a b : List ByteArray} {o : List Nat} {k : Nat} (h : plB l a (o.take (k + 1)) = plB l b (o.take (k + 1))) : plB l a (o.take k) = plB l b (o.take k) := by
  have h2 := congrArg (List.take k) h
  unfold plB at h2 ⊢
  rw [← List.map_take, ← List.map_take, List.take_take, Nat.min_eq_left (Nat.le_succ k)] at h2
  exact h2
theorem cx_at {cs : List Cs} {sl : List Sk} {l : List Bk} {cx : List ChS} (h : cx.map ChS.l = l.map (chB cs sl)) {i : Nat} {x : ChS} (hx : cx[i]? = some x) : x.l = chB cs sl (bkAt l i) := by
  have h2 := congrArg (fun z => z[i]?) h
  rw [List.getElem?_map, List.getElem?_map, hx] at h2
  cases hb : l[i]? with
  | none => rw [hb] at h2; cases h2
  | some b =>
    rw [hb] at h2
    rw [bkAt_get hb]
    exact Option.some.inj h2
theorem drop_map_at {cs : List Cs} {sl : List Sk} {l : List Bk} {od : List Nat} {k i : Nat} (h : od[k]? = some i) : (od.drop k).map (itB cs sl l) = itB cs sl l i :: (od.drop (k + 1)).map (itB cs sl l) := by
  obtain ⟨hk, rfl⟩ := List.getElem?_eq_some_iff.1 h
  rw [List.drop_eq_getElem_cons hk, List.map_cons]
theorem nd_set {l : List Bk} {cl : List ByteArray} {od : List Nat} {k i : Nat} {x : ByteArray} (hn : od.Nodup) (h : od[k]? = some i) : plB l (cl.set i x) (od.take k) = plB l cl (od.take k) := plB_set (nodup_take hn h)
def RwOk (cl : List ByteArray) (un : List Int) (st : List (ByteArray × Nat)) : Prop := cl.take st.length = st.map Prod.fst ∧ un.take st.length = st.map fun p => ((p.2 : Nat) : Int)
theorem RwOk.nil (cl : List ByteArray) (un : List Int) : RwOk cl un [] := ⟨rfl, rfl⟩
theorem RwOk.at {cl : List ByteArray} {un : List Int} {st : List (ByteArray × Nat)} (h : RwOk cl un st) {k : Nat} {p : ByteArray × Nat} (hk : st[k]? = some p) : cl[k]? = some p.1 ∧ un[k]? = some ((p.2 : Nat) : Int) := by
  have hlt := (List.getElem?_eq_some_iff.1 hk).1
  have h1 := congrArg (fun z => z[k]?) h.1
  have h2 := congrArg (fun z => z[k]?) h.2
  rw [List.getElem?_take_of_lt hlt, List.getElem?_map, hk] at h1 h2
  exact ⟨h1, h2⟩
theorem RwOk.set {cl : List ByteArray} {un : List Int} {st : List (ByteArray × Nat)} (h : RwOk cl un st) {i : Nat} (hi : st.length ≤ i) (x : ByteArray) (y : Int) : RwOk (cl.set i x) (un.set i y) st := by
  unfold RwOk
  rw [List.take_set_of_le hi, List.take_set_of_le hi]
  exact h
theorem RwOk.all {cl : List ByteArray} {un : List Int} {st : List (ByteArray × Nat)} (h : RwOk cl un st) (h1 : cl.length = st.length) (h2 : un.length = st.length) : cl = st.map Prod.fst ∧ un = st.map fun p => ((p.2 : Nat) : Int) := by
  have e1 := h.1
  have e2 := h.2
  rw [List.take_of_length_le (by omega)] at e1 e2
  exact ⟨e1, e2⟩
end Go.Proofs.YtempjmpfdniecaaGreatDoor
namespace Go.Proofs.YtempjmpfdniecaaGreatDoor
open Go.RowKit
theorem Mem.gainA {c : Cx} {K : World → Prop} {L : List (Nat × TypeId × List Value)} {O : List Own} {X : List (World → Prop)} {w w' : World} {g : Nat} {T : TypeId} {cs : List Value} (h : Mem c K L O X w) (hgr : w.grownBy w' none) (hN : w.heap.size ≤ g) (hb : Blk w' g T cs) : Mem c K ((g, T, cs) :: L) O X w' := by
  have h2 := h.grow hgr
  refine ⟨h2.g, h2.k, fun x hx => ?_, List.Pairwise.cons (fun y hy e => by have h3 := (h.b y hy).2.lt; have e2 : g = y.1 := e; omega) h.nd, h2.o, fun r hr x hx => ?_, h.oo, h2.x, h.kk, h.l, h.rs⟩
  · rcases List.mem_cons.1 hx with rfl | hx
    · exact ⟨Nat.le_trans h.g.size hN, hb⟩
    · exact h2.b x hx
  · rcases List.mem_cons.1 hx with rfl | hx
    · intro e
      have := ((h.o r hr).lt g e).2
      omega
    · exact h.od r hr x hx
theorem BlkX.lasts {N : Nat} {row : Option Nat} {Tt : List TypeId} {g : Nat} {T : TypeId} {cs : List Value} (hT : Tt.contains T = true) : Lasts2 N row Tt (fun w => Blk w g T cs) := ⟨fun _ _ h hx => hx.grown h (by simp), fun w _ r T2 c h1 h2 _ h4 hx => hx.grown h4 (fun e => by
  have e2 : g = r := Option.some.inj e
  subst e2
  unfold Blk at hx
  rw [h1] at hx
  injection hx with hx
  injection hx with _ hx _
  exact h2 (by rw [hx]; simpa using hT))⟩
section
variable {P : Program} {c : Cx} {ops : Array Oper} {Q : Exit → Act → World → Prop} {rest : List Oper} {S : List (Nat × Value)} {K : World → Prop} {L : List (Nat × TypeId × List Value)} {O : List Own} {X : List (World → Prop)} {d : Nat} {ty : TypeId} {pos : String} {aft : Array Edge} {ty2 : TypeId} {pos2 : String} {aft2 : Array Edge}
/-- A copy of a struct in a new block. -/
theorem wl_allocs {t : TypeId} {y : Operand} {n : Nat} {cs vs cs' : List Value} (hz : zeroCs P t = some cs) (hd : Nat.ble (d + 1) c.n = true) (hs : rowSz P t = some n) (hy : ∀ g, rd ((d, .pointer (some ⟨g, 0, none⟩)) :: S) y = some (.agg vs.toArray)) (hx : ∀ g, rd ((d, .pointer (some ⟨g, 0, none⟩)) :: S) (.tmp d) = some (.pointer (some ⟨g, 0, none⟩))) (h1 : vs.all (·.oneCell') = true) (hn : vs.length = n) (ho : Nat.ble (0 + n) cs.length = true) (hcs : splice cs 0 vs = cs')
    (h : ∀ g, WL P c ops Q rest ((d, .pointer (some ⟨g, 0, none⟩)) :: S) K ((g, t, cs') :: L) O X) : WL P c ops Q (⟨some d, .alloc t, ty, pos, aft, none⟩ :: ⟨none, .store t (.tmp d) y, ty2, pos2, aft2, none⟩ :: rest) S K L O X := by
  intro a w ha hm
  refine wpList_plain rfl fun K' hK => ?_
  unfold zeroCs at hz
  cases hi : P.info? t with
  | none => simp [hi] at hz
  | some inf =>
    cases hzz : inf.zero with
    | none => simp [hi, hzz] at hz
    | some z =>
      simp only [hi, hzz, Option.bind_some, Option.map_some, Option.some.injEq] at hz
      unfold Oper.wp
      have : (execOp a.eval ⟨some d, .alloc t, ty, pos, aft, none⟩).run P w = .ok (.value (.pointer (some ⟨w.heap.size, 0, none⟩))) (w.alloc (.cells cs.toArray t)) := by
        subst hz
        simp [execOp, Instr.alloc, zeroValue, typeInfo, hi, hzz, newVar, newRow]
      rw [this]
      refine hK _ _ ?_
      have ha2 := ha.put hd (.pointer (some ⟨w.heap.size, 0, none⟩))
      have hb := Blk.at_ w rfl t cs
      obtain ⟨dd, hu, hr, hi⟩ := run_row hs
      subst hcs
      refine wpList_store_blk rfl t (.tmp d) y rfl w.heap.size 0 t cs vs hb (ha2.eval (hx _)) (ha2.eval (hy _)) n hi hn (Nat.le_of_ble_eq_true ho) (by simpa using h1) fun w' hb' hg => ?_
      exact h _ _ _ ⟨ha2.size, ha2.val, ha2.df⟩ (hm.gainA (grow_own (grow_alloc (World.grownBy.refl w none) _) hg (fun k e => by cases e; exact Nat.le_refl _)) (Nat.le_refl _) hb')
theorem wl_buildSlice0 {t e : TypeId} {sz : Nat} (ht : P.underlying t = some (.slice e)) (hi : (P.info? e).map (fun i => i.size) = some sz) (hd : Nat.ble (d + 1) c.n = true)
    (h : ∀ g, WL P c ops Q rest ((d, .slice (some ⟨g, 0, none⟩) 0 0) :: S) K ((g, e, []) :: L) O X) : WL P c ops Q (⟨some d, .buildSlice t 0 #[], ty, pos, aft, none⟩ :: rest) S K L O X := by
  intro a w ha hm
  refine wpList_plain rfl fun K' hK => ?_
  unfold Oper.wp
  have : (execOp a.eval ⟨some d, .buildSlice t 0 #[], ty, pos, aft, none⟩).run P w = .ok (.value (.slice (some ⟨w.heap.size, 0, none⟩) 0 0)) (w.alloc (.cells #[] e)) := by
    cases hz : P.info? e with
    | none => rw [hz] at hi; cases hi
    | some inf =>
      simp [execOp, Instr.buildSlice, run_underlying ht, sizeOf, typeInfo, hz, newRow, Instr.fill]
      exact congrArg (fun z => w.alloc (Obj.cells z e)) (Array.eq_empty_of_size_eq_zero (by simp))
  rw [this]
  exact hK _ _ (h _ _ _ (ha.put hd _) (hm.new e []))
end
theorem fits_any (l : List Bk) (A : Option Addr) (nb cb : Nat) (Ao : Option Addr) (co : Nat) (od : List Nat) (Ac : Option Addr) (cc : Nat) (cl : List ByteArray) (CV UV RV : Value) (bs : Int) (g k i : Nat) (c : ByteArray) (st mm : Nat) (w : World) (hb : Blk w g 266 [.slice A nb cb, CV, .slice Ao nb co, .slice Ac nb cc, UV, RV, .int .i64 bs]) (hl : SlT bkEnc 6 92 w A nb l) (ho : SlT nEnc 1 3 w Ao nb od) (hc : SlT sgEnc 1 9 w Ac nb cl) (hk : k ≤ nb) (hi : i < nb) (hn : nb ≤ 1000) (hco : nb ≤ co) (hord : ∀ j ∈ od, j < nb) (htm : BkTim l) :
  Calls Tryz.prog 282 #[.pointer (some ⟨g, 0, none⟩), .int .i64 ((k : Nat) : Int), .int .i64 ((i : Nat) : Int), .agg #[.string c, .int .i64 ((st : Nat) : Int), .int .i64 ((mm : Nat) : Int)]] w (fun e w' => e = .returned (.bool (roomF (plB l cl (od.take k)) (wnB (bkAt l i)) (c, st, mm))) ∧ w.grownBy w' none) := by
 refine gw_enter ⟨84, w, none, []⟩ Tryz.func282 rfl Tryz.ntmps282 rfl (mem0 (X := [BlkOld w.heap.size none g 266 [.slice A nb cb, CV, .slice Ao nb co, .slice Ac nb cc, UV, RV, .int .i64 bs], SlOld bkEnc 6 92 w.heap.size none A nb l, SlOld nEnc 1 3 w.heap.size none Ao nb od, SlOld sgEnc 1 9 w.heap.size none Ac nb cl]) (allF_cons hb.old (allF_cons hl.old (allF_cons ho.old (allF_cons hc.old allF_nil)))) (allL_cons BlkOld.lasts (allL_cons SlOld.lasts (allL_cons SlOld.lasts (allL_cons SlOld.lasts allL_nil))))) ?_
 refine sr_ ?_
 have hlen := hl.len
 have hlen2 := ho.len
 have hlen3 := hc.len
 obtain ⟨b, off, hA, _, _⟩ := hl.get (by omega)
 subst hA
 obtain ⟨bo, oo, hA, _, _⟩ := ho.get (by omega)
 subst hA
 obtain ⟨bc, oc, hA, _, _⟩ := hc.get (by omega)
 subst hA
 obtain ⟨x, hx⟩ : ∃ x, l[i]? = some x := ⟨_, List.getElem?_eq_getElem (by omega)⟩
 obtain ⟨x0, x1, x2, x3, x4, x5⟩ := x
 have hbi : bkAt l i = ⟨x0, x1, x2, x3, x4, x5⟩ := bkAt_get hx
 have hwi : wnB (bkAt l i) = (x2, x3) := by rw [hbi]; rfl
 rw [hwi]
 refine wl_box rfl rfl rfl fun g1 => ?_
 refine sg_ rfl (nn_ (sr_ ?_))
 refine wl_buildSlice0 (e := 27) (sz := 2) (by kernel_rfl) (by kernel_rfl) rfl fun g2 => ?_
 refine sg_ rfl (nn_ (gw_seq (sr_ (mv_ rfl (wl_ov (ov_nilcheck rfl) rfl (fd_ fo266_2 rfl rfl ?_))))))
 refine wl_ov (ov_load (v := .slice (some ⟨bo, oo, none⟩) nb co) sc22 rfl (fun _ hm => (hm.fact 0 rfl).2) rfl) rfl ?_
 refine mv_ rfl ?_
 refine wl_ov (ov_sliceHi (hi := k) es22 rfl rfl rfl (by omega)) rfl ?_
 refine wl_ov (ov_len es22 rfl) rfl (mv_ rfl (nn_ (gw_block ?_)))
 refine gw_toOwn (sz := 2) (n := 0) 0 [1] rfl rfl rfl (by unfold maxLen; omega) ?_
 refine gw_loop (γ := Nat × Nat × Value) (fun (gq : Nat × Nat × Value) => gq.1 ≤ k ∧ (timC (plB l cl (od.take gq.1)) (x2, x3) c).length = gq.2.1) (fun (gq : Nat × Nat × Value) => [(0, .pointer (some ⟨g, 0, none⟩)), (2, .int .i64 ((i : Nat) : Int)), (7, .pointer (some ⟨g1, 0, none⟩)), (8, .bool false), (9, gq.2.2), (20, .slice (some ⟨bo, oo, none⟩) k co), (21, .int .i64 ((k : Nat) : Int)), (22, .int .i64 ((gq.1 : Nat) : Int))]) (fun (gq : Nat × Nat × Value) => fun _ => True) (fun (gq : Nat × Nat × Value) => [(g1, 268, [.string c, .int .i64 ((st : Nat) : Int), .int .i64 ((mm : Nat) : Int)])]) (fun (gq : Nat × Nat × Value) => [⟨gq.2.2, 27, 2, gq.2.1, (timC (plB l cl (od.take gq.1)) (x2, x3) c).flatMap wEnc⟩]) (fun (gq : Nat × Nat × Value) => [BlkOld w.heap.size none g 266 [.slice (some ⟨b, off, none⟩) nb cb, CV, .slice (some ⟨bo, oo, none⟩) nb co, .slice (some ⟨bc, oc, none⟩) nb cc, UV, RV, .int .i64 bs], SlOld bkEnc 6 92 w.heap.size none (some ⟨b, off, none⟩) nb l, SlOld nEnc 1 3 w.heap.size none (some ⟨bo, oo, none⟩) nb od, SlOld sgEnc 1 9 w.heap.size none (some ⟨bc, oc, none⟩) nb cl]) (fun (gq : Nat × Nat × Value) => k - gq.1) (0, 0, .slice (some ⟨g2, 0, none⟩) 0 0) ⟨Nat.zero_le _, rfl⟩ ⟨rfl, rfl, rfl, rfl, rfl, rfl, rfl, rfl, trivial⟩ (fun _ hm => hm.pick [0] [0] [0, 1, 2, 3] rfl rfl) ?_
 rintro ⟨j, q, v⟩ hinv
 replace hinv : j ≤ k ∧ (timC (plB l cl (od.take j)) (x2, x3) c).length = q := hinv
 dsimp only
 refine sr_ ?_
 obtain ⟨hj0, hq⟩ := hinv
 refine wl_ov (ov_lss rfl rfl) rfl (nn_ (gw_seq ?_))
 refine gw_cond rfl (fun hh => ?_) (fun hh => ?_)
 ·have hj : ((j : Nat) : Int) < ((k : Nat) : Int) := by simpa using hh
  clear hh
  refine gw_skip (nx_then (gw_seq (gw_block (sr_ ?_))))
  obtain ⟨o, hoj⟩ : ∃ x, od[j]? = some x := ⟨_, List.getElem?_eq_getElem (by omega)⟩
  have hob := hord o (List.mem_of_getElem? hoj)
  have hat := timC_at (l := l) (cl := cl) (x := (x2, x3)) (c := c) hoj
  have hql := timC_len l cl (od.take j) (x2, x3) c
  rw [List.length_take] at hql
  obtain ⟨y, hy⟩ : ∃ x, l[o]? = some x := ⟨_, List.getElem?_eq_getElem (by omega)⟩
  obtain ⟨y0, y1, y2, y3, y4, y5⟩ := y
  obtain ⟨ck, hck⟩ : ∃ x, cl[o]? = some x := ⟨_, List.getElem?_eq_getElem (by omega)⟩
  rw [clAt_get hck, bkAt_get hy] at hat
  refine wl_ov (ov_index (j := j) es22 rfl rfl (by omega)) rfl ?_
  refine wl_ov (ov_elem1 (k := 0) (v := .int .i64 ((o : Nat) : Int)) sc3 rfl (fun _ hm => (hm.fact 2 rfl).1) hoj rfl rfl) rfl ?_
  refine sg_ rfl (nn_ (gw_seq ?_))
  refine gd (fun wz => Blk wz g1 268 [.string c, .int .i64 ((st : Nat) : Int), .int .i64 ((mm : Nat) : Int)] ∧ (BlkOld w.heap.size none g 266 [.slice (some ⟨b, off, none⟩) nb cb, CV, .slice (some ⟨bo, oo, none⟩) nb co, .slice (some ⟨bc, oc, none⟩) nb cc, UV, RV, .int .i64 bs]) wz ∧ (SlOld bkEnc 6 92 w.heap.size none (some ⟨b, off, none⟩) nb l) wz ∧ (SlOld nEnc 1 3 w.heap.size none (some ⟨bo, oo, none⟩) nb od) wz ∧ (SlOld sgEnc 1 9 w.heap.size none (some ⟨bc, oc, none⟩) nb cl) wz ∧ True) mixed (fun _ hm => ⟨hm.bl 0, hm.fa 0, hm.fa 1, hm.fa 2, hm.fa 3, trivial⟩) fun z => ?_
  refine wt 0 29 1 rfl z (ov_move rfl) ?_
  refine wt 1 29 3 rfl z (ov_nilcheck rfl) ?_
  refine wt 2 29 7 rfl z (ov_field fo266_3 rfl rfl) ?_
  refine wt 3 29 15 rfl z (ov_load (v := .slice (some ⟨bc, oc, none⟩) nb cc) sc103 rfl (fun _ hm => (hm.2.1).2) rfl) ?_
  refine wt 4 29 31 rfl z (ov_move rfl) ?_
  refine wt 5 29 63 rfl z (ov_index (j := o) es103 rfl rfl (by omega)) ?_
  refine wt 6 29 127 rfl z (ov_elem1 (k := 0) (v := .string ck) sc9 rfl (fun _ hm => (hm.2.2.2.2.1).1) hck rfl rfl) ?_
  refine wt 7 29 255 rfl z (ov_field fo268_0 rfl rfl) ?_
  refine wt 8 29 511 rfl z (ov_load sc9 rfl (fun _ hm => hm.1) rfl) ?_
  refine wt 9 29 1023 rfl z (ov_seql rfl rfl) ?_
  refine wt 10 29 2047 rfl z (ov_move rfl) ?_
  rcases Bool.eq_false_or_eq_true (ck.toList == c.toList) with hb3 | hb3
  ·refine wa_set 36 rfl (congrArg Value.bool hb3) ?_
   refine wto 11 29 4095 rfl rfl rfl z (ov_move rfl) ?_
   refine wto 12 29 8191 rfl rfl rfl z (ov_nilcheck rfl) ?_
   refine wto 13 29 16383 rfl rfl rfl z (ov_field fo266_0 rfl rfl) ?_
   refine wto 14 29 32767 rfl rfl rfl z (ov_load (v := .slice (some ⟨b, off, none⟩) nb cb) sc76 rfl (fun _ hm => (hm.2.1).2) rfl) ?_
   refine wto 15 29 65535 rfl rfl rfl z (ov_move rfl) ?_
   refine wto 16 29 131071 rfl rfl rfl z (ov_index (j := o) es76 rfl rfl (by omega)) ?_
   refine wto 17 29 262143 rfl rfl rfl z (ov_field fo92_2 rfl rfl) ?_
   refine wto 18 29 524287 rfl rfl rfl z (ov_elemN (k := 2) (vs := [.int .i64 y2, .int .i64 y3]) rz27 rfl (fun _ hm => (hm.2.2.1).1) hy rfl rfl rfl) ?_
   refine wto 19 29 1048575 rfl rfl rfl z (ov_move rfl) ?_
   refine wto 20 29 2097151 rfl rfl rfl z (ov_nilcheck rfl) ?_
   refine wto 21 29 4194303 rfl rfl rfl z (ov_field fo266_0 rfl rfl) ?_
   refine wto 22 29 8388607 rfl rfl rfl z (ov_load (v := .slice (some ⟨b, off, none⟩) nb cb) sc76 rfl (fun _ hm => (hm.2.1).2) rfl) ?_
   refine wto 23 29 16777215 rfl rfl rfl z (ov_move rfl) ?_
   refine wto 24 29 33554431 rfl rfl rfl z (ov_index (j := i) es76 rfl rfl (by omega)) ?_
   refine wto 25 29 67108863 rfl rfl rfl z (ov_field fo92_2 rfl rfl) ?_
   refine wto 26 29 134217727 rfl rfl rfl z (ov_elemN (k := 2) (vs := [.int .i64 x2, .int .i64 x3]) rz27 rfl (fun _ hm => (hm.2.2.1).1) hx rfl rfl rfl) ?_
   refine wa1 27 rfl ?_
   refine wl_guard_on rfl rfl rfl ?_
   refine wl_callv rfl cb161 rfl rfl (fun wx hm => (meet_any y2 y3 x2 x3 wx)) ?_
   refine wl_nil ?_
   refine nw 29 268435455 (fun _ hm => ⟨hm.bl 0, hm.fa 0, hm.fa 1, hm.fa 2, hm.fa 3, trivial⟩) fun z => ?_
   refine wt 28 29 536870911 rfl z (ov_pick_t rfl rfl) ?_
   refine wa_done (by kernel_rfl) ?_
   refine nx_then ?_
   refine gw_cond rfl (fun hh => ?_) (fun hh => ?_)
   ·have hm4 : (meetW y2 y3 x2 x3) = true := by simpa using hh
    clear hh
    refine gw_region (mv_ rfl (mv_ rfl (wl_ov (ov_nilcheck rfl) rfl (fd_ fo266_0 rfl rfl ?_))))
    refine wl_ov (ov_load (v := .slice (some ⟨b, off, none⟩) nb cb) sc76 rfl (fun _ hm => (hm.fact 0 rfl).2) rfl) rfl ?_
    refine mv_ rfl ?_
    refine wl_ov (ov_index (j := o) es76 rfl rfl (by omega)) rfl ?_
    refine fd_ fo92_2 rfl rfl ?_
    refine wl_ov (ov_elemN (k := 2) (vs := [.int .i64 y2, .int .i64 y3]) rz27 rfl (fun _ hm => (hm.fact 1 rfl).1) hy rfl rfl rfl) rfl ?_
    refine wl_buildSlice (e := 27) (cs := [.int .i64 y2, .int .i64 y3]) rfl (by kernel_rfl) rfl fun g5 => ?_
    rw [show (decide (ck = c) && mtW (wnB ⟨y0, y1, y2, y3, y4, y5⟩) (x2, x3)) = true from by rw [← tl_dec, hb3, Bool.true_and]; exact hm4, if_pos rfl] at hat
    refine wl_append (news := [.int .i64 y2, .int .i64 y3]) 0 0 ap341 rfl rfl rfl rfl rfl rfl rfl (by omega) (by unfold maxLen; omega) rfl rfl fun v2 hv2 => ?_
    rw [show (timC (plB l cl (od.take j)) (x2, x3) c).flatMap wEnc ++ ([.int .i64 y2, .int .i64 y3] : List Value) = (timC (plB l cl (od.take (j + 1))) (x2, x3) c).flatMap wEnc from by rw [hat]; simp [wEnc, wnB]]
    refine sg_ rfl (wl_nil (nx_blk_nrm (nx_then (gw_region (ad_ rfl rfl (mv_ rfl (wl_nil ?_)))))))
    exact nx_round (j + 1, q + 1, v2) ⟨by dsimp only; omega, by dsimp only; rw [hat, List.length_append, hq]; rfl⟩ (by dsimp only; omega) ⟨rfl, rfl, rfl, rfl, rfl, rfl, rfl, (some_int (by omega)), trivial⟩ (fun _ hm => hm.pick [1] [0] [0, 1, 2, 3] rfl rfl)
   have hm4 : (meetW y2 y3 x2 x3) = false := by simpa using hh
   clear hh
   refine gw_skip (nx_blk_nrm (nx_then (gw_region (ad_ rfl rfl (mv_ rfl (wl_nil ?_))))))
   rw [show (decide (ck = c) && mtW (wnB ⟨y0, y1, y2, y3, y4, y5⟩) (x2, x3)) = false from by rw [← tl_dec, hb3, Bool.true_and]; exact hm4, if_neg (by decide), List.append_nil] at hat
   rw [show (timC (plB l cl (od.take j)) (x2, x3) c) = (timC (plB l cl (od.take (j + 1))) (x2, x3) c) from hat.symm]
   exact nx_round (j + 1, q, v) ⟨by dsimp only; omega, by dsimp only; rw [hat]; exact hq⟩ (by dsimp only; omega) ⟨rfl, rfl, rfl, rfl, rfl, rfl, rfl, (some_int (by omega)), trivial⟩ (fun _ hm => hm.pick [0] [0] [0, 1, 2, 3] rfl rfl)
  refine wa_set 36 rfl (congrArg Value.bool hb3) ?_
  refine wtf 11 29 4095 rfl rfl rfl z ?_
  refine wtf 12 29 8191 rfl rfl rfl z ?_
  refine wtf 13 29 16383 rfl rfl rfl z ?_
  refine wtf 14 29 32767 rfl rfl rfl z ?_
  refine wtf 15 29 65535 rfl rfl rfl z ?_
  refine wtf 16 29 131071 rfl rfl rfl z ?_
  refine wtf 17 29 262143 rfl rfl rfl z ?_
  refine wtf 18 29 524287 rfl rfl rfl z ?_
  refine wtf 19 29 1048575 rfl rfl rfl z ?_
  refine wtf 20 29 2097151 rfl rfl rfl z ?_
  refine wtf 21 29 4194303 rfl rfl rfl z ?_
  refine wtf 22 29 8388607 rfl rfl rfl z ?_
  refine wtf 23 29 16777215 rfl rfl rfl z ?_
  refine wtf 24 29 33554431 rfl rfl rfl z ?_
  refine wtf 25 29 67108863 rfl rfl rfl z ?_
  refine wtf 26 29 134217727 rfl rfl rfl z ?_
  refine wtf 27 29 268435455 rfl rfl rfl z ?_
  refine wt 28 29 536870911 rfl z (ov_pick_f rfl rfl) ?_
  refine wa_done (by kernel_rfl) ?_
  refine nx_then (cf_ rfl (gw_skip (nx_blk_nrm (nx_then (gw_region (ad_ rfl rfl (mv_ rfl (wl_nil ?_))))))))
  rw [show (decide (ck = c) && mtW (wnB ⟨y0, y1, y2, y3, y4, y5⟩) (x2, x3)) = false from by rw [← tl_dec, hb3, Bool.false_and], if_neg (by decide), List.append_nil] at hat
  rw [show (timC (plB l cl (od.take j)) (x2, x3) c) = (timC (plB l cl (od.take (j + 1))) (x2, x3) c) from hat.symm]
  exact nx_round (j + 1, q, v) ⟨by dsimp only; omega, by dsimp only; rw [hat]; exact hq⟩ (by dsimp only; omega) ⟨rfl, rfl, rfl, rfl, rfl, rfl, rfl, (some_int (by omega)), trivial⟩ (fun _ hm => hm.pick [0] [0] [0, 1, 2, 3] rfl rfl)
 have hj : ¬ (((j : Nat) : Int) < ((k : Nat) : Int)) := by simpa using hh
 clear hh
 refine gw_exit ?_
 refine nx_then_exit (nx_then_exit ?_)
 refine nx_blk_here ?_
 refine nx_then (sr_ ?_)
 obtain rfl : j = k := by omega
 refine wl_look (R := ∃ A cc, v = .slice A q cc) (fun wx hm => own_slice (hm.ownI 0 rfl)) ?_
 rintro ⟨At, ct, rfl⟩
 refine mv_ rfl (mv_ rfl (wl_ov (ov_nilcheck rfl) rfl (fd_ fo266_0 rfl rfl ?_)))
 refine wl_ov (ov_load (v := .slice (some ⟨b, off, none⟩) nb cb) sc76 rfl (fun _ hm => (hm.fact 0 rfl).2) rfl) rfl ?_
 refine mv_ rfl ?_
 refine wl_ov (ov_index (j := i) es76 rfl rfl (by omega)) rfl ?_
 refine fd_ fo92_2 rfl rfl ?_
 refine wl_ov (ov_elemN (k := 2) (vs := [.int .i64 x2, .int .i64 x3]) rz27 rfl (fun _ hm => (hm.fact 1 rfl).1) hx rfl rfl rfl) rfl ?_
 have hql := timC_len l cl (od.take j) (x2, x3) c
 rw [List.length_take] at hql
 obtain ⟨BT, hBT⟩ : ∃ z, z = busyT (timC (plB l cl (od.take j)) (x2, x3) c) x2 x3 := ⟨_, rfl⟩
 refine wl_callv (v := .tuple #[.int .i64 BT.1, .int .i64 BT.2]) rfl cb320 rfl rfl (fun wx hm => (by rw [hBT]; exact busiest_any (timC (plB l cl (od.take j)) (x2, x3) c) At q ct x2 x3 wx (SlT.ofOwn w_len (hm.ownI 0 rfl) hq) (timC_ok htm (fun y hy => by rw [hlen]; exact hord y (List.mem_of_mem_take hy))) (by omega) (by have h5 := htm _ (List.mem_of_getElem? hx); dsimp only at h5; omega))) ?_
 refine mv_ rfl (wl_ov (ov_extract rfl rfl) rfl (wl_ov (ov_extract rfl rfl) rfl (sg_ rfl (sg_ rfl (nn_ (sr_ (mv_ rfl (fd_ fo268_2 rfl rfl (lk_ sc3 0 rfl rfl rfl (wl_ov (ov_lss rfl rfl) rfl (sg_ rfl ?_)))))))))))
 refine nn_ ?_
 refine gw_ret ?_
 refine nx_ret1 rfl rfl fun wx hm => ?_
 exact ⟨by rw [hBT]; rfl, hm.g⟩
end Go.Proofs.YtempjmpfdniecaaGreatDoor
namespace Go.Proofs.YtempjmpfdniecaaGreatDoor
open Go.RowKit
section
variable {c : Cx} {K : World → Prop} {L : List (Nat × TypeId × List Value)} {O : List Own} {X : List (World → Prop)} {w w' : World}
theorem Mem.blkFar (h : Mem c K L O X w) (i j : Nat) {g br : Nat} {T e : TypeId} {cs : List Value} {n cap sz n' : Nat} {xs : List Value} (hi : L[i]? = some (g, T, cs)) (hj : O[j]? = some ⟨.slice (some ⟨br, 0, none⟩) n cap, e, sz, n', xs⟩) : BlkOld w.heap.size (some br) g T cs w :=
  ⟨⟨(h.blkI i hi).lt, fun e => h.od _ (List.mem_of_getElem? hj) _ (List.mem_of_getElem? hi) e⟩, h.blkI i hi⟩
end
end Go.Proofs.YtempjmpfdniecaaGreatDoor
namespace Go.Proofs.YtempjmpfdniecaaGreatDoor
open Go.RowKit
theorem choicesP_any (cs : List Cs) (A0 : Option Addr) (n0 c0 : Nat) (sl : List Sk) (A1 : Option Addr) (n1 c1 : Nat) (l : List Bk) (A : Option Addr) (n c : Nat) (w : World) (hcs : SlT csEnc 2 158 w A0 n0 cs) (hco : ∀ x ∈ cs, CsOk x) (hn0 : n0 ≤ 1000) (hs : SlT skEnc 2 211 w A1 n1 sl) (hso : ∀ x ∈ sl, SkOk x) (hn1 : n1 ≤ 1000) (hl : SlT bkEnc 6 92 w A n l) (hn : n ≤ 1000) (hkeys : ∀ b ∈ l, keysE cs [b.cls] = 0) :
  Calls Tryz.prog 220 #[.slice A0 n0 c0, .slice A1 n1 c1, .slice A n c] w (fun e w' => ∃ (A9 : Option Addr) (c9 : Nat) (cx : List ChS), e = .returned (.slice A9 n c9) ∧ SlT csnEnc 1 269 w' A9 n cx ∧ Chs 268 cx w' ∧ cx.map ChS.l = l.map (chB cs sl) ∧ w.grownBy w' none) := by
 refine gw_enter ⟨59, w, none, []⟩ Tryz.func220 rfl Tryz.ntmps220 rfl (mem0 (X := [SlOld csEnc 2 158 w.heap.size none A0 n0 cs, SlOld skEnc 2 211 w.heap.size none A1 n1 sl, SlOld bkEnc 6 92 w.heap.size none A n l]) (allF_cons hcs.old (allF_cons hs.old (allF_cons hl.old allF_nil))) (allL_cons SlOld.lasts (allL_cons SlOld.lasts (allL_cons SlOld.lasts allL_nil)))) ?_
 refine sr_ ?_
 have hlen := hl.len
 have hlen0 := hcs.len
 refine sg_ rfl (nn_ (sr_ (sg_ rfl (nn_ (gw_seq (sr_ (mv_ rfl (wl_ov (ov_len es76 rfl) rfl (mv_ rfl ?_)))))))))
 refine nn_ (gw_block ?_)
 refine gw_nilOwn 269 1 ?_
 refine gw_loop (γ := Nat × Value × List ChS) (fun g => g.1 ≤ n ∧ g.2.2.map ChS.l = (l.take g.1).map (chB cs sl) ∧ ∀ x ∈ g.2.2, x.l.length = x.n) (fun g => [(0, .slice A0 n0 c0), (1, .slice A1 n1 c1), (6, .slice none 0 0), (7, g.2.1), (16, .slice A n c), (17, .int .i64 ((n : Nat) : Int)), (18, .int .i64 ((g.1 : Nat) : Int))]) (fun g => fun _ => True) (fun g => []) (fun g => (([⟨g.2.1, 269, 1, g.1, g.2.2.flatMap csnEnc⟩] : List Own) ++ famC 268 g.2.2)) (fun g => [SlOld csEnc 2 158 w.heap.size none A0 n0 cs, SlOld skEnc 2 211 w.heap.size none A1 n1 sl, SlOld bkEnc 6 92 w.heap.size none A n l]) (fun g => n - g.1) (0, .slice none 0 0, []) ⟨Nat.zero_le _, rfl, fun _ h => by cases h⟩ ⟨rfl, rfl, rfl, rfl, rfl, rfl, rfl, trivial⟩ (fun _ hm => hm.pick [] [0] [0, 1, 2] rfl rfl) ?_
 rintro ⟨i, v, cx⟩ hinv
 replace hinv : i ≤ n ∧ cx.map ChS.l = (l.take i).map (chB cs sl) ∧ ∀ x ∈ cx, x.l.length = x.n := hinv
 dsimp only
 refine sr_ ?_
 obtain ⟨hi0, hcx, hcn⟩ := hinv
 refine wl_ov (ov_lss rfl rfl) rfl (nn_ (gw_seq ?_))
 refine gw_cond rfl (fun hh => ?_) (fun hh => ?_)
 ·have hi : ((i : Nat) : Int) < ((n : Nat) : Int) := by simpa using hh
  clear hh
  refine gw_skip (nx_then (gw_seq (gw_block (sr_ ?_))))
  obtain ⟨b, off, hA, _, _⟩ := hl.get (by omega)
  subst hA
  obtain ⟨x, hx⟩ : ∃ x, l[i]? = some x := ⟨_, List.getElem?_eq_getElem (by omega)⟩
  obtain ⟨x0, x1, x2, x3, x4, x5⟩ := x
  have hkey := hkeys _ (List.mem_of_getElem? hx)
  dsimp only at hkey
  obtain ⟨KS, hKS⟩ : ∃ z, z = clsF cs (⟨x0, x1, x2, x3, x4, x5⟩ : Bk) := ⟨_, rfl⟩
  have hks : ([.string x1] : List Value) ++ (pathN cs n0 x1).flatMap sgEnc = KS.flatMap sgEnc := by
   rw [hKS]
   show _ = (x1 :: pathN cs cs.length x1).flatMap sgEnc
   rw [hlen0]; rfl
  have hkl : KS.length = 1 + (pathN cs n0 x1).length := by
   rw [hKS]
   show (x1 :: pathN cs cs.length x1).length = _
   rw [hlen0, List.length_cons]; omega
  have hpn := pathN_len cs n0 x1
  refine wl_ov (ov_index (j := i) es76 rfl rfl (by omega)) rfl ?_
  refine wl_ov (ov_elem (vs := [.string x0, .string x1, .int .i64 x2, .int .i64 x3, .int .i64 x4, .int .i64 x5]) rz92 rfl (fun _ hm => (hm.fact 2 rfl).1) hx rfl rfl) rfl ?_
  refine wl_alloc zc92 rfl fun g1 => ?_
  refine wl_stores (cs' := [.string x0, .string x1, .int .i64 x2, .int .i64 x3, .int .i64 x4, .int .i64 x5]) 0 rz92 rfl rfl rfl rfl rfl rfl rfl rfl ?_
  refine nn_ (sr_ (mv_ rfl (fd_ fo92_1 rfl rfl (lk_ sc9 0 rfl rfl rfl ?_))))
  refine wl_callgo (γ := Option Addr × Nat × Nat) (val := (fun g => .tuple #[.slice g.1 g.2.1 g.2.2, .int .i64 0])) (φ := (fun g => (pathN cs n0 x1).length = g.2.1)) (fun g => ⟨.slice g.1 g.2.1 g.2.2, 9, 1, g.2.1, (pathN cs n0 x1).flatMap sgEnc⟩) rfl cb157 rfl rfl (fun wx hm => (above_right cs A0 n0 c0 x1 wx (hm.fact 0 rfl).1 hco (by omega) hkey).mono fun _ _ ⟨A2, n2, c2, he, ho, hl2, hg⟩ => ⟨(A2, n2, c2), he, hl2, ho, hg⟩) ?_
  rintro ⟨A2, n2, c2⟩ hpl
  dsimp only at hpl ⊢
  refine mv_ rfl (wl_ov (ov_extract rfl rfl) rfl (wl_ov (ov_extract rfl rfl) rfl (sg_ rfl (sg_ rfl (nn_ (sr_ (sg_ rfl (nn_ (gw_seq (gw_seq ?_))))))))))
  refine gw_region (fd_ fo92_1 rfl rfl (lk_ sc9 0 rfl rfl rfl ?_))
  refine wl_buildSlice (e := 9) (cs := [.string x1]) rfl (by kernel_rfl) rfl fun g2 => ?_
  refine mv_ rfl ?_
  refine wl_toOwn (sz := 1) (n := 1) 0 [1] rfl rfl rfl (by unfold maxLen; omega) ?_
  refine wl_appendO 0 1 ap103 rfl rfl rfl rfl (flat_one sgEnc sg_one _) (by omega) (by unfold maxLen; omega) rfl rfl fun v2 hv => ?_
  rw [hks]
  refine wl_look (R := ∃ A cc, v2 = .slice A (1 + n2) cc) (fun wx hm => own_slice (hm.ownI 0 rfl)) ?_
  rintro ⟨A5, c5, rfl⟩
  have hKl : KS.length = 1 + n2 := by omega
  refine wl_nilOwn 268 3 ?_
  refine wl_ov (ov_len es103 rfl) rfl (mv_ rfl (nn_ (gw_block ?_)))
  refine gw_loop (γ := Nat × Nat × Value) (fun gg => gg.1 ≤ 1 + n2 ∧ (chT sl KS gg.1).length = gg.2.1) (fun gg => [(0, .slice A0 n0 c0), (1, .slice A1 n1 c1), (6, .slice none 0 0), (7, v), (12, gg.2.2), (16, .slice (some ⟨b, off, none⟩) n c), (17, .int .i64 ((n : Nat) : Int)), (18, .int .i64 ((i : Nat) : Int)), (33, .slice A5 (1 + n2) c5), (34, .int .i64 ((1 + n2 : Nat) : Int)), (35, .int .i64 ((gg.1 : Nat) : Int))]) (fun gg => fun _ => True) (fun gg => [(g1, 92, [.string x0, .string x1, .int .i64 x2, .int .i64 x3, .int .i64 x4, .int .i64 x5])]) (fun gg => (([⟨gg.2.2, 268, 3, gg.2.1, (chT sl KS gg.1).flatMap cdEnc⟩, ⟨.slice A5 (1 + n2) c5, 9, 1, 1 + n2, KS.flatMap sgEnc⟩, ⟨v, 269, 1, i, cx.flatMap csnEnc⟩] : List Own) ++ famC 268 cx)) (fun gg => [SlOld csEnc 2 158 w.heap.size none A0 n0 cs, SlOld skEnc 2 211 w.heap.size none A1 n1 sl, SlOld bkEnc 6 92 w.heap.size none (some ⟨b, off, none⟩) n l]) (fun gg => 1 + n2 - gg.1) (0, 0, .slice none 0 0) ⟨Nat.zero_le _, rfl⟩ ⟨rfl, rfl, rfl, rfl, rfl, rfl, rfl, rfl, rfl, rfl, rfl, trivial⟩ (fun _ hm => Mem.pickT (O := [⟨.slice none 0 0, 268, 3, 0, []⟩, ⟨.slice A5 (1 + n2) c5, 9, 1, 1 + n2, KS.flatMap sgEnc⟩, ⟨.slice A2 n2 c2, 9, 1, n2, (pathN cs n0 x1).flatMap sgEnc⟩, ⟨v, 269, 1, i, cx.flatMap csnEnc⟩]) (F := famC 268 cx) hm [0] [0, 1, 3] [0, 1, 2] rfl rfl) ?_
  rintro ⟨j, q, vc⟩ hinv
  replace hinv : j ≤ 1 + n2 ∧ (chT sl KS j).length = q := hinv
  dsimp only
  refine sr_ ?_
  obtain ⟨hj0, hq⟩ := hinv
  refine wl_ov (ov_lss rfl rfl) rfl (nn_ (gw_seq ?_))
  refine gw_cond rfl (fun hh => ?_) (fun hh => ?_)
  ·have hj : ((j : Nat) : Int) < ((1 + n2 : Nat) : Int) := by simpa using hh
   clear hh
   refine gw_skip (nx_then (gw_seq (gw_block (sr_ ?_))))
   refine wl_look (R := ∃ g, A5 = some ⟨g, 0, none⟩) (fun wx hm => own_addr (hm.ownI 1 rfl) (by omega)) ?_
   rintro ⟨gk7, rfl⟩
   obtain ⟨ck, hck⟩ : ∃ x, KS[j]? = some x := ⟨_, List.getElem?_eq_getElem (by omega)⟩
   have hat := chT_at (sl := sl) hck
   have hcl := chT_len sl KS j
   refine mv_ rfl ?_
   refine wl_ov (ov_index (j := j) es103 rfl rfl (by omega)) rfl ?_
   refine wl_ov (ov_elem1 (k := 0) (v := .string ck) sc9 rfl (fun _ hm => (SlT.ofOwn sg_len (hm.ownI 1 rfl) hKl)) hck rfl rfl) rfl ?_
   refine sg_ rfl (sg_ rfl (nn_ (sr_ (mv_ rfl (mv_ rfl ?_)))))
   refine wl_callv rfl cb158 rfl rfl (fun wx hm => (many_any sl A1 n1 c1 ck wx (hm.fact 1 rfl).1 hso (by omega))) ?_
   refine sg_ rfl (nn_ (sr_ (mv_ rfl ?_)))
   refine wl_ov (ov_gtr rfl rfl) rfl ?_
   refine nn_ ?_
   refine gw_cond rfl (fun hh => ?_) (fun hh => ?_)
   ·have hm0 : 0 < manyV sl ck := by simpa using hh
    clear hh
    refine gw_region ?_
    have hcap : manyV sl ck = ((capB sl ck : Nat) : Int) := by unfold capB; omega
    rw [if_pos (show 0 < capB sl ck by omega)] at hat
    refine wl_set 15 (v' := .int .i64 ((capB sl ck : Nat) : Int)) rfl (congrArg (Value.int .i64) hcap) ?_
    refine mv_ rfl (mv_ rfl (mv_ rfl (mv_ rfl ?_)))
    refine wl_ov (ov_build (cs := [.string ck, .int .i64 ((j : Nat) : Int), .int .i64 ((capB sl ck : Nat) : Int)]) rfl (by kernel_rfl)) rfl ?_
    refine wl_buildSlice (e := 268) (cs := [.string ck, .int .i64 ((j : Nat) : Int), .int .i64 ((capB sl ck : Nat) : Int)]) rfl (by kernel_rfl) rfl fun g3 => ?_
    refine wl_append (news := [.string ck, .int .i64 ((j : Nat) : Int), .int .i64 ((capB sl ck : Nat) : Int)]) 0 0 ap269 rfl rfl rfl rfl rfl rfl rfl (by omega) (by unfold maxLen; omega) rfl rfl fun v3 hv3 => ?_
    rw [show (chT sl KS j).flatMap cdEnc ++ ([.string ck, .int .i64 ((j : Nat) : Int), .int .i64 ((capB sl ck : Nat) : Int)] : List Value) = (chT sl KS (j + 1)).flatMap cdEnc from by rw [hat]; simp [cdEnc]]
    refine sg_ rfl (wl_nil (nx_blk_nrm (nx_then (gw_region (ad_ rfl rfl (mv_ rfl (wl_nil ?_)))))))
    exact nx_round (j + 1, q + 1, v3) ⟨by dsimp only; omega, by dsimp only; rw [hat, List.length_append, hq]; rfl⟩ (by dsimp only; omega) ⟨rfl, rfl, rfl, rfl, rfl, rfl, rfl, rfl, rfl, rfl, (some_int (by omega)), trivial⟩ (fun _ hm => Mem.pickT (O := [⟨v3, 268, 3, q + 1, (chT sl KS (j + 1)).flatMap cdEnc⟩, ⟨.slice (some ⟨gk7, 0, none⟩) (1 + n2) c5, 9, 1, 1 + n2, KS.flatMap sgEnc⟩, ⟨v, 269, 1, i, cx.flatMap csnEnc⟩]) (F := famC 268 cx) hm [1] [0, 1, 2] [0, 1, 2] rfl rfl)
   have hm0 : ¬ (0 < manyV sl ck) := by simpa using hh
   clear hh
   refine gw_skip (nx_blk_nrm (nx_then (gw_region ?_)))
   rw [if_neg (show ¬ 0 < capB sl ck by unfold capB; omega), List.append_nil] at hat
   rw [show chT sl KS j = chT sl KS (j + 1) from hat.symm]
   refine ad_ rfl rfl (mv_ rfl (wl_nil ?_))
   exact nx_round (j + 1, q, vc) ⟨by dsimp only; omega, by dsimp only; rw [hat]; exact hq⟩ (by dsimp only; omega) ⟨rfl, rfl, rfl, rfl, rfl, rfl, rfl, rfl, rfl, rfl, (some_int (by omega)), trivial⟩ (fun _ hm => Mem.pickT (O := [⟨vc, 268, 3, q, (chT sl KS (j + 1)).flatMap cdEnc⟩, ⟨.slice (some ⟨gk7, 0, none⟩) (1 + n2) c5, 9, 1, 1 + n2, KS.flatMap sgEnc⟩, ⟨v, 269, 1, i, cx.flatMap csnEnc⟩]) (F := famC 268 cx) hm [0] [0, 1, 2] [0, 1, 2] rfl rfl)
  have hj : ¬ (((j : Nat) : Int) < ((1 + n2 : Nat) : Int)) := by simpa using hh
  clear hh
  refine gw_exit ?_
  refine nx_then_exit (nx_then_exit ?_)
  refine nx_blk_here ?_
  refine nx_then (gw_region ?_)
  have hall : chT sl KS j = chB cs sl (⟨x0, x1, x2, x3, x4, x5⟩ : Bk) := by rw [chT_end (by omega), hKS]; rfl
  rw [hall] at hq ⊢
  refine wl_look (R := ∃ A cc, vc = .slice A q cc) (fun wx hm => own_slice (hm.ownI 0 rfl)) ?_
  rintro ⟨Ac, cc, rfl⟩
  refine mv_ rfl (mv_ rfl ?_)
  refine wl_buildSlice (e := 269) (cs := [.slice Ac q cc]) rfl (by kernel_rfl) rfl fun g4 => ?_
  refine wl_append (news := [.slice Ac q cc]) 2 0 ap263 rfl rfl rfl rfl rfl rfl rfl (by omega) (by unfold maxLen; omega) rfl rfl fun v4 hv4 => ?_
  rw [show cx.flatMap csnEnc ++ ([.slice Ac q cc] : List Value) = (cx ++ [(⟨Ac, q, cc, chB cs sl (⟨x0, x1, x2, x3, x4, x5⟩ : Bk)⟩ : ChS)]).flatMap csnEnc from by simp [csnEnc]]
  refine sg_ rfl (wl_nil (nx_blk_nrm (nx_then (gw_region (ad_ rfl rfl (mv_ rfl (wl_nil ?_)))))))
  exact nx_round (i + 1, v4, cx ++ [(⟨Ac, q, cc, chB cs sl (⟨x0, x1, x2, x3, x4, x5⟩ : Bk)⟩ : ChS)]) ⟨by dsimp only; omega, by dsimp only; rw [List.map_append, hcx, List.take_add_one, hx, Option.toList_some, List.map_append]; rfl, fun y hy => by
   rcases List.mem_append.1 hy with hy | hy
   ·exact hcn y hy
   rw [List.mem_singleton.1 hy]; exact hq⟩ (by dsimp only; omega) ⟨rfl, rfl, rfl, rfl, rfl, rfl, (some_int (by omega)), trivial⟩ (fun _ hm => (Mem.pickT (O := [⟨.slice Ac q cc, 268, 3, q, (chB cs sl (⟨x0, x1, x2, x3, x4, x5⟩ : Bk)).flatMap cdEnc⟩, ⟨.slice A5 (1 + n2) c5, 9, 1, 1 + n2, KS.flatMap sgEnc⟩, ⟨v4, 269, 1, i + 1, (cx ++ [(⟨Ac, q, cc, chB cs sl (⟨x0, x1, x2, x3, x4, x5⟩ : Bk)⟩ : ChS)]).flatMap csnEnc⟩]) (F := famC 268 cx) hm [] [0, 2] [0, 1, 2] rfl rfl).famSnoc)
 have hi : ¬ (((i : Nat) : Int) < ((n : Nat) : Int)) := by simpa using hh
 clear hh
 refine gw_exit ?_
 refine nx_then_exit (nx_then_exit ?_)
 refine nx_blk_here ?_
 refine nx_then (sr_ ?_)
 have hin : i = n := by omega
 subst hin
 rw [List.take_of_length_le (by omega)] at hcx
 have hcl : cx.length = i := by have h := congrArg List.length hcx; rw [List.length_map, List.length_map] at h; omega
 refine wl_look (R := ∃ A cc, v = .slice A i cc) (fun wx hm => own_slice (hm.ownI 0 rfl)) ?_
 rintro ⟨Au, cu, rfl⟩
 refine mv_ rfl (sg_ rfl (nn_ ?_))
 refine gw_ret ?_
 refine nx_ret1 rfl rfl fun wx hm => ?_
 exact ⟨Au, cu, cx, rfl, SlT.ofOwn csn_len (hm.ownI 0 rfl) hcl, Mem.famChs (O := [⟨.slice Au i cu, 269, 1, i, cx.flatMap csnEnc⟩]) hm hcn, hcx, hm.g⟩
end Go.Proofs.YtempjmpfdniecaaGreatDoor
namespace Go.Proofs.YtempjmpfdniecaaGreatDoor
open Go.RowKit
def gPow : Nat := 3
def gMax : Nat := 0
def gSyn : Nat := 1
def gRan : Nat := 2
/-- The package variables that numbers and texts are read and written with. -/
def TxtW (w : World) : Prop :=
  (∃ T f, w.heap[gPow]? = some (.cells (Lib.pow10Tab.map fun z => Value.int .u64 z).toArray T f)) ∧
  (∃ cs T f m, w.heap[gMax]? = some (.cells cs T f) ∧ cs[0]? = some (.int .i64 m)) ∧
  (∃ T f tp p, w.heap[gSyn]? = some (.cells #[.iface tp p] T f)) ∧
  (∃ T f tp p, w.heap[gRan]? = some (.cells #[.iface tp p] T f))
def isG (k : Nat) : Prop := k = gPow ∨ k = gMax ∨ k = gSyn ∨ k = gRan
theorem TxtW.lt {w : World} (h : TxtW w) {k : Nat} (hk : isG k) : k < w.heap.size := by
  obtain ⟨⟨_, _, h1⟩, ⟨_, _, _, _, h2, _⟩, ⟨_, _, _, _, h3⟩, ⟨_, _, _, _, h4⟩⟩ := h
  rcases hk with rfl | rfl | rfl | rfl
  · exact (Array.getElem?_eq_some_iff.1 h1).1
  · exact (Array.getElem?_eq_some_iff.1 h2).1
  · exact (Array.getElem?_eq_some_iff.1 h3).1
  · exact (Array.getElem?_eq_some_iff.1 h4).1
theorem TxtW.same {w w' : World} (h : TxtW w) (hk : ∀ k, isG k → w'.heap[k]? = w.heap[k]?) : TxtW w' := by
  obtain ⟨⟨T1, f1, h1⟩, ⟨cs, T2, f2, m, h2, h2b⟩, ⟨T3, f3, t3, p3, h3⟩, ⟨T4, f4, t4, p4, h4⟩⟩ := h
  exact ⟨⟨T1, f1, (hk _ (.inl rfl)).trans h1⟩, ⟨cs, T2, f2, m, (hk _ (.inr (.inl rfl))).trans h2, h2b⟩, ⟨T3, f3, t3, p3, (hk _ (.inr (.inr (.inl rfl)))).trans h3⟩, ⟨T4, f4, t4, p4, (hk _ (.inr (.inr (.inr rfl)))).trans h4⟩⟩
/-- .. and they are old: nothing that is made, and no row that turns, is one of them. -/
def TxtO (N : Nat) (row : Option Nat) (w : World) : Prop := TxtW w ∧ ∀ k, isG k → k < N ∧ row ≠ some k
theorem TxtW.old {w : World} (h : TxtW w) : TxtO w.heap.size none w := ⟨h, fun _ hk => ⟨h.lt hk, fun e => by cases e⟩⟩
theorem TxtO.lasts {N : Nat} {row : Option Nat} {Tt : List TypeId} : Lasts2 N row Tt (TxtO N row) :=
  ⟨fun _ _ hg h => ⟨h.1.same fun k hk => hg.block k (h.1.lt hk) (fun e => by cases e), h.2⟩,
   fun w w' r T c _ _ h3 hg h => ⟨h.1.same fun k hk => hg.block k (h.1.lt hk) (fun e => by
      have e2 : k = r := by injection e
      subst e2
      have := h.2 k hk
      rcases h3 with h3 | h3
      · omega
      · exact this.2 h3), h.2⟩⟩
theorem TxtW.max {w : World} (h : TxtW w) : ∃ m, w.cell? ⟨gMax, 0, none⟩ = some (.int .i64 m) := by
  obtain ⟨_, ⟨cs, T2, f2, m, h2, h2b⟩, _⟩ := h
  exact ⟨m, by simp [World.cell?, h2, h2b]⟩
end Go.Proofs.YtempjmpfdniecaaGreatDoor
namespace Go.Proofs.YtempjmpfdniecaaGreatDoor
open Go.RowKit
/-- A fact on old blocks alone. -/
def OldF (N : Nat) (A : World → Prop) : Prop := ∀ w w', Below N w w' → A w → A w'
section
variable {c : Cx} {K : World → Prop} {L : List (Nat × TypeId × List Value)} {O : List Own} {X X' : List (World → Prop)} {w w' : World} {T e : TypeId} {b : Nat} {p v : Value} {bs : List Value}
theorem Mem.gB (hm : Mem c K L O X w) (hb : Below c.w0.heap.size w w') : c.w0.grownBy w' c.row :=
  ⟨hb.os.trans hm.g.os, hb.tape.trans hm.g.tape, hb.output.trans hm.g.output, Nat.le_trans hm.g.size hb.size, fun k hk hne => (hb.block k hk).trans (hm.g.block k hk hne)⟩
theorem Mem.built (hm : Mem c K L O X w) (h : Lib.BuilderAt T e c.w0.heap.size b p bs w') (hb : Below c.w0.heap.size w w') (hX : ∀ A ∈ X', OldF c.w0.heap.size A ∧ A ∈ X) :
    ∃ v, Mem c (fun _ => True) [(b, T, [p, v])] [⟨v, e, 1, bs.length, bs⟩] X' w' := by
  obtain ⟨hN, v, hh, ho, hne⟩ := h
  refine ⟨v, hm.gB hb, trivial, fun x hx => ?_, List.pairwise_singleton _ _, fun r hr => ?_, fun r hr x hx => ?_, List.pairwise_singleton _ _, fun A hA => (hX A hA).1 _ _ hb (hm.x A (hX A hA).2), Keeps.true_, fun A hA => hm.l A (hX A hA).2, hm.rs⟩
  · rw [List.mem_singleton.1 hx]; exact ⟨hN, hh⟩
  · rw [List.mem_singleton.1 hr]; exact ho
  · rw [List.mem_singleton.1 hr, List.mem_singleton.1 hx]; exact hne
end
end Go.Proofs.YtempjmpfdniecaaGreatDoor
namespace Go.Proofs.YtempjmpfdniecaaGreatDoor
open Go.RowKit
section
variable {K : World → Prop} {L : List (Nat × TypeId × List Value)} {O : List Own} {X X' : List (World → Prop)} {w w' w0 : World} {n n' : Nat} {row : Option Nat} {Tt : List TypeId}
theorem Mem.cx (h : Mem ⟨n, w0, row, Tt⟩ K L O X w) : Mem ⟨n', w0, row, Tt⟩ K L O X w := ⟨h.g, h.k, h.b, h.nd, h.o, h.od, h.oo, h.x, h.kk, h.l, h.rs⟩
end
section
variable {c : Cx} {K : World → Prop} {L : List (Nat × TypeId × List Value)} {O : List Own} {X X' : List (World → Prop)} {w w' : World}
/-- A call has turned a block that is known, the only one, and handed a row of its own out through it. -/
theorem Mem.handed {g : Nat} {T e : TypeId} {sz m : Nat} {v u : Value} {xs : List Value} (hm : Mem c (fun _ => True) [(g, T, [u])] O X w) (hg : w.grownBy w' (some g)) (hb : Blk w' g T [v]) (ho : w'.ownsRow w.heap.size e sz v m xs)
    (hX : ∀ A ∈ X', (∀ w w', c.w0.heap.size ≤ g → w.grownBy w' (some g) → A w → A w') ∧ A ∈ X) : Mem c (fun _ => True) [(g, T, [v])] [⟨v, e, sz, m, xs⟩] X' w' := by
  have h1 := hm.b _ (List.mem_singleton.2 rfl)
  have hlt : g < w.heap.size := h1.2.lt
  have hN : c.w0.heap.size ≤ w.heap.size := hm.g.size
  have hne : v.ownBlock ≠ some g := fun e => by
    have := ho.lt g e
    omega
  refine ⟨⟨hg.os.trans hm.g.os, hg.tape.trans hm.g.tape, hg.output.trans hm.g.output, Nat.le_trans hm.g.size hg.size, fun k hk hne => ?_⟩, trivial, fun x hx => ?_, List.pairwise_singleton _ _, fun r hr => ?_, fun r hr x hx => ?_, List.pairwise_singleton _ _, fun A hA => (hX A hA).1 _ _ h1.1 hg (hm.x A (hX A hA).2), Keeps.true_, fun A hA => hm.l A (hX A hA).2, hm.rs⟩
  · exact (hg.block k (Nat.lt_of_lt_of_le hk hm.g.size) (fun e => by
      have e2 : k = g := by injection e
      have := h1.1
      omega)).trans (hm.g.block k hk hne)
  · rw [List.mem_singleton.1 hx]; exact ⟨h1.1, hb⟩
  · rw [List.mem_singleton.1 hr]
    refine ⟨ho.1, ?_⟩
    rcases ho.2 with h | ⟨g', cap, cur, h2, h3, h4⟩
    · exact .inl h
    · exact .inr ⟨g', cap, cur, h2, Nat.le_trans hN h3, h4⟩
  · rw [List.mem_singleton.1 hr, List.mem_singleton.1 hx]; exact hne
end
theorem TxtO.far {N g : Nat} {row : Option Nat} : ∀ w w' : World, N ≤ g → w.grownBy w' (some g) → TxtO N row w → TxtO N row w' := fun _ _ hN hg h =>
  ⟨h.1.same fun k hk => hg.block k (h.1.lt hk) (fun e => by
    have e2 : k = g := by injection e
    have := (h.2 k hk).1
    omega), h.2⟩
end Go.Proofs.YtempjmpfdniecaaGreatDoor
namespace Go.Proofs.YtempjmpfdniecaaGreatDoor
open Go.RowKit
/-- What classesFrom does, from a place of the order on. -/
def CfSpec (w0 : World) (l : List Bk) (A : Option Addr) (nb cb : Nat) (cs : List Cs) (sl : List Sk) (A9 : Option Addr) (c9 : Nat) (cx : List ChS) (od : List Nat) (Ao : Option Addr) (co : Nat) (re : List Int) (g g7 gc gr : Nat) (k : Nat) : Prop := ∀ (used : Nat) (best : Option Nat) (cl : List ByteArray) (w : World), cl.length = nb → used ≤ 1000 * k → Mem ⟨0, w0, none, [269, 268]⟩ (fun _ => True) [(g, 266, [.slice A nb cb, .slice A9 nb c9, .slice Ao nb co, .slice (some ⟨gc, 0, none⟩) nb nb, .slice none 0 0, .slice (some ⟨gr, 0, none⟩) (nb + 1) (nb + 1), .int .i64 (bestI best)]), (g7, 262, [.pointer (some ⟨g, 0, none⟩)])] [⟨.slice (some ⟨gc, 0, none⟩) nb nb, 9, 1, nb, (cl).flatMap sgEnc⟩, ⟨.slice Ao nb co, 3, 1, nb, od.flatMap nEnc⟩, ⟨.slice (some ⟨gr, 0, none⟩) (nb + 1) (nb + 1), 3, 1, nb + 1, re.flatMap iEnc⟩] [SlOld bkEnc 6 92 w0.heap.size none A nb l, fun wy => SlT csnEnc 1 269 wy A9 nb cx, fun wy => Chs 268 cx wy] w →
    Calls Tryz.prog 228 #[.pointer (some ⟨g, 0, none⟩), .int .i64 ((k : Nat) : Int), .int .i64 ((used : Nat) : Int)] w (fun e w' => ∃ cl' : List ByteArray, e = .returned (.tuple #[]) ∧ cl'.length = nb ∧ plB l cl' (od.take k) = plB l cl (od.take k) ∧ Mem ⟨0, w0, none, [269, 268]⟩ (fun _ => True) [(g, 266, [.slice A nb cb, .slice A9 nb c9, .slice Ao nb co, .slice (some ⟨gc, 0, none⟩) nb nb, .slice none 0 0, .slice (some ⟨gr, 0, none⟩) (nb + 1) (nb + 1), .int .i64 (bestI (bbW roomF ((od.drop (k)).map (itB cs sl l)) (plB l cl (od.take (k))) (used) (best)))]), (g7, 262, [.pointer (some ⟨g, 0, none⟩)])] [⟨.slice (some ⟨gc, 0, none⟩) nb nb, 9, 1, nb, (cl').flatMap sgEnc⟩, ⟨.slice Ao nb co, 3, 1, nb, od.flatMap nEnc⟩, ⟨.slice (some ⟨gr, 0, none⟩) (nb + 1) (nb + 1), 3, 1, nb + 1, re.flatMap iEnc⟩] [SlOld bkEnc 6 92 w0.heap.size none A nb l, fun wy => SlT csnEnc 1 269 wy A9 nb cx, fun wy => Chs 268 cx wy] w')
theorem cf_step (w0 : World) (l : List Bk) (A : Option Addr) (nb cb : Nat) (cs : List Cs) (sl : List Sk) (A9 : Option Addr) (c9 : Nat) (cx : List ChS) (od : List Nat) (Ao : Option Addr) (co : Nat) (re : List Int) (g g7 gc gr : Nat) (k : Nat) (ih : k < nb → CfSpec w0 l A nb cb cs sl A9 c9 cx od Ao co re g g7 gc gr (k + 1)) (hk : k ≤ nb) (hn : nb ≤ 1000) (hco : nb ≤ co) (hol : od.length = nb) (hrl : re.length = nb + 1) (hord : ∀ j ∈ od, j < nb) (hnd : od.Nodup) (htm : BkTim l) (hcx : cx.map ChS.l = l.map (chB cs sl)) (hstp : ∀ b ∈ l, ∀ q ∈ chB cs sl b, q.2.1 ≤ 1000) (hchl : ∀ b ∈ l, (chB cs sl b).length ≤ 1000) (hrest : ∀ k, restI ((od.drop k).map (itB cs sl l)) ≤ 1000000) (hre : ∀ k, k ≤ nb → re[k]? = some ((restI ((od.drop k).map (itB cs sl l)) : Nat) : Int)) : CfSpec w0 l A nb cb cs sl A9 c9 cx od Ao co re g g7 gc gr k := by
 intro used best cl w hcl hused hm
 refine gw_enter ⟨88, w0, none, [269, 268]⟩ Tryz.func228 rfl Tryz.ntmps228 rfl hm.cx ?_
 refine gw_seq ?_
 obtain ⟨BB, hBB⟩ : ∃ z, z = bbW roomF ((od.drop (k)).map (itB cs sl l)) (plB l cl (od.take (k))) (used) (best) := ⟨_, rfl⟩
 obtain ⟨rk, hrk⟩ : ∃ z, z = restI ((od.drop k).map (itB cs sl l)) := ⟨_, rfl⟩
 have hrb := hrest k
 rw [← hrk] at hrb
 have hrg := hre k hk
 rw [← hrk] at hrg
 rw [← hBB]
 refine gw_cut (γ := Bool) (I := (fun (sb : Bool) => sb = stopW best (used + rk))) (S' := (fun (sb : Bool) => [(0, .pointer (some ⟨g, 0, none⟩)), (1, .int .i64 ((k : Nat) : Int)), (2, .int .i64 ((used : Nat) : Int)), (29, .bool sb)])) (K' := (fun (sb : Bool) => fun _ => True)) (L' := (fun (sb : Bool) => [(g, 266, [.slice A nb cb, .slice A9 nb c9, .slice Ao nb co, .slice (some ⟨gc, 0, none⟩) nb nb, .slice none 0 0, .slice (some ⟨gr, 0, none⟩) (nb + 1) (nb + 1), .int .i64 (bestI best)]), (g7, 262, [.pointer (some ⟨g, 0, none⟩)])])) (O' := (fun (sb : Bool) => [⟨.slice (some ⟨gc, 0, none⟩) nb nb, 9, 1, nb, (cl).flatMap sgEnc⟩, ⟨.slice Ao nb co, 3, 1, nb, od.flatMap nEnc⟩, ⟨.slice (some ⟨gr, 0, none⟩) (nb + 1) (nb + 1), 3, 1, nb + 1, re.flatMap iEnc⟩])) (X' := (fun (sb : Bool) => [SlOld bkEnc 6 92 w0.heap.size none A nb l, fun wy => SlT csnEnc 1 269 wy A9 nb cx, fun wy => Chs 268 cx wy])) ?_ ?_
 ·refine gd (fun wz => Blk wz g 266 [.slice A nb cb, .slice A9 nb c9, .slice Ao nb co, .slice (some ⟨gc, 0, none⟩) nb nb, .slice none 0 0, .slice (some ⟨gr, 0, none⟩) (nb + 1) (nb + 1), .int .i64 (bestI best)] ∧ Blk wz g7 262 [.pointer (some ⟨g, 0, none⟩)] ∧ (SlOld bkEnc 6 92 w0.heap.size none A nb l) wz ∧ (fun wy => SlT csnEnc 1 269 wy A9 nb cx) wz ∧ (fun wy => Chs 268 cx wy) wz ∧ wz.ownsRow w0.heap.size 9 1 (.slice (some ⟨gc, 0, none⟩) nb nb) nb ((cl).flatMap sgEnc) ∧ wz.ownsRow w0.heap.size 3 1 (.slice Ao nb co) nb (od.flatMap nEnc) ∧ wz.ownsRow w0.heap.size 3 1 (.slice (some ⟨gr, 0, none⟩) (nb + 1) (nb + 1)) (nb + 1) (re.flatMap iEnc) ∧ True) mixed (fun _ hm => ⟨hm.bl 0, hm.bl 1, hm.fa 0, hm.fa 1, hm.fa 2, hm.ownI 0 rfl, hm.ownI 1 rfl, hm.ownI 2 rfl, trivial⟩) fun z => ?_
  refine wt 0 21 1 rfl z (ov_move rfl) ?_
  refine wt 1 21 3 rfl z (ov_nilcheck rfl) ?_
  refine wt 2 21 7 rfl z (ov_field fo266_6 rfl rfl) ?_
  refine wt 3 21 15 rfl z (ov_load sc3 rfl (fun _ hm => hm.1) rfl) ?_
  refine wt 4 21 31 rfl z (ov_geq rfl rfl) ?_
  refine wt 5 21 63 rfl z (ov_move rfl) ?_
  rcases Bool.eq_false_or_eq_true (decide (0 ≤ bestI best)) with h1 | h1
  ·refine wa_set 14 rfl (congrArg Value.bool h1) ?_
   refine wto 6 21 127 rfl rfl rfl z (ov_move rfl) ?_
   refine wto 7 21 255 rfl rfl rfl z (ov_move rfl) ?_
   refine wto 8 21 511 rfl rfl rfl z (ov_nilcheck rfl) ?_
   refine wto 9 21 1023 rfl rfl rfl z (ov_field fo266_5 rfl rfl) ?_
   refine wto 10 21 2047 rfl rfl rfl z (ov_load sc22 rfl (fun _ hm => hm.1) rfl) ?_
   refine wto 11 21 4095 rfl rfl rfl z (ov_move rfl) ?_
   refine wto 12 21 8191 rfl rfl rfl z (ov_index (j := k) es22 rfl rfl (by omega)) ?_
   refine wto 13 21 16383 rfl rfl rfl z (ov_elem1 (k := 0) (v := .int .i64 ((rk : Nat) : Int)) sc3 rfl (fun _ hm => (SlT.ofOwn i_len (hm.2.2.2.2.2.2.2.1) hrl)) hrg rfl rfl) ?_
   refine wto 14 21 32767 rfl rfl rfl z (ov_add rfl rfl (by omega) (by omega)) ?_
   refine wto 15 21 65535 rfl rfl rfl z (ov_move rfl) ?_
   refine wto 16 21 131071 rfl rfl rfl z (ov_nilcheck rfl) ?_
   refine wto 17 21 262143 rfl rfl rfl z (ov_field fo266_6 rfl rfl) ?_
   refine wto 18 21 524287 rfl rfl rfl z (ov_load sc3 rfl (fun _ hm => hm.1) rfl) ?_
   refine wto 19 21 1048575 rfl rfl rfl z (ov_geq rfl rfl) ?_
   refine wt 20 21 2097151 rfl z (ov_pick_t rfl rfl) ?_
   refine wa_done (by kernel_rfl) ?_
   exact nx_meet (decide (bestI best ≤ ((used : Nat) : Int) + ((rk : Nat) : Int))) (by rw [← stopW_iff, h1]; first | rfl | (rw [Bool.true_and, decide_eq_decide]; omega)) ⟨rfl, rfl, rfl, rfl, trivial⟩ (fun _ hm => hm.pick [0, 1] [0, 1, 2] [0, 1, 2] rfl rfl)
  refine wa_set 14 rfl (congrArg Value.bool h1) ?_
  refine wtf 6 21 127 rfl rfl rfl z ?_
  refine wtf 7 21 255 rfl rfl rfl z ?_
  refine wtf 8 21 511 rfl rfl rfl z ?_
  refine wtf 9 21 1023 rfl rfl rfl z ?_
  refine wtf 10 21 2047 rfl rfl rfl z ?_
  refine wtf 11 21 4095 rfl rfl rfl z ?_
  refine wtf 12 21 8191 rfl rfl rfl z ?_
  refine wtf 13 21 16383 rfl rfl rfl z ?_
  refine wtf 14 21 32767 rfl rfl rfl z ?_
  refine wtf 15 21 65535 rfl rfl rfl z ?_
  refine wtf 16 21 131071 rfl rfl rfl z ?_
  refine wtf 17 21 262143 rfl rfl rfl z ?_
  refine wtf 18 21 524287 rfl rfl rfl z ?_
  refine wtf 19 21 1048575 rfl rfl rfl z ?_
  refine wt 20 21 2097151 rfl z (ov_pick_f rfl rfl) ?_
  refine wa_done (by kernel_rfl) ?_
  exact nx_meet false (by rw [← stopW_iff, h1]; first | rfl | (rw [Bool.true_and, decide_eq_decide]; omega)) ⟨rfl, rfl, rfl, rfl, trivial⟩ (fun _ hm => hm.pick [0, 1] [0, 1, 2] [0, 1, 2] rfl rfl)
 intro sb hinv
 replace hinv : sb = stopW best (used + rk) := hinv
 have hst0 : sb = stopW best (used + rk) := hinv
 refine gw_cond rfl (fun hh => ?_) (fun hh => ?_)
 ·have hsb : sb = true := by simpa using hh
  clear hh
  refine gw_ret ?_
  refine nx_then_ret ?_
  have hst : stopW best (used + rk) = true := hst0.symm.trans hsb
  rw [show BB = best from by rw [hBB]; exact bb_stop (by rw [← hrk]; exact hst)]
  refine nx_ret0' rfl fun wx hm => ?_
  exact ⟨cl, rfl, hcl, rfl, (hm.pick [0, 1] [0, 1, 2] [0, 1, 2] rfl rfl).cx⟩
 have hsb : sb = false := by simpa using hh
 clear hh
 refine gw_skip (nx_then (gw_seq (sr_ ?_)))
 have hst : stopW best (used + rk) = false := hst0.symm.trans hsb
 refine mv_ rfl (mv_ rfl (wl_ov (ov_nilcheck rfl) rfl (fd_ fo266_2 rfl rfl (lk_ sc22 0 rfl rfl rfl (wl_ov (ov_len es22 rfl) rfl (wl_ov (ov_eql rfl rfl) rfl (nn_ ?_)))))))
 refine gw_cond rfl (fun hh => ?_) (fun hh => ?_)
 ·have hkn : ((k : Nat) : Int) = ((nb : Nat) : Int) := by simpa using hh
  clear hh
  refine sr_ (mv_ rfl (mv_ rfl (wl_ov (ov_nilcheck rfl) rfl (fd_ fo266_6 rfl rfl ?_))))
  refine wl_store 0 sc3 rfl rfl rfl rfl rfl rfl ?_
  refine nn_ ?_
  refine gw_ret ?_
  refine nx_then_ret ?_
  have hk2 : nb ≤ k := by omega
  rw [show BB = some used from by rw [hBB]; rw [List.drop_eq_nil_of_le (by omega)]; exact bb_end (by rw [List.drop_eq_nil_of_le (by omega)] at hrk; rw [show restI ([] : List (ItW ByteArray)) = rk from hrk.symm]; exact hst)]
  refine nx_ret0' rfl fun wx hm => ?_
  exact ⟨cl, rfl, hcl, rfl, (hm.pick [0, 1] [0, 1, 2] [0, 1, 2] rfl rfl).cx⟩
 have hkn : ¬ (((k : Nat) : Int) = ((nb : Nat) : Int)) := by simpa using hh
 clear hh
 refine gw_skip (nx_then (sr_ ?_))
 have hk2 : k < nb := by omega
 obtain ⟨i, hi⟩ : ∃ x, od[k]? = some x := ⟨_, List.getElem?_eq_getElem (by omega)⟩
 have hib := hord i (List.mem_of_getElem? hi)
 have hdm := drop_map_at (cs := cs) (sl := sl) (l := l) hi
 obtain ⟨PL, hPL⟩ : ∃ z, z = plB l cl (od.take k) := ⟨_, rfl⟩
 rw [← hPL] at hBB ⊢
 rw [hdm] at hrk hBB
 rw [bb_at (by rw [← hrk]; exact hst)] at hBB
 have hl0 := (hm.fact 0 rfl : SlOld bkEnc 6 92 w0.heap.size none A nb l w).1
 have hlen := hl0.len
 have hch9 : SlT csnEnc 1 269 w A9 nb cx := hm.fact 1 rfl
 have hchs : Chs 268 cx w := hm.fact 2 rfl
 have hcl9 := hch9.len
 refine wl_look (R := ∃ g, Ao = some ⟨g, 0, none⟩) (fun wx hm => own_addr (hm.ownI 1 rfl) (by omega)) ?_
 rintro ⟨go, rfl⟩
 obtain ⟨b9, o9, hA, _, _⟩ := hch9.get (by omega)
 subst hA
 obtain ⟨x9, hx9⟩ : ∃ x, cx[i]? = some x := ⟨_, List.getElem?_eq_getElem (by omega)⟩
 have hx9l := cx_at hcx hx9
 have hx9m := List.mem_of_getElem? hx9
 have hs9 := hchs x9 hx9m
 obtain ⟨Ai, ni, ci, li⟩ := x9
 dsimp only at hx9l hs9
 have hni := hs9.len
 obtain ⟨b0, hb0⟩ : ∃ x, l[i]? = some x := ⟨_, List.getElem?_eq_getElem (by omega)⟩
 have hni1 : ni ≤ 1000 := by have h8 := hchl b0 (List.mem_of_getElem? hb0); rw [← bkAt_get hb0, ← hx9l] at h8; omega
 have hstl : ∀ q ∈ li, q.2.1 ≤ 1000 := by rw [hx9l, bkAt_get hb0]; exact hstp b0 (List.mem_of_getElem? hb0)
 obtain ⟨xw, hxw⟩ : ∃ z, z = wnB (bkAt l i) := ⟨_, rfl⟩
 obtain ⟨RS, hRS⟩ : ∃ z, z = (od.drop (k + 1)).map (itB cs sl l) := ⟨_, rfl⟩
 replace hBB : BB = li.foldl (bbS roomF RS PL xw used) best := by rw [hBB, hxw, hRS, hx9l]; rfl
 refine mv_ rfl (wl_ov (ov_nilcheck rfl) rfl (fd_ fo266_2 rfl rfl (lk_ sc22 0 rfl rfl rfl (mv_ rfl ?_))))
 refine wl_ov (ov_index (j := k) es22 rfl rfl (by omega)) rfl ?_
 refine wl_ov (ov_elem1 (k := 0) (v := .int .i64 ((i : Nat) : Int)) sc3 rfl (fun _ hm => (SlT.ofOwn n_len (hm.ownI 1 rfl) hol)) hi rfl rfl) rfl ?_
 refine sg_ rfl (nn_ (sr_ (mv_ rfl (wl_ov (ov_nilcheck rfl) rfl (fd_ fo266_1 rfl rfl (lk_ sc263 0 rfl rfl rfl (mv_ rfl ?_)))))))
 refine wl_ov (ov_index (j := i) es263 rfl rfl (by omega)) rfl ?_
 refine wl_ov (ov_elem1 (k := 0) (v := .slice Ai ni ci) sc269 rfl (fun _ hm => (hm.fact 1 rfl)) hx9 rfl rfl) rfl ?_
 refine wl_ov (ov_len es269 rfl) rfl (mv_ rfl (nn_ (gw_block ?_)))
 refine gw_loop (γ := Nat × Option Nat × List ByteArray) (fun (gq : Nat × Option Nat × List ByteArray) => gq.1 ≤ ni ∧ gq.2.2.length = nb ∧ plB l gq.2.2 (od.take k) = PL ∧ BB = (li.drop gq.1).foldl (bbS roomF RS PL xw used) gq.2.1) (fun (gq : Nat × Option Nat × List ByteArray) => [(0, .pointer (some ⟨g, 0, none⟩)), (1, .int .i64 ((k : Nat) : Int)), (2, .int .i64 ((used : Nat) : Int)), (6, .int .i64 ((i : Nat) : Int)), (54, .slice Ai ni ci), (55, .int .i64 ((ni : Nat) : Int)), (56, .int .i64 ((gq.1 : Nat) : Int))]) (fun (gq : Nat × Option Nat × List ByteArray) => fun _ => True) (fun (gq : Nat × Option Nat × List ByteArray) => [(g, 266, [.slice A nb cb, .slice (some ⟨b9, o9, none⟩) nb c9, .slice (some ⟨go, 0, none⟩) nb co, .slice (some ⟨gc, 0, none⟩) nb nb, .slice none 0 0, .slice (some ⟨gr, 0, none⟩) (nb + 1) (nb + 1), .int .i64 (bestI gq.2.1)]), (g7, 262, [.pointer (some ⟨g, 0, none⟩)])]) (fun (gq : Nat × Option Nat × List ByteArray) => [⟨.slice (some ⟨gc, 0, none⟩) nb nb, 9, 1, nb, (gq.2.2).flatMap sgEnc⟩, ⟨.slice (some ⟨go, 0, none⟩) nb co, 3, 1, nb, od.flatMap nEnc⟩, ⟨.slice (some ⟨gr, 0, none⟩) (nb + 1) (nb + 1), 3, 1, nb + 1, re.flatMap iEnc⟩]) (fun (gq : Nat × Option Nat × List ByteArray) => [SlOld bkEnc 6 92 w0.heap.size none A nb l, fun wy => SlT csnEnc 1 269 wy (some ⟨b9, o9, none⟩) nb cx, fun wy => Chs 268 cx wy]) (fun (gq : Nat × Option Nat × List ByteArray) => ni - gq.1) (0, best, cl) ⟨Nat.zero_le _, hcl, hPL.symm, hBB⟩ ⟨rfl, rfl, rfl, rfl, rfl, rfl, rfl, trivial⟩ (fun _ hm => hm.pick [0, 1] [0, 1, 2] [0, 1, 2] rfl rfl) ?_
 rintro ⟨j, bj, ce⟩ hinv
 replace hinv : j ≤ ni ∧ ce.length = nb ∧ plB l ce (od.take k) = PL ∧ BB = (li.drop j).foldl (bbS roomF RS PL xw used) bj := hinv
 dsimp only
 refine sr_ ?_
 obtain ⟨hj0, hce, hpl, hBj⟩ := hinv
 refine wl_ov (ov_lss rfl rfl) rfl (nn_ (gw_seq ?_))
 refine gw_cond rfl (fun hh => ?_) (fun hh => ?_)
 ·have hj : ((j : Nat) : Int) < ((ni : Nat) : Int) := by simpa using hh
  clear hh
  refine gw_skip (nx_then (gw_seq (gw_block (sr_ ?_))))
  obtain ⟨bi, oi, hA, _, _⟩ := hs9.get (by omega)
  subst hA
  obtain ⟨q, hq⟩ : ∃ x, li[j]? = some x := ⟨_, List.getElem?_eq_getElem (by omega)⟩
  have hqs := hstl q (List.mem_of_getElem? hq)
  rw [foldl_at hq] at hBj
  obtain ⟨c, st, mm⟩ := q
  dsimp only at hqs
  obtain ⟨RF, hRF⟩ : ∃ z, z = roomF PL xw (c, st, mm) := ⟨_, rfl⟩
  refine wl_ov (ov_index (j := j) es269 rfl rfl (by omega)) rfl ?_
  refine wl_ov (ov_elem (vs := [.string c, .int .i64 ((st : Nat) : Int), .int .i64 ((mm : Nat) : Int)]) rz268 rfl (fun _ hm => ((hm.fact 2 rfl) _ hx9m)) hq rfl rfl) rfl ?_
  refine wl_allocs (vs := [.string c, .int .i64 ((st : Nat) : Int), .int .i64 ((mm : Nat) : Int)]) (cs' := [.string c, .int .i64 ((st : Nat) : Int), .int .i64 ((mm : Nat) : Int)]) zc268 rfl rz268 (fun _ => rfl) (fun _ => rfl) rfl rfl rfl rfl fun g1 => ?_
  refine nn_ (sr_ (mv_ rfl (mv_ rfl (mv_ rfl ?_))))
  refine wl_ov (ov_loads rz268 rfl (fun _ hm => hm.blkI 0 rfl) rfl rfl) rfl ?_
  refine wl_callv (v := .bool RF) rfl cb282 rfl rfl (fun wx hm => (by rw [hRF, ← hpl, hxw]; exact fits_any l A nb cb (some ⟨go, 0, none⟩) co od (some ⟨gc, 0, none⟩) nb ce _ _ _ _ g k i c st mm wx (hm.blkI 1 rfl) (hm.fact 0 rfl).1 (SlT.ofOwn n_len (hm.ownI 1 rfl) hol) (SlT.ofOwn sg_len (hm.ownI 0 rfl) hce) hk hib hn hco hord htm)) ?_
  refine nn_ ?_
  refine gw_cond rfl (fun hh => ?_) (fun hh => ?_)
  ·have hrf : RF = true := by simpa using hh
   clear hh
   refine gw_seq ?_
   have hbs : bbS roomF RS PL xw used bj (c, st, mm) = bbW roomF RS (PL ++ [(c, xw)]) (used + st) bj := if_pos (hRF.symm.trans hrf)
   rw [hbs] at hBj
   obtain ⟨c0, hc0⟩ : ∃ x, ce[i]? = some x := ⟨_, List.getElem?_eq_getElem (by omega)⟩
   have hps := plB_snoc (l := l) (x := c) hi hnd (by omega : i < ce.length)
   rw [hpl, ← hxw] at hps
   refine gd (fun wz => Blk wz g1 268 [.string c, .int .i64 ((st : Nat) : Int), .int .i64 ((mm : Nat) : Int)] ∧ Blk wz g 266 [.slice A nb cb, .slice (some ⟨b9, o9, none⟩) nb c9, .slice (some ⟨go, 0, none⟩) nb co, .slice (some ⟨gc, 0, none⟩) nb nb, .slice none 0 0, .slice (some ⟨gr, 0, none⟩) (nb + 1) (nb + 1), .int .i64 (bestI bj)] ∧ Blk wz g7 262 [.pointer (some ⟨g, 0, none⟩)] ∧ (SlOld bkEnc 6 92 w0.heap.size none A nb l) wz ∧ (fun wy => SlT csnEnc 1 269 wy (some ⟨b9, o9, none⟩) nb cx) wz ∧ (fun wy => Chs 268 cx wy) wz ∧ True) mixed (fun _ hm => ⟨hm.bl 0, hm.bl 1, hm.bl 2, hm.fa 0, hm.fa 1, hm.fa 2, trivial⟩) fun z => ?_
   refine wt 0 9 1 rfl z (ov_move rfl) ?_
   refine wt 1 9 3 rfl z (ov_nilcheck rfl) ?_
   refine wt 2 9 7 rfl z (ov_field fo266_3 rfl rfl) ?_
   refine wt 3 9 15 rfl z (ov_load sc103 rfl (fun _ hm => hm.2.1) rfl) ?_
   refine wt 4 9 31 rfl z (ov_move rfl) ?_
   refine wt 5 9 63 rfl z (ov_field fo268_0 rfl rfl) ?_
   refine wt 6 9 127 rfl z (ov_load sc9 rfl (fun _ hm => hm.1) rfl) ?_
   refine wt 7 9 255 rfl z (ov_index (j := i) es103 rfl rfl (by omega)) ?_
   refine wa1 8 rfl ?_
   refine wl_storeE (l := ce) (j := i) (r := 0) (el := c0) (el' := c) 0 sc9 rfl rfl rfl rfl sg_len rfl hc0 hce (show 0 < 1 by decide) rfl rfl ?_
   refine wl_nil ?_
   refine nw 9 511 (fun _ hm => ⟨hm.bl 0, hm.bl 1, hm.bl 2, hm.fa 0, hm.fa 1, hm.fa 2, trivial⟩) fun z => ?_
   refine wa_done (by kernel_rfl) ?_
   refine nx_then (sr_ (mv_ rfl (mv_ rfl (ad_ rfl rfl ?_))))
   refine wl_set 75 (v' := .int .i64 ((k + 1 : Nat) : Int)) rfl (congrArg (Value.int .i64) (by omega)) ?_
   refine mv_ rfl (fd_ fo268_1 rfl rfl (lk_ sc3 0 rfl rfl rfl (ad_ rfl rfl ?_)))
   refine wl_set 79 (v' := .int .i64 ((used + st : Nat) : Int)) rfl (congrArg (Value.int .i64) (by omega)) ?_
   refine wl_callG (γ := List ByteArray) (val := fun _ => .tuple #[]) (φ := fun c2 => c2.length = nb ∧ plB l c2 (od.take (k + 1)) = plB l (ce.set i c) (od.take (k + 1))) (K' := fun _ => fun _ => True) (L' := fun _ => [(g, 266, [.slice A nb cb, .slice (some ⟨b9, o9, none⟩) nb c9, .slice (some ⟨go, 0, none⟩) nb co, .slice (some ⟨gc, 0, none⟩) nb nb, .slice none 0 0, .slice (some ⟨gr, 0, none⟩) (nb + 1) (nb + 1), .int .i64 (bestI (bbW roomF RS (PL ++ [(c, xw)]) (used + st) bj))]), (g7, 262, [.pointer (some ⟨g, 0, none⟩)])]) (O' := fun c2 => [⟨.slice (some ⟨gc, 0, none⟩) nb nb, 9, 1, nb, (c2).flatMap sgEnc⟩, ⟨.slice (some ⟨go, 0, none⟩) nb co, 3, 1, nb, od.flatMap nEnc⟩, ⟨.slice (some ⟨gr, 0, none⟩) (nb + 1) (nb + 1), 3, 1, nb + 1, re.flatMap iEnc⟩]) (X' := fun _ => [SlOld bkEnc 6 92 w0.heap.size none A nb l, fun wy => SlT csnEnc 1 269 wy (some ⟨b9, o9, none⟩) nb cx, fun wy => Chs 268 cx wy]) rfl cb228 rfl rfl (fun wx hm => by
    have h := ih hk2 (used + st) bj (ce.set i c) wx (by rw [List.length_set]; exact hce) (by omega) ((hm.pick [1, 2] [0, 1, 2] [0, 1, 2] rfl rfl).cx)
    rw [hps, ← hRS] at h
    exact h.mono fun _ _ ⟨c2, he, h1, h2, hm2⟩ => ⟨c2, he, ⟨h1, by rw [h2, hps]⟩, hm2.cx⟩) ?_
   rintro c2 ⟨hc2, hpl2⟩
   obtain ⟨c3, hc3⟩ : ∃ x, c2[i]? = some x := ⟨_, List.getElem?_eq_getElem (by omega)⟩
   have hpl3 := plB_take hpl2
   rw [nd_set hnd hi, hpl] at hpl3
   refine nn_ (gw_region (mv_ rfl (wl_ov (ov_nilcheck rfl) rfl (fd_ fo266_3 rfl rfl (lk_ sc103 0 rfl rfl rfl (mv_ rfl ?_))))))
   refine wl_ov (ov_index (j := i) es103 rfl rfl (by omega)) rfl ?_
   refine wl_storeE (l := c2) (j := i) (r := 0) (el := c3) (el' := ⟨#[]⟩) 0 sc9 rfl rfl rfl rfl sg_len rfl hc3 hc2 (show 0 < 1 by decide) rfl rfl ?_
   refine wl_nil (nx_blk_nrm (nx_then (gw_region (ad_ rfl rfl (mv_ rfl (wl_nil ?_))))))
   exact nx_round (j + 1, bbW roomF RS (PL ++ [(c, xw)]) (used + st) bj, c2.set i ⟨#[]⟩) ⟨by dsimp only; omega, by dsimp only; rw [List.length_set]; exact hc2, by dsimp only; rw [nd_set hnd hi]; exact hpl3, hBj⟩ (by dsimp only; omega) ⟨rfl, rfl, rfl, rfl, rfl, rfl, (some_int (by omega)), trivial⟩ (fun _ hm => hm.pick [0, 1] [0, 1, 2] [0, 1, 2] rfl rfl)
  have hrf : RF = false := by simpa using hh
  clear hh
  refine gw_skip (nx_blk_nrm (nx_then (gw_region ?_)))
  have hbs : bbS roomF RS PL xw used bj (c, st, mm) = bj := if_neg (by rw [← hRF, hrf]; decide)
  rw [hbs] at hBj
  refine ad_ rfl rfl (mv_ rfl (wl_nil ?_))
  exact nx_round (j + 1, bj, ce) ⟨by dsimp only; omega, hce, hpl, hBj⟩ (by dsimp only; omega) ⟨rfl, rfl, rfl, rfl, rfl, rfl, (some_int (by omega)), trivial⟩ (fun _ hm => hm.pick [1, 2] [0, 1, 2] [0, 1, 2] rfl rfl)
 have hj : ¬ (((j : Nat) : Int) < ((ni : Nat) : Int)) := by simpa using hh
 clear hh
 refine gw_exit ?_
 refine nx_then_exit (nx_then_exit ?_)
 refine nx_blk_here ?_
 rw [foldl_end (by omega)] at hBj
 rw [hBj]
 refine nx_ret0 rfl fun wx hm => ?_
 exact ⟨ce, rfl, hce, hpl, (hm.pick [0, 1] [0, 1, 2] [0, 1, 2] rfl rfl).cx⟩
theorem cf_all (w0 : World) (l : List Bk) (A : Option Addr) (nb cb : Nat) (cs : List Cs) (sl : List Sk) (A9 : Option Addr) (c9 : Nat) (cx : List ChS) (od : List Nat) (Ao : Option Addr) (co : Nat) (re : List Int) (g g7 gc gr : Nat) (hn : nb ≤ 1000) (hco : nb ≤ co) (hol : od.length = nb) (hrl : re.length = nb + 1) (hord : ∀ j ∈ od, j < nb) (hnd : od.Nodup) (htm : BkTim l) (hcx : cx.map ChS.l = l.map (chB cs sl)) (hstp : ∀ b ∈ l, ∀ q ∈ chB cs sl b, q.2.1 ≤ 1000) (hchl : ∀ b ∈ l, (chB cs sl b).length ≤ 1000) (hrest : ∀ k, restI ((od.drop k).map (itB cs sl l)) ≤ 1000000) (hre : ∀ k, k ≤ nb → re[k]? = some ((restI ((od.drop k).map (itB cs sl l)) : Nat) : Int)) : ∀ (d k : Nat), k + d = nb → CfSpec w0 l A nb cb cs sl A9 c9 cx od Ao co re g g7 gc gr k
  | 0, k, h => cf_step w0 l A nb cb cs sl A9 c9 cx od Ao co re g g7 gc gr k (fun h2 => absurd h2 (by omega)) (by omega) hn hco hol hrl hord hnd htm hcx hstp hchl hrest hre
  | d + 1, k, h => cf_step w0 l A nb cb cs sl A9 c9 cx od Ao co re g g7 gc gr k (fun _ => cf_all w0 l A nb cb cs sl A9 c9 cx od Ao co re g g7 gc gr hn hco hol hrl hord hnd htm hcx hstp hchl hrest hre d (k + 1) (by omega)) (by omega) hn hco hol hrl hord hnd htm hcx hstp hchl hrest hre
end Go.Proofs.YtempjmpfdniecaaGreatDoor
namespace Go.Proofs.YtempjmpfdniecaaGreatDoor
open Go.RowKit
theorem SlT.farT {α : Type} {enc : α → List Value} {k : Nat} {T : TypeId} {N : Nat} {A : Option Addr} {n : Nat} {l : List α} {w : World} (h : SlT enc k T w A n l) {e : TypeId} {sz br m cap n' : Nat} {xs : List Value} (ho : w.ownsRow N e sz (.slice (some ⟨br, 0, none⟩) m cap) n' xs) (hT : T ≠ e) : SlOld enc k T w.heap.size (some br) A n l w := ⟨h, fun b off e1 hn => by
  obtain ⟨b2, off2, cells, fz, e2, hh, _⟩ := h.at_ hn
  rw [e1] at e2; cases e2
  refine ⟨(Array.getElem?_eq_some_iff.1 hh).1, fun e3 => ?_⟩
  cases e3
  rcases ho.2 with ⟨h2, _⟩ | ⟨g', cap', cur, hv, hbase, hh2, _⟩
  · cases h2
  · injection hv with hA _ _
    injection hA with hA
    injection hA with hA _ _
    subst hA
    rw [hh] at hh2
    injection hh2 with hh2
    injection hh2 with _ hh2 _
    exact hT hh2⟩
theorem lenN_at {css : List (List (CdW ByteArray))} {cx : List ChS} (h : cx.map ChS.l = css) (hn : ∀ x ∈ cx, x.l.length = x.n) {i : Nat} {x : ChS} (hx : cx[i]? = some x) : ((x.n : Nat) : Int) = (lenN css i : Int) := by
  unfold lenN
  rw [← h, List.getD_eq_getElem?_getD, List.getElem?_map, hx]
  show _ = ((x.l.length : Nat) : Int)
  rw [hn x (List.mem_of_getElem? hx)]
theorem coI_any (cx : List ChS) (css : List (List (CdW ByteArray))) (A9 : Option Addr) (nb c9 g7 g : Nat) (q0 q2 q3 q4 q5 q6 : Value) (i j : Nat) (w : World) (hch : SlT csnEnc 1 269 w A9 nb cx) (hp : Blk w g7 262 [.pointer (some ⟨g, 0, none⟩)]) (hb : Blk w g 266 [q0, .slice A9 nb c9, q2, q3, q4, q5, q6]) (hcx : cx.map ChS.l = css) (hcn : ∀ x ∈ cx, x.l.length = x.n) (hi : i < nb) (hj : j < nb) :
  Calls Tryz.prog 227 #[.int .i64 ((i : Nat) : Int), .int .i64 ((j : Nat) : Int), .pointer (some ⟨g7, 0, none⟩)] w (fun e w' => e = .returned (.int .i64 (cmpI (lenN css i : Int) (lenN css j : Int))) ∧ w.grownBy w' none) := by
 refine gw_enter ⟨23, w, none, []⟩ Tryz.func227 rfl Tryz.ntmps227 rfl (mem0 (X := [SlOld csnEnc 1 269 w.heap.size none A9 nb cx, BlkOld w.heap.size none g7 262 [.pointer (some ⟨g, 0, none⟩)], BlkOld w.heap.size none g 266 [q0, .slice A9 nb c9, q2, q3, q4, q5, q6]]) (allF_cons hch.old (allF_cons hp.old (allF_cons hb.old allF_nil))) (allL_cons SlOld.lasts (allL_cons BlkOld.lasts (allL_cons BlkOld.lasts allL_nil)))) ?_
 refine sr_ ?_
 have hlen := hch.len
 obtain ⟨b9, o9, hA, _, _⟩ := hch.get (by omega)
 subst hA
 obtain ⟨x, hx⟩ : ∃ x, cx[i]? = some x := ⟨_, List.getElem?_eq_getElem (by omega)⟩
 obtain ⟨y, hy⟩ : ∃ x, cx[j]? = some x := ⟨_, List.getElem?_eq_getElem (by omega)⟩
 have ex := lenN_at hcx hcn hx
 have ey := lenN_at hcx hcn hy
 obtain ⟨xa, xn, xc, xl⟩ := x
 obtain ⟨ya, yn, yc, yl⟩ := y
 dsimp only at ex ey
 rw [← ex, ← ey]
 refine sg_ rfl (nn_ (gw_seq ?_))
 refine gd (fun wz => (SlOld csnEnc 1 269 w.heap.size none (some ⟨b9, o9, none⟩) nb cx) wz ∧ (BlkOld w.heap.size none g7 262 [.pointer (some ⟨g, 0, none⟩)]) wz ∧ (BlkOld w.heap.size none g 266 [q0, .slice (some ⟨b9, o9, none⟩) nb c9, q2, q3, q4, q5, q6]) wz ∧ True) mixed (fun _ hm => ⟨hm.fa 0, hm.fa 1, hm.fa 2, trivial⟩) fun z => ?_
 refine wt 0 18 1 rfl z (ov_load (v := .pointer (some ⟨g, 0, none⟩)) sc262 rfl (fun _ hm => (hm.2.1).2) rfl) ?_
 refine wt 1 18 3 rfl z (ov_nilcheck rfl) ?_
 refine wt 2 18 7 rfl z (ov_field fo266_1 rfl rfl) ?_
 refine wt 3 18 15 rfl z (ov_load (v := .slice (some ⟨b9, o9, none⟩) nb c9) sc263 rfl (fun _ hm => (hm.2.2.1).2) rfl) ?_
 refine wt 4 18 31 rfl z (ov_move rfl) ?_
 refine wt 5 18 63 rfl z (ov_index (j := i) es263 rfl rfl (by omega)) ?_
 refine wt 6 18 127 rfl z (ov_elem1 (k := 0) (v := .slice xa xn xc) sc269 rfl (fun _ hm => (hm.1).1) hx rfl rfl) ?_
 refine wt 7 18 255 rfl z (ov_len es269 rfl) ?_
 refine wt 8 18 511 rfl z (ov_load (v := .pointer (some ⟨g, 0, none⟩)) sc262 rfl (fun _ hm => (hm.2.1).2) rfl) ?_
 refine wt 9 18 1023 rfl z (ov_nilcheck rfl) ?_
 refine wt 10 18 2047 rfl z (ov_field fo266_1 rfl rfl) ?_
 refine wt 11 18 4095 rfl z (ov_load (v := .slice (some ⟨b9, o9, none⟩) nb c9) sc263 rfl (fun _ hm => (hm.2.2.1).2) rfl) ?_
 refine wt 12 18 8191 rfl z (ov_move rfl) ?_
 refine wt 13 18 16383 rfl z (ov_index (j := j) es263 rfl rfl (by omega)) ?_
 refine wt 14 18 32767 rfl z (ov_elem1 (k := 0) (v := .slice ya yn yc) sc269 rfl (fun _ hm => (hm.1).1) hy rfl rfl) ?_
 refine wt 15 18 65535 rfl z (ov_len es269 rfl) ?_
 refine wa1 16 rfl ?_
 refine wl_callv rfl cb83 rfl rfl (fun wx hm => (cmp_int _ _ wx)) ?_
 refine wl_nil ?_
 refine nw 18 131071 (fun _ hm => ⟨hm.fa 0, hm.fa 1, hm.fa 2, trivial⟩) fun z => ?_
 refine wt 17 18 262143 rfl z (ov_assign rfl) ?_
 refine wa_done (by kernel_rfl) ?_
 refine nx_then ?_
 refine gw_ret ?_
 refine nx_ret1 rfl rfl fun wx hm => ?_
 exact ⟨rfl, hm.g⟩
theorem coJ_any (cx : List ChS) (css : List (List (CdW ByteArray))) (A9 : Option Addr) (nb c9 g7 g : Nat) (q0 q2 q3 q4 q5 q6 : Value) (x y : Int) (w : World) (hch : SlT csnEnc 1 269 w A9 nb cx) (hp : Blk w g7 262 [.pointer (some ⟨g, 0, none⟩)]) (hb : Blk w g 266 [q0, .slice A9 nb c9, q2, q3, q4, q5, q6]) (hcx : cx.map ChS.l = css) (hcn : ∀ x ∈ cx, x.l.length = x.n) (hx : 0 ≤ x ∧ x < (nb : Int)) (hy : 0 ≤ y ∧ y < (nb : Int)) :
    Calls Tryz.prog 227 #[.int .i64 x, .int .i64 y, .pointer (some ⟨g7, 0, none⟩)] w (fun e w' => e = .returned (.int .i64 (cmpI (lenN css x.toNat : Int) (lenN css y.toNat : Int))) ∧ w.grownBy w' none) := by
  obtain ⟨i, rfl⟩ := Int.eq_ofNat_of_zero_le hx.1
  obtain ⟨j, rfl⟩ := Int.eq_ofNat_of_zero_le hy.1
  exact coI_any cx css A9 nb c9 g7 g q0 q2 q3 q4 q5 q6 i j w hch hp hb hcx hcn (by omega) (by omega)
theorem ins_co (cx : List ChS) (css : List (List (CdW ByteArray))) (A9 : Option Addr) (nb c9 g7 g : Nat) (q0 q2 q3 q4 q5 q6 : Value) (l0 : List Int) (br n cap base : Nat) (w : World) (h : w.ownsRow base 3 1 (.slice (some ⟨br, 0, none⟩) n cap) n (l0.flatMap iEnc)) (hl0 : l0.length = n) (hn : n ≤ 1000000) (hch : SlOld csnEnc 1 269 w.heap.size (some br) A9 nb cx w) (hp : BlkOld w.heap.size (some br) g7 262 [.pointer (some ⟨g, 0, none⟩)] w) (hb : BlkOld w.heap.size (some br) g 266 [q0, .slice A9 nb c9, q2, q3, q4, q5, q6] w) (hcx : cx.map ChS.l = css) (hcn : ∀ x ∈ cx, x.l.length = x.n) (hall : ∀ z ∈ l0, 0 ≤ z ∧ z < (nb : Int)) :
  Calls Tryz.prog 296 #[.slice (some ⟨br, 0, none⟩) n cap, .int .i64 0, .int .i64 ((n : Nat) : Int), .func (.func 227) #[] #[.pointer (some ⟨g7, 0, none⟩)]] w (fun e w' => e = .returned (.tuple #[]) ∧ w'.ownsRow base 3 1 (.slice (some ⟨br, 0, none⟩) n cap) n ((isort (coLt css) l0).flatMap iEnc) ∧ w.grownBy w' (some br)) := by
 obtain ⟨R, hR⟩ : ∃ z, z = isort (coLt css) l0 := ⟨_, rfl⟩
 rw [← hR]
 refine gw_enter ⟨53, w, (some br), []⟩ Tryz.func296 rfl Tryz.ntmps296 rfl (memR (X := [SlOld csnEnc 1 269 w.heap.size (some br) A9 nb cx, BlkOld w.heap.size (some br) g7 262 [.pointer (some ⟨g, 0, none⟩)], BlkOld w.heap.size (some br) g 266 [q0, .slice A9 nb c9, q2, q3, q4, q5, q6]]) h (allF_cons hch (allF_cons hp (allF_cons hb allF_nil))) (allL_cons SlOld.lasts (allL_cons BlkOld.lasts (allL_cons BlkOld.lasts allL_nil)))) ?_
 refine sr_ (mv_ rfl (ad_ rfl rfl ?_))
 refine wl_set 11 (v' := .int .i64 1) rfl rfl ?_
 refine sg_ rfl (nn_ (gw_block ?_))
 refine gw_loop (γ := Nat × List Int) (fun gg => (1 ≤ gg.1 ∧ gg.1 ≤ n + 1) ∧ gg.2.length = n ∧ isortF (coLt css) (n - gg.1) gg.1 gg.2 = R) (fun gg => [(0, .slice (some ⟨br, 0, none⟩) n cap), (1, .int .i64 0), (2, .int .i64 ((n : Nat) : Int)), (3, .func (.func 227) #[] #[.pointer (some ⟨g7, 0, none⟩)]), (8, .int .i64 ((gg.1 : Nat) : Int))]) (fun gg => RowK base 3 1 n cap br ((gg.2).flatMap iEnc)) (fun gg => []) (fun gg => []) (fun gg => [SlOld csnEnc 1 269 w.heap.size (some br) A9 nb cx, BlkOld w.heap.size (some br) g7 262 [.pointer (some ⟨g, 0, none⟩)], BlkOld w.heap.size (some br) g 266 [q0, .slice A9 nb c9, q2, q3, q4, q5, q6]]) (fun gg => n + 1 - gg.1) (1, l0) ⟨⟨Nat.le_refl _, by omega⟩, hl0, by rw [hR]; unfold isort; rw [hl0]⟩ ⟨rfl, rfl, rfl, rfl, (some_int (by omega)), trivial⟩ (fun _ hm => hm.pick [] [] [0, 1, 2] rfl rfl) ?_
 rintro ⟨i, l⟩ hinv
 replace hinv : (1 ≤ i ∧ i ≤ n + 1) ∧ l.length = n ∧ isortF (coLt css) (n - i) i l = R := hinv
 dsimp only
 refine gw_seq (sr_ ?_)
 obtain ⟨⟨hi1, hi2⟩, hl1, hR1⟩ := hinv
 refine mv_ rfl (mv_ rfl (wl_ov (ov_lss rfl rfl) rfl (nn_ ?_)))
 refine gw_cond rfl (fun hh => ?_) (fun hh => ?_)
 ·have hi : ((i : Nat) : Int) < ((n : Nat) : Int) := by simpa using hh
  clear hh
  refine gw_skip (nx_then (gw_seq (gw_block (sr_ ?_))))
  have hRi : isortF (coLt css) (n - (i + 1)) (i + 1) (sink (coLt css) i l) = R := by rw [← hR1, show n - i = (n - (i + 1)) + 1 by omega]; rfl
  obtain ⟨S, hS⟩ : ∃ z, z = sink (coLt css) i l := ⟨_, rfl⟩
  rw [← hS] at hRi
  have hSl : S.length = n := by rw [hS, sink_len]; exact hl1
  refine mv_ rfl (sg_ rfl (nn_ (gw_block ?_)))
  refine gw_loop (γ := Nat × List Int) (fun gg => (gg.1 ≤ i) ∧ gg.2.length = n ∧ sink (coLt css) gg.1 gg.2 = S) (fun gg => [(0, .slice (some ⟨br, 0, none⟩) n cap), (1, .int .i64 0), (2, .int .i64 ((n : Nat) : Int)), (3, .func (.func 227) #[] #[.pointer (some ⟨g7, 0, none⟩)]), (8, .int .i64 ((i : Nat) : Int)), (9, .int .i64 ((gg.1 : Nat) : Int))]) (fun gg => RowK base 3 1 n cap br ((gg.2).flatMap iEnc)) (fun gg => []) (fun gg => []) (fun gg => [SlOld csnEnc 1 269 w.heap.size (some br) A9 nb cx, BlkOld w.heap.size (some br) g7 262 [.pointer (some ⟨g, 0, none⟩)], BlkOld w.heap.size (some br) g 266 [q0, .slice A9 nb c9, q2, q3, q4, q5, q6]]) (fun gg => gg.1) (i, l) ⟨Nat.le_refl _, hl1, hS.symm⟩ ⟨rfl, rfl, rfl, rfl, rfl, rfl, trivial⟩ (fun _ hm => hm.pick [] [] [0, 1, 2] rfl rfl) ?_
  rintro ⟨jj, m⟩ hinv
  replace hinv : (jj ≤ i) ∧ m.length = n ∧ sink (coLt css) jj m = S := hinv
  dsimp only
  refine gw_seq (gw_seq ?_)
  obtain ⟨hj1, hm1, hS1⟩ := hinv
  rcases jj with _ | j
  ·refine gd (fun wz => (SlOld csnEnc 1 269 w.heap.size (some br) A9 nb cx) wz ∧ (BlkOld w.heap.size (some br) g7 262 [.pointer (some ⟨g, 0, none⟩)]) wz ∧ (BlkOld w.heap.size (some br) g 266 [q0, .slice A9 nb c9, q2, q3, q4, q5, q6]) wz ∧ True) mixed (fun _ hm => ⟨hm.fa 0, hm.fa 1, hm.fa 2, trivial⟩) fun z => ?_
   refine wt 0 17 1 rfl z (ov_move rfl) ?_
   refine wa_set 18 (v' := .int .i64 0) rfl rfl ?_
   refine wt 1 17 3 rfl z (ov_move rfl) ?_
   refine wt 2 17 7 rfl z (ov_gtr rfl rfl) ?_
   refine wa_set 20 (v' := .bool false) rfl (congrArg Value.bool (by decide)) ?_
   refine wt 3 17 15 rfl z (ov_move rfl) ?_
   refine wtf 4 17 31 rfl rfl rfl z ?_
   refine wtf 5 17 63 rfl rfl rfl z ?_
   refine wtf 6 17 127 rfl rfl rfl z ?_
   refine wtf 7 17 255 rfl rfl rfl z ?_
   refine wtf 8 17 511 rfl rfl rfl z ?_
   refine wtf 9 17 1023 rfl rfl rfl z ?_
   refine wtf 10 17 2047 rfl rfl rfl z ?_
   refine wtf 11 17 4095 rfl rfl rfl z ?_
   refine wtf 12 17 8191 rfl rfl rfl z ?_
   refine wtf 13 17 16383 rfl rfl rfl z ?_
   refine wtf 14 17 32767 rfl rfl rfl z ?_
   refine wtf 15 17 65535 rfl rfl rfl z ?_
   refine wt 16 17 131071 rfl z (ov_pick_f rfl rfl) ?_
   refine wa_done (by kernel_rfl) ?_
   refine nx_then (cf_ rfl ?_)
   refine gw_exit ?_
   refine nx_then_exit (nx_then_exit ?_)
   refine nx_blk_here ?_
   refine nx_blk_nrm (nx_then (gw_region (mv_ rfl (ad_ rfl rfl (sg_ rfl (wl_nil ?_))))))
   have hm2 : m = S := hS1
   exact nx_round (i + 1, m) ⟨⟨by dsimp only; omega, by dsimp only; omega⟩, by rw [hm2]; exact hSl, by rw [hm2]; exact hRi⟩ (by dsimp only; omega) ⟨rfl, rfl, rfl, rfl, (some_int (by omega)), trivial⟩ (fun _ hm => hm.pick [] [] [0, 1, 2] rfl rfl)
  have hj2 : j + 1 < n := by omega
  have hin : ∀ z ∈ m, z ∈ l0 := fun z hz => mem_in hR hRi hS1 hz
  obtain ⟨x0, hx⟩ : ∃ x, m[j + 1]? = some x := ⟨_, List.getElem?_eq_getElem (by omega)⟩
  obtain ⟨y0, hy⟩ : ∃ x, m[j]? = some x := ⟨_, List.getElem?_eq_getElem (by omega)⟩
  refine gd (fun wz => (SlOld csnEnc 1 269 w.heap.size (some br) A9 nb cx) wz ∧ (BlkOld w.heap.size (some br) g7 262 [.pointer (some ⟨g, 0, none⟩)]) wz ∧ (BlkOld w.heap.size (some br) g 266 [q0, .slice A9 nb c9, q2, q3, q4, q5, q6]) wz ∧ (RowK base 3 1 n cap br ((m).flatMap iEnc)) wz ∧ True) mixed (fun _ hm => ⟨hm.fa 0, hm.fa 1, hm.fa 2, hm.k, trivial⟩) fun z => ?_
  refine wt 0 17 1 rfl z (ov_move rfl) ?_
  refine wt 1 17 3 rfl z (ov_move rfl) ?_
  refine wt 2 17 7 rfl z (ov_gtr rfl rfl) ?_
  refine wa_set 20 (v' := .bool true) rfl (congrArg Value.bool (decide_eq_true (by omega))) ?_
  refine wt 3 17 15 rfl z (ov_move rfl) ?_
  refine wto 4 17 31 rfl rfl rfl z (ov_move rfl) ?_
  refine wto 5 17 63 rfl rfl rfl z (ov_move rfl) ?_
  refine wto 6 17 127 rfl rfl rfl z (ov_move rfl) ?_
  refine wto 7 17 255 rfl rfl rfl z (ov_index (j := (j + 1)) es22 rfl rfl (by omega)) ?_
  refine wto 8 17 511 rfl rfl rfl z (ov_elem1 (k := 0) (v := .int .i64 x0) sc3 rfl (fun _ hm => (RowK.get (hm.2.2.2.1) iE_len hm1)) hx rfl rfl) ?_
  refine wto 9 17 1023 rfl rfl rfl z (ov_move rfl) ?_
  refine wto 10 17 2047 rfl rfl rfl z (ov_move rfl) ?_
  refine wto 11 17 4095 rfl rfl rfl z (ov_sub rfl rfl (by omega) (by omega)) ?_
  refine wa_set 29 (v' := .int .i64 ((j : Nat) : Int)) rfl (congrArg (Value.int .i64) (by omega)) ?_
  refine wto 12 17 8191 rfl rfl rfl z (ov_index (j := j) es22 rfl rfl (by omega)) ?_
  refine wto 13 17 16383 rfl rfl rfl z (ov_elem1 (k := 0) (v := .int .i64 y0) sc3 rfl (fun _ hm => (RowK.get (hm.2.2.2.1) iE_len hm1)) hy rfl rfl) ?_
  refine wa1 14 rfl ?_
  refine wl_guard_on rfl rfl rfl ?_
  refine wl_callv rfl cb227 rfl rfl (fun wx hm => (coJ_any cx css A9 nb c9 g7 g q0 q2 q3 q4 q5 q6 x0 y0 wx (hm.fact 0 rfl).1 (hm.fact 1 rfl).2 (hm.fact 2 rfl).2 hcx hcn (hall _ (hin _ (List.mem_of_getElem? hx))) (hall _ (hin _ (List.mem_of_getElem? hy))))) ?_
  refine wl_nil ?_
  refine nw 17 32767 (fun _ hm => ⟨hm.fa 0, hm.fa 1, hm.fa 2, hm.k, trivial⟩) fun z => ?_
  refine wto 15 17 65535 rfl rfl rfl z (ov_lss rfl rfl) ?_
  refine wt 16 17 131071 rfl z (ov_pick_t rfl rfl) ?_
  refine wa_done (by kernel_rfl) ?_
  refine nx_then ?_
  refine gw_cond rfl (fun hh => ?_) (fun hh => ?_)
  ·have hlt : cmpI (lenN css x0.toNat : Int) (lenN css y0.toNat : Int) < 0 := by simpa using hh
   clear hh
   refine gw_skip (nx_then (gw_seq (gw_block ?_)))
   have hlt2 : (coLt css) x0 y0 = true := decide_eq_true (show cmpI (lenN css x0.toNat : Int) (lenN css y0.toNat : Int) < 0 from hlt)
   have hS2 := (sink_yes hx hy hlt2).symm.trans hS1
   refine gd (fun wz => (SlOld csnEnc 1 269 w.heap.size (some br) A9 nb cx) wz ∧ (BlkOld w.heap.size (some br) g7 262 [.pointer (some ⟨g, 0, none⟩)]) wz ∧ (BlkOld w.heap.size (some br) g 266 [q0, .slice A9 nb c9, q2, q3, q4, q5, q6]) wz ∧ True) mixed (fun _ hm => ⟨hm.fa 0, hm.fa 1, hm.fa 2, trivial⟩) fun z => ?_
   refine wt 0 18 1 rfl z (ov_move rfl) ?_
   refine wt 1 18 3 rfl z (ov_move rfl) ?_
   refine wt 2 18 7 rfl z (ov_move rfl) ?_
   refine wt 3 18 15 rfl z (ov_move rfl) ?_
   refine wt 4 18 31 rfl z (ov_sub rfl rfl (by omega) (by omega)) ?_
   refine wa_set 41 (v' := .int .i64 ((j : Nat) : Int)) rfl (congrArg (Value.int .i64) (by omega)) ?_
   refine wt 5 18 63 rfl z (ov_move rfl) ?_
   refine wt 6 18 127 rfl z (ov_move rfl) ?_
   refine wt 7 18 255 rfl z (ov_sub rfl rfl (by omega) (by omega)) ?_
   refine wa_set 44 (v' := .int .i64 ((j : Nat) : Int)) rfl (congrArg (Value.int .i64) (by omega)) ?_
   refine wt 8 18 511 rfl z (ov_index (j := j) es22 rfl rfl (by omega)) ?_
   refine wt 10 18 1535 rfl z (ov_move rfl) ?_
   refine wt 11 18 3583 rfl z (ov_move rfl) ?_
   refine wt 12 18 7679 rfl z (ov_index (j := (j + 1)) es22 rfl rfl (by omega)) ?_
   refine wa_all [9, 13] (by kernel_rfl) rfl ⟨⟨_, rfl, ?_⟩, ⟨_, rfl, ?_⟩, trivial⟩
   ·refine wl_ov (ov_elem1 (k := 0) (v := .int .i64 y0) sc3 rfl (fun _ hm => (RowK.get hm.k iE_len hm1)) hy rfl rfl) rfl ?_
    refine wl_nil ?_
    refine nw 18 8191 (fun _ hm => ⟨hm.fa 0, hm.fa 1, hm.fa 2, trivial⟩) fun z => ?_
    refine wa1 13 rfl ?_
    refine wl_ov (ov_elem1 (k := 0) (v := .int .i64 x0) sc3 rfl (fun _ hm => (RowK.get hm.k iE_len hm1)) hx rfl rfl) rfl ?_
    refine wl_nil ?_
    refine nw 18 16383 (fun _ hm => ⟨hm.fa 0, hm.fa 1, hm.fa 2, trivial⟩) fun z => ?_
    refine wt 14 18 32767 rfl z (ov_index (j := (j + 1)) es22 rfl rfl (by omega)) ?_
    refine wa1 15 rfl ?_
    refine wl_storeRow (l := m) (j := j + 1) (r := 0) (el := x0) (el' := y0) rfl sc3 rfl rfl rfl iE_len rfl hx hm1 (by decide) rfl rfl ?_
    refine wl_nil ?_
    refine nw 18 65535 (fun _ hm => ⟨hm.fa 0, hm.fa 1, hm.fa 2, trivial⟩) fun z => ?_
    refine wt 16 18 131071 rfl z (ov_index (j := j) es22 rfl rfl (by omega)) ?_
    refine wa1 17 rfl ?_
    refine wl_storeRow (l := m.set (j + 1) y0) (j := j) (r := 0) (el := y0) (el' := x0) rfl sc3 rfl rfl rfl iE_len rfl (by rw [List.getElem?_set_ne (by omega)]; exact hy) (by rw [List.length_set]; exact hm1) (by decide) rfl rfl ?_
    refine wl_nil ?_
    refine nw 18 262143 (fun _ hm => ⟨hm.fa 0, hm.fa 1, hm.fa 2, trivial⟩) fun z => ?_
    refine wa_done (by kernel_rfl) ?_
    refine nx_blk_nrm (nx_then (gw_region (mv_ rfl ?_)))
    refine wl_ov (ov_sub rfl rfl (by omega) (by omega)) rfl ?_
    refine wl_set 36 (v' := .int .i64 ((j : Nat) : Int)) rfl (congrArg (Value.int .i64) (by omega)) ?_
    refine sg_ rfl (wl_nil ?_)
    exact nx_round (j, (m.set (j + 1) y0).set j x0) ⟨by dsimp only; omega, by simp [hm1], hS2⟩ (by dsimp only; omega) ⟨rfl, rfl, rfl, rfl, rfl, (some_int (by omega)), trivial⟩ (fun _ hm => hm.pick [] [] [0, 1, 2] rfl rfl)
   refine wl_ov (ov_elem1 (k := 0) (v := .int .i64 x0) sc3 rfl (fun _ hm => (RowK.get hm.k iE_len hm1)) hx rfl rfl) rfl ?_
   refine wl_nil ?_
   refine nw 18 15871 (fun _ hm => ⟨hm.fa 0, hm.fa 1, hm.fa 2, trivial⟩) fun z => ?_
   refine wa1 9 rfl ?_
   refine wl_ov (ov_elem1 (k := 0) (v := .int .i64 y0) sc3 rfl (fun _ hm => (RowK.get hm.k iE_len hm1)) hy rfl rfl) rfl ?_
   refine wl_nil ?_
   refine nw 18 16383 (fun _ hm => ⟨hm.fa 0, hm.fa 1, hm.fa 2, trivial⟩) fun z => ?_
   refine wt 14 18 32767 rfl z (ov_index (j := (j + 1)) es22 rfl rfl (by omega)) ?_
   refine wa1 15 rfl ?_
   refine wl_storeRow (l := m) (j := j + 1) (r := 0) (el := x0) (el' := y0) rfl sc3 rfl rfl rfl iE_len rfl hx hm1 (by decide) rfl rfl ?_
   refine wl_nil ?_
   refine nw 18 65535 (fun _ hm => ⟨hm.fa 0, hm.fa 1, hm.fa 2, trivial⟩) fun z => ?_
   refine wt 16 18 131071 rfl z (ov_index (j := j) es22 rfl rfl (by omega)) ?_
   refine wa1 17 rfl ?_
   refine wl_storeRow (l := m.set (j + 1) y0) (j := j) (r := 0) (el := y0) (el' := x0) rfl sc3 rfl rfl rfl iE_len rfl (by rw [List.getElem?_set_ne (by omega)]; exact hy) (by rw [List.length_set]; exact hm1) (by decide) rfl rfl ?_
   refine wl_nil ?_
   refine nw 18 262143 (fun _ hm => ⟨hm.fa 0, hm.fa 1, hm.fa 2, trivial⟩) fun z => ?_
   refine wa_done (by kernel_rfl) ?_
   refine nx_blk_nrm (nx_then (gw_region (mv_ rfl ?_)))
   refine wl_ov (ov_sub rfl rfl (by omega) (by omega)) rfl ?_
   refine wl_set 36 (v' := .int .i64 ((j : Nat) : Int)) rfl (congrArg (Value.int .i64) (by omega)) ?_
   refine sg_ rfl (wl_nil ?_)
   exact nx_round (j, (m.set (j + 1) y0).set j x0) ⟨by dsimp only; omega, by simp [hm1], hS2⟩ (by dsimp only; omega) ⟨rfl, rfl, rfl, rfl, rfl, (some_int (by omega)), trivial⟩ (fun _ hm => hm.pick [] [] [0, 1, 2] rfl rfl)
  have hlt : ¬ (cmpI (lenN css x0.toNat : Int) (lenN css y0.toNat : Int) < 0) := by simpa using hh
  clear hh
  refine gw_exit ?_
  refine nx_then_exit (nx_then_exit ?_)
  refine nx_blk_here ?_
  refine nx_blk_nrm (nx_then (gw_region ?_))
  have hlt2 : (coLt css) x0 y0 = false := decide_eq_false (show ¬ cmpI (lenN css x0.toNat : Int) (lenN css y0.toNat : Int) < 0 from hlt)
  have hS2 := (sink_no hx hy hlt2).symm.trans hS1
  refine mv_ rfl (ad_ rfl rfl (sg_ rfl (wl_nil ?_)))
  have hm2 : m = S := hS2
  exact nx_round (i + 1, m) ⟨⟨by dsimp only; omega, by dsimp only; omega⟩, by rw [hm2]; exact hSl, by rw [hm2]; exact hRi⟩ (by dsimp only; omega) ⟨rfl, rfl, rfl, rfl, (some_int (by omega)), trivial⟩ (fun _ hm => hm.pick [] [] [0, 1, 2] rfl rfl)
 have hi : ¬ (((i : Nat) : Int) < ((n : Nat) : Int)) := by simpa using hh
 clear hh
 refine gw_exit ?_
 refine nx_then_exit (nx_then_exit ?_)
 refine nx_blk_here ?_
 obtain rfl : l = R := by rw [← hR1, show n - i = 0 by omega]; rfl
 refine nx_ret0 rfl fun wx hm => ?_
 exact ⟨rfl, fin_row hm.k hm.g⟩
theorem stb_co (cx : List ChS) (css : List (List (CdW ByteArray))) (A9 : Option Addr) (nb c9 g7 g : Nat) (q0 q2 q3 q4 q5 q6 : Value) (l0 : List Int) (br n cap base : Nat) (w : World) (h : w.ownsRow base 3 1 (.slice (some ⟨br, 0, none⟩) n cap) n (l0.flatMap iEnc)) (hl0 : l0.length = n) (hn : n ≤ 19) (hch : SlOld csnEnc 1 269 w.heap.size (some br) A9 nb cx w) (hp : BlkOld w.heap.size (some br) g7 262 [.pointer (some ⟨g, 0, none⟩)] w) (hb : BlkOld w.heap.size (some br) g 266 [q0, .slice A9 nb c9, q2, q3, q4, q5, q6] w) (hcx : cx.map ChS.l = css) (hcn : ∀ x ∈ cx, x.l.length = x.n) (hall : ∀ z ∈ l0, 0 ≤ z ∧ z < (nb : Int)) :
  Calls Tryz.prog 237 #[.slice (some ⟨br, 0, none⟩) n cap, .int .i64 ((n : Nat) : Int), .func (.func 227) #[] #[.pointer (some ⟨g7, 0, none⟩)]] w (fun e w' => e = .returned (.tuple #[]) ∧ w'.ownsRow base 3 1 (.slice (some ⟨br, 0, none⟩) n cap) n ((isort (coLt css) l0).flatMap iEnc) ∧ w.grownBy w' (some br)) := by
 refine gw_enter ⟨63, w, (some br), []⟩ Tryz.func237 rfl Tryz.ntmps237 rfl (memR (X := [SlOld csnEnc 1 269 w.heap.size (some br) A9 nb cx, BlkOld w.heap.size (some br) g7 262 [.pointer (some ⟨g, 0, none⟩)], BlkOld w.heap.size (some br) g 266 [q0, .slice A9 nb c9, q2, q3, q4, q5, q6]]) h (allF_cons hch (allF_cons hp (allF_cons hb allF_nil))) (allL_cons SlOld.lasts (allL_cons BlkOld.lasts (allL_cons BlkOld.lasts allL_nil)))) ?_
 refine sr_ (sg_ rfl (nn_ (sr_ (mv_ rfl (sg_ rfl (sg_ rfl (nn_ (gw_seq (gw_block ?_)))))))))
 refine gw_rounds 1 ?_
 refine gr_next ?_
 refine gw_seq (sr_ (mv_ rfl (mv_ rfl (wl_ov (ov_leq rfl rfl) rfl ?_))))
 refine wl_set 13 (v' := .bool false) rfl (congrArg Value.bool (decide_eq_false (by omega))) ?_
 refine nn_ (cf_ rfl ?_)
 refine gw_exit ?_
 refine nx_then_exit (nx_then_exit ?_)
 refine nx_blk_here ?_
 refine nx_then (sr_ (mv_ rfl (mv_ rfl (mv_ rfl (mv_ rfl ?_)))))
 refine wl_callK rfl rfl rfl cb296 rfl rfl (fun wx hm => (ins_co cx css A9 nb c9 g7 g q0 q2 q3 q4 q5 q6 l0 br n cap base wx hm.k hl0 (by omega) (hm.fact 0 rfl).again (hm.fact 1 rfl).again2 (hm.fact 2 rfl).again2 hcx hcn hall)) ?_
 refine nn_ (gw_block ?_)
 refine gw_rounds 1 ?_
 refine gr_next ?_
 refine gw_seq (sr_ (mv_ rfl (mv_ rfl (wl_ov (ov_lss rfl rfl) rfl ?_))))
 refine wl_set 30 (v' := .bool false) rfl (congrArg Value.bool (decide_eq_false (by omega))) ?_
 refine nn_ (cf_ rfl ?_)
 refine gw_exit ?_
 refine nx_then_exit (nx_then_exit ?_)
 refine nx_blk_here ?_
 refine nx_ret0 rfl fun wx hm => ?_
 exact ⟨rfl, fin_row hm.k hm.g⟩
set_option maxRecDepth 100000 in
set_option maxHeartbeats 400000 in
theorem stable_co (cx : List ChS) (css : List (List (CdW ByteArray))) (A9 : Option Addr) (nb c9 g7 g : Nat) (q0 q2 q3 q4 q5 q6 : Value) (l0 : List Int) (br n cap base : Nat) (w : World) (h : w.ownsRow base 3 1 (.slice (some ⟨br, 0, none⟩) n cap) n (l0.flatMap iEnc)) (hl0 : l0.length = n) (hn : n ≤ 19) (hch : SlOld csnEnc 1 269 w.heap.size (some br) A9 nb cx w) (hp : BlkOld w.heap.size (some br) g7 262 [.pointer (some ⟨g, 0, none⟩)] w) (hb : BlkOld w.heap.size (some br) g 266 [q0, .slice A9 nb c9, q2, q3, q4, q5, q6] w) (hcx : cx.map ChS.l = css) (hcn : ∀ x ∈ cx, x.l.length = x.n) (hall : ∀ z ∈ l0, 0 ≤ z ∧ z < (nb : Int)) :
    Calls Tryz.prog 155 #[.slice (some ⟨br, 0, none⟩) n cap, .func (.func 227) #[] #[.pointer (some ⟨g7, 0, none⟩)]] w (fun e w' => e = .returned (.tuple #[]) ∧ w'.ownsRow base 3 1 (.slice (some ⟨br, 0, none⟩) n cap) n ((isort (coLt css) l0).flatMap iEnc) ∧ w.grownBy w' (some br)) := by
  refine gw_enter ⟨9, w, (some br), []⟩ Tryz.func155 rfl Tryz.ntmps155 rfl (memR (X := [SlOld csnEnc 1 269 w.heap.size (some br) A9 nb cx, BlkOld w.heap.size (some br) g7 262 [.pointer (some ⟨g, 0, none⟩)], BlkOld w.heap.size (some br) g 266 [q0, .slice A9 nb c9, q2, q3, q4, q5, q6]]) h (allF_cons hch (allF_cons hp (allF_cons hb allF_nil))) (allL_cons SlOld.lasts (allL_cons BlkOld.lasts (allL_cons BlkOld.lasts allL_nil)))) ?_
  refine gw_region ?_
  refine wl_ov (ov_move rfl) rfl ?_
  refine wl_ov (ov_move rfl) rfl ?_
  refine wl_ov (ov_len es22 rfl) rfl ?_
  refine wl_ov (ov_move rfl) rfl ?_
  refine wl_callK rfl rfl rfl cb237 rfl rfl (fun wx hm => (stb_co cx css A9 nb c9 g7 g q0 q2 q3 q4 q5 q6 l0 br n cap base wx hm.k hl0 (by omega) (hm.fact 0 rfl).again (hm.fact 1 rfl).again2 (hm.fact 2 rfl).again2 hcx hcn hall)) ?_
  refine wl_nil ?_
  refine nx_ret0 rfl fun wx hm => ?_
  exact ⟨rfl, fin_row hm.k hm.g⟩
theorem ins0_co (A : Option Addr) (cap g7 : Nat) (w : World) : Calls Tryz.prog 296 #[.slice A 0 cap, .int .i64 0, .int .i64 0, .func (.func 227) #[] #[.pointer (some ⟨g7, 0, none⟩)]] w (fun e w' => e = .returned (.tuple #[]) ∧ w.grownBy w' none) := by
 refine gw_enter ⟨53, w, none, []⟩ Tryz.func296 rfl Tryz.ntmps296 rfl (mem0 (X := []) allF_nil allL_nil) ?_
 refine sr_ (mv_ rfl (ad_ rfl rfl ?_))
 refine wl_set 11 (v' := .int .i64 1) rfl rfl ?_
 refine sg_ rfl (nn_ (gw_block ?_))
 refine gw_rounds 1 ?_
 refine gr_next ?_
 refine gw_seq (sr_ (mv_ rfl (mv_ rfl (wl_ov (ov_lss rfl rfl) rfl ?_))))
 refine wl_set 14 (v' := .bool false) rfl (congrArg Value.bool (by decide)) ?_
 refine nn_ (cf_ rfl ?_)
 refine gw_exit ?_
 refine nx_then_exit (nx_then_exit ?_)
 refine nx_blk_here ?_
 refine nx_ret0 rfl fun wx hm => ?_
 exact ⟨rfl, hm.g⟩
theorem stb0_co (A : Option Addr) (cap g7 : Nat) (w : World) : Calls Tryz.prog 237 #[.slice A 0 cap, .int .i64 0, .func (.func 227) #[] #[.pointer (some ⟨g7, 0, none⟩)]] w (fun e w' => e = .returned (.tuple #[]) ∧ w.grownBy w' none) := by
 refine gw_enter ⟨63, w, none, []⟩ Tryz.func237 rfl Tryz.ntmps237 rfl (mem0 (X := []) allF_nil allL_nil) ?_
 refine sr_ (sg_ rfl (nn_ (sr_ (mv_ rfl (sg_ rfl (sg_ rfl (nn_ (gw_seq (gw_block ?_)))))))))
 refine gw_rounds 1 ?_
 refine gr_next ?_
 refine gw_seq (sr_ (mv_ rfl (mv_ rfl (wl_ov (ov_leq rfl rfl) rfl ?_))))
 refine wl_set 13 (v' := .bool false) rfl (congrArg Value.bool (by decide)) ?_
 refine nn_ (cf_ rfl ?_)
 refine gw_exit ?_
 refine nx_then_exit (nx_then_exit ?_)
 refine nx_blk_here ?_
 refine nx_then (sr_ (mv_ rfl (mv_ rfl (mv_ rfl (mv_ rfl ?_)))))
 refine wl_callv rfl cb296 rfl rfl (fun wx hm => (ins0_co A cap g7 wx)) ?_
 refine nn_ (gw_block ?_)
 refine gw_rounds 1 ?_
 refine gr_next ?_
 refine gw_seq (sr_ (mv_ rfl (mv_ rfl (wl_ov (ov_lss rfl rfl) rfl ?_))))
 refine wl_set 30 (v' := .bool false) rfl (congrArg Value.bool (by decide)) ?_
 refine nn_ (cf_ rfl ?_)
 refine gw_exit ?_
 refine nx_then_exit (nx_then_exit ?_)
 refine nx_blk_here ?_
 refine nx_ret0 rfl fun wx hm => ?_
 exact ⟨rfl, hm.g⟩
set_option maxRecDepth 100000 in
set_option maxHeartbeats 400000 in
theorem stable0_co (A : Option Addr) (cap g7 : Nat) (w : World) : Calls Tryz.prog 155 #[.slice A 0 cap, .func (.func 227) #[] #[.pointer (some ⟨g7, 0, none⟩)]] w (fun e w' => e = .returned (.tuple #[]) ∧ w.grownBy w' none) := by
  refine gw_enter ⟨9, w, none, []⟩ Tryz.func155 rfl Tryz.ntmps155 rfl (mem0 (X := []) allF_nil allL_nil) ?_
  refine gw_region ?_
  refine wl_ov (ov_move rfl) rfl ?_
  refine wl_ov (ov_move rfl) rfl ?_
  refine wl_ov (ov_len es22 rfl) rfl ?_
  refine wl_set 6 (v' := .int .i64 0) rfl rfl ?_
  refine wl_ov (ov_move rfl) rfl ?_
  refine wl_callv rfl cb237 rfl rfl (fun wx hm => (stb0_co A cap g7 wx)) ?_
  refine wl_nil ?_
  refine nx_ret0 rfl fun wx hm => ?_
  exact ⟨rfl, hm.g⟩
end Go.Proofs.YtempjmpfdniecaaGreatDoor
