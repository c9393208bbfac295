/- Several texts as one: Htd Tl Cp Fl Fv Cells Lst Ev Tw Aw Cl Sl Sk Stc Ta Fw Fx Fz Gf Gb Gst Lop LopA LopB Win LopC Sq Fq Sn Ix Sr Gg Eg Clr Cv Hte Gt Gr Rgr Ci Ftp Bk Hbk Hk Ks Ln Add Bl -/
import Derived.Test.YtempjmpfdniecaaGreatDoorN1b
import Derived.Test.YtempjmpfdniecaaGreatDoorN1a
import Derived.Deep.LoopGhost
import Derived.Deep.DeepCutAuto
import Derived.Laws.AppendOwnNone
import Derived.Test.YtempjmpfdniecaaGreatDoorProg
import Derived.Ground.NamesProg
import Derived.Shelf.Small.Bits
import Derived.Shelf.Small.Strs
import Derived.StillTailTactics
import Derived.OneCell
import Derived.IntWalk
import Derived.Lib.SplitLaws
import Derived.Lib.IndexBytes
import Derived.Lib.AtoiAllCases
set_option maxRecDepth 100000
set_option maxHeartbeats 4000000
namespace Go.Proofs.YtempjmpfdniecaaGreatDoor
open Go.RowKit
theorem hirText_right (k d : ByteArray) (f t2 : Int) (ls : List Lg) (A : Option Addr) (n c : Nat) (w : World) (ht : TxtW w) (hl : SlT lgEnc 9 135 w A n ls) (hok : HrOk k d ls) (hn : n ≤ 1000) (h0 : hireE (⟨k, d, f, t2, ls⟩ : Hr) = 0) :
  Calls Tryz.prog 13 #[.agg #[.string k, .string d, .int .i64 f, .int .i64 t2, .slice A n c]] w (fun e w' => e = .returned (.tuple #[.string (hirTx (⟨k, d, f, t2, ls⟩ : Hr) ls), .int .i64 0]) ∧ w.grownBy w' none) := by
 refine gw_enter ⟨89, w, none, []⟩ Tryz.func13 rfl Tryz.ntmps13 rfl (mem0 (X := [SlOld lgEnc 9 135 w.heap.size none A n ls, TxtO w.heap.size none]) (allF_cons hl.old (allF_cons ht.old allF_nil)) (allL_cons SlOld.lasts (allL_cons TxtO.lasts allL_nil))) ?_
 refine sr_ ?_
 obtain ⟨HE, hHE⟩ : ∃ z, z = hireE (⟨k, d, f, t2, ls⟩ : Hr) := ⟨_, rfl⟩
 have hlen := hl.len
 have hB := hrB_of h0
 rw [← hHE] at h0
 have hB2 := hB
 obtain ⟨s1, s2, f1, f2, hg, hln⟩ := hB2
 dsimp only at s1 s2 f1 f2 hg hln
 have h10 : (⟨#[10]⟩ : ByteArray).size = 1 := rfl
 have h32 : (⟨#[32]⟩ : ByteArray).size = 1 := rfl
 have hj5 := hirHdJ_sz hB
 refine wl_box rfl rfl rfl fun g1 => ?_
 refine sg_ rfl (sg_ rfl (nn_ (gw_seq (sr_ ?_))))
 refine wl_ov (ov_loads rz30 rfl (fun _ hm => hm.blkI 0 rfl) rfl rfl) rfl ?_
 refine wl_callv (v := .int .i64 HE) rfl cb12 rfl rfl (fun wx hm => (by rw [hHE]; exact hcheck_any k d f t2 ls A n c wx (hm.fact 0 rfl).1 hok (by omega))) ?_
 refine sg_ rfl (nn_ (sr_ (mv_ rfl (wl_ov (ov_neq rfl rfl) rfl (nn_ ?_)))))
 refine gw_cond rfl (fun hh => ?_) (fun hh => ?_)
 ·have h1 : ¬ (HE = 0) := by simpa using hh
  clear hh
  refine sr_ ?_
  exact absurd h0 (by simpa using h1)
 have h1 : HE = 0 := by simpa using hh
 clear hh
 refine gw_skip (nx_then (sr_ ?_))
 refine wl_alloc zc128 rfl fun g2 => ?_
 refine nn_ (sr_ ?_)
 refine wl_ov (ov_iface (by kernel_rfl) rfl) rfl ?_
 refine fd_ fo30_0 rfl rfl (lk_ sc9 1 rfl rfl rfl ?_)
 refine wl_ov (ov_iface (by kernel_rfl) rfl) rfl ?_
 refine fd_ fo30_1 rfl rfl (lk_ sc9 1 rfl rfl rfl ?_)
 refine wl_ov (ov_iface (by kernel_rfl) rfl) rfl ?_
 refine fd_ fo30_2 rfl rfl (fd_ fo27_0 rfl rfl (lk_ sc3 1 rfl rfl rfl ?_))
 refine wl_ov (ov_iface (by kernel_rfl) rfl) rfl ?_
 refine fd_ fo30_2 rfl rfl (fd_ fo27_1 rfl rfl (lk_ sc3 1 rfl rfl rfl ?_))
 refine wl_ov (ov_iface (by kernel_rfl) rfl) rfl ?_
 refine wl_buildSlice (e := 20) (cs := [.iface 9 (.string ⟨#[104, 105, 114, 101]⟩), .iface 9 (.string k), .iface 9 (.string d), .iface 3 (.int .i64 f), .iface 3 (.int .i64 t2)]) rfl (by kernel_rfl) rfl fun g3 => ?_
 refine wl_callv (v := .string (joinS (hirHdP (⟨k, d, f, t2, ls⟩ : Hr)) ⟨#[32]⟩)) rfl cb73 rfl rfl (fun wx hm => (by have h := wjoin_any (hirHdPts (⟨k, d, f, t2, ls⟩ : Hr)) (some ⟨g3, 0, none⟩) 5 5 wx (hm.fact 1 rfl).1 (SlT.ofBlk (l := hirHdPts (⟨k, d, f, t2, ls⟩ : Hr)) pt_len (hm.blkI 0 rfl)) (by omega) (by omega) (hirHdPts_ok hB); exact h)) ?_
 refine wl_ov (ov_sadd rfl rfl (by (try simp only [ByteArray.size_append]); omega)) rfl ?_
 refine wl_nilOwn 5 1 ?_
 refine wl_callG (γ := Value) (val := fun _ => .tuple #[.int .i64 (((joinS (hirHdP (⟨k, d, f, t2, ls⟩ : Hr)) ⟨#[32]⟩) ++ (⟨#[10]⟩ : ByteArray)).size : Int), .nilIface]) (φ := fun _ => True) (K' := fun _ => (fun _ => True)) (L' := fun g => [(g3, 20, [.iface 9 (.string ⟨#[104, 105, 114, 101]⟩), .iface 9 (.string k), .iface 9 (.string d), .iface 3 (.int .i64 f), .iface 3 (.int .i64 t2)]), (g2, 128, [.pointer (some ⟨g2, 0, none⟩), g]), (g1, 30, [.string k, .string d, .int .i64 f, .int .i64 t2, .slice A n c])]) (O' := fun g => [⟨g, 5, 1, (Lib.byteCells [] ++ Lib.strCells ((joinS (hirHdP (⟨k, d, f, t2, ls⟩ : Hr)) ⟨#[32]⟩) ++ (⟨#[10]⟩ : ByteArray))).length, Lib.byteCells [] ++ Lib.strCells ((joinS (hirHdP (⟨k, d, f, t2, ls⟩ : Hr)) ⟨#[32]⟩) ++ (⟨#[10]⟩ : ByteArray))⟩]) (X' := fun _ => [SlOld lgEnc 9 135 w.heap.size none A n ls, TxtO w.heap.size none]) rfl cb72 rfl rfl (fun wx hm => (writeStringK w.heap.size g2 (Lib.byteCells []) ((joinS (hirHdP (⟨k, d, f, t2, ls⟩ : Hr)) ⟨#[32]⟩) ++ (⟨#[10]⟩ : ByteArray)) wx (hm.isB 1 0 rfl rfl (.inl rfl)) (by simp only [Lib.byteCells_length, List.length_nil]; (try simp only [ByteArray.size_append]); omega) hm.g.size).mono fun e w' ⟨he, h1, hb, hk⟩ => by
  obtain ⟨v, hM⟩ := hm.builtK 1 rfl (tys_ne rfl) h1 hb hk (oldX_cons (i := 0) SlOld.oldF rfl (oldX_cons (i := 1) TxtO.oldF rfl oldX_nil))
  exact ⟨v, he, trivial, hM⟩) ?_
 rintro vv1 _
 rw [show Lib.byteCells [] ++ Lib.strCells ((joinS (hirHdP (⟨k, d, f, t2, ls⟩ : Hr)) ⟨#[32]⟩) ++ (⟨#[10]⟩ : ByteArray)) = Lib.byteCells (hirTxL (⟨k, d, f, t2, ls⟩ : Hr) (ls.take 0)) from by rw [cells_app]; unfold hirTxL hirHd; simp]
 refine nn_ (gw_seq (sr_ (fd_ fo30_3 rfl rfl (lk_ sc28 2 rfl rfl rfl (wl_ov (ov_len es28 rfl) rfl (mv_ rfl (nn_ (gw_block ?_))))))))
 refine gw_loop (γ := Nat × Value) (fun (gz : Nat × Value) => gz.1 ≤ n) (fun (gz : Nat × Value) => [(2, .string ⟨#[]⟩), (3, .int .i64 0), (5, .pointer (some ⟨g2, 0, none⟩)), (33, .slice A n c), (34, .int .i64 ((n : Nat) : Int)), (35, .int .i64 ((gz.1 : Nat) : Int))]) (fun (gz : Nat × Value) => fun _ => True) (fun (gz : Nat × Value) => [(g2, 128, [.pointer (some ⟨g2, 0, none⟩), gz.2])]) (fun (gz : Nat × Value) => [⟨gz.2, 5, 1, (Lib.byteCells (hirTxL (⟨k, d, f, t2, ls⟩ : Hr) (ls.take gz.1))).length, (Lib.byteCells (hirTxL (⟨k, d, f, t2, ls⟩ : Hr) (ls.take gz.1)))⟩]) (fun (gz : Nat × Value) => [SlOld lgEnc 9 135 w.heap.size none A n ls, TxtO w.heap.size none]) (fun (gz : Nat × Value) => n - gz.1) (0, vv1) (Nat.zero_le _) ⟨rfl, rfl, rfl, rfl, rfl, rfl, trivial⟩ (fun _ hm => hm.pick [1] [0] [0, 1] rfl rfl) ?_
 rintro ⟨i, v⟩ hinv
 replace hinv : i ≤ n := hinv
 dsimp only
 refine sr_ ?_
 have hi0 := hinv
 refine wl_ov (ov_lss rfl rfl) rfl (nn_ (gw_seq ?_))
 refine gw_cond rfl (fun hh => ?_) (fun hh => ?_)
 ·have hi : ((i : Nat) : Int) < ((n : Nat) : Int) := by simpa using hh
  clear hh
  refine gw_skip (nx_then (gw_seq (gw_block (sr_ ?_))))
  obtain ⟨b, off, hA, _, _⟩ := hl.get (by omega)
  subst hA
  obtain ⟨x, hx⟩ : ∃ x, ls[i]? = some x := ⟨_, List.getElem?_eq_getElem (by omega)⟩
  obtain ⟨xv, ⟨oa, os, om, of_⟩, ⟨ia, is_, im, if_⟩⟩ := x
  have hgB := hg _ (List.mem_of_getElem? hx)
  have hJ := hirLegJ_sz hgB
  have hI := hirRdJ_sz hgB.2.2
  have hO := hirRdJ_sz hgB.2.1
  dsimp only at hI hO
  have hts := hirTx_sz (l := ls.take i) hB (leg_take hg i)
  have htl : (ls.take i).length ≤ 20 := by rw [List.length_take]; omega
  have hv := hgB.1
  dsimp only at hv
  have hatL := hirTxL_at (h := (⟨k, d, f, t2, ls⟩ : Hr)) hx
  have htl2 := hirTxL_len (l := ls.take i) hB (leg_take hg i)
  refine wl_ov (ov_index (j := i) es28 rfl rfl (by omega)) rfl ?_
  refine wl_ov (ov_elem (vs := [.string xv, .int .i64 oa, .string os, .int .i64 om, .int .i64 of_, .int .i64 ia, .string is_, .int .i64 im, .int .i64 if_]) rz135 rfl (fun _ hm => (hm.fact 0 rfl).1) hx rfl rfl) rfl ?_
  refine wl_alloc zc135 rfl fun g4 => ?_
  refine wl_stores (cs' := [.string xv, .int .i64 oa, .string os, .int .i64 om, .int .i64 of_, .int .i64 ia, .string is_, .int .i64 im, .int .i64 if_]) 0 rz135 rfl rfl rfl rfl rfl rfl rfl rfl ?_
  refine nn_ (sr_ ?_)
  refine wl_ov (ov_iface (by kernel_rfl) rfl) rfl ?_
  refine fd_ fo135_0 rfl rfl (lk_ sc9 0 rfl rfl rfl ?_)
  refine wl_ov (ov_iface (by kernel_rfl) rfl) rfl ?_
  refine fd_ fo135_1 rfl rfl (fd_ fo48_0 rfl rfl (lk_ sc3 0 rfl rfl rfl ?_))
  refine wl_ov (ov_iface (by kernel_rfl) rfl) rfl ?_
  refine fd_ fo135_1 rfl rfl (fd_ fo48_1 rfl rfl (lk_ sc9 0 rfl rfl rfl ?_))
  refine wl_ov (ov_iface (by kernel_rfl) rfl) rfl ?_
  refine fd_ fo135_1 rfl rfl (fd_ fo48_2 rfl rfl (lk_ sc3 0 rfl rfl rfl ?_))
  refine wl_ov (ov_iface (by kernel_rfl) rfl) rfl ?_
  refine fd_ fo135_1 rfl rfl (fd_ fo48_3 rfl rfl (lk_ sc3 0 rfl rfl rfl ?_))
  refine wl_ov (ov_iface (by kernel_rfl) rfl) rfl ?_
  refine wl_buildSlice (e := 20) (cs := [.iface 9 (.string ⟨#[108, 101, 103]⟩), .iface 9 (.string xv), .iface 3 (.int .i64 oa), .iface 9 (.string os), .iface 3 (.int .i64 om), .iface 3 (.int .i64 of_)]) rfl (by kernel_rfl) rfl fun g5 => ?_
  refine wl_callv (v := .string (hirLegJ (⟨xv, ⟨oa, os, om, of_⟩, ⟨ia, is_, im, if_⟩⟩ : Lg))) rfl cb73 rfl rfl (fun wx hm => (by have h := wjoin_any (hirLegPts (⟨xv, ⟨oa, os, om, of_⟩, ⟨ia, is_, im, if_⟩⟩ : Lg)) (some ⟨g5, 0, none⟩) 6 6 wx (hm.fact 1 rfl).1 (SlT.ofBlk (l := hirLegPts (⟨xv, ⟨oa, os, om, of_⟩, ⟨ia, is_, im, if_⟩⟩ : Lg)) pt_len (hm.blkI 0 rfl)) (by omega) (by omega) (hirLegPts_ok hgB); exact h)) ?_
  refine wl_callG (γ := Value) (val := fun _ => .tuple #[.int .i64 ((hirLegJ (⟨xv, ⟨oa, os, om, of_⟩, ⟨ia, is_, im, if_⟩⟩ : Lg)).size : Int), .nilIface]) (φ := fun _ => True) (K' := fun _ => (fun _ => True)) (L' := fun g => [(g5, 20, [.iface 9 (.string ⟨#[108, 101, 103]⟩), .iface 9 (.string xv), .iface 3 (.int .i64 oa), .iface 9 (.string os), .iface 3 (.int .i64 om), .iface 3 (.int .i64 of_)]), (g4, 135, [.string xv, .int .i64 oa, .string os, .int .i64 om, .int .i64 of_, .int .i64 ia, .string is_, .int .i64 im, .int .i64 if_]), (g2, 128, [.pointer (some ⟨g2, 0, none⟩), g])]) (O' := fun g => [⟨g, 5, 1, (Lib.byteCells (hirTxL (⟨k, d, f, t2, ls⟩ : Hr) (ls.take i)) ++ Lib.strCells (hirLegJ (⟨xv, ⟨oa, os, om, of_⟩, ⟨ia, is_, im, if_⟩⟩ : Lg))).length, Lib.byteCells (hirTxL (⟨k, d, f, t2, ls⟩ : Hr) (ls.take i)) ++ Lib.strCells (hirLegJ (⟨xv, ⟨oa, os, om, of_⟩, ⟨ia, is_, im, if_⟩⟩ : Lg))⟩]) (X' := fun _ => [SlOld lgEnc 9 135 w.heap.size none (some ⟨b, off, none⟩) n ls, TxtO w.heap.size none]) rfl cb72 rfl rfl (fun wx hm => (writeStringK w.heap.size g2 (Lib.byteCells (hirTxL (⟨k, d, f, t2, ls⟩ : Hr) (ls.take i))) (hirLegJ (⟨xv, ⟨oa, os, om, of_⟩, ⟨ia, is_, im, if_⟩⟩ : Lg)) wx (hm.isB 2 0 rfl rfl (.inr rfl)) (by simp only [Lib.byteCells_length]; (try simp only [ByteArray.size_append]); omega) hm.g.size).mono fun e w' ⟨he, h1, hb, hk⟩ => by
   obtain ⟨v, hM⟩ := hm.builtK 2 rfl (tys_ne rfl) h1 hb hk (oldX_cons (i := 0) SlOld.oldF rfl (oldX_cons (i := 1) TxtO.oldF rfl oldX_nil))
   exact ⟨v, he, trivial, hM⟩) ?_
  rintro vv2 _
  refine nn_ (gw_seq (sr_ (fd_ fo135_2 rfl rfl (fd_ fo48_0 rfl rfl (lk_ sc3 1 rfl rfl rfl (wl_ov (ov_neq rfl rfl) rfl (nn_ ?_)))))))
  refine gw_cond rfl (fun hh => ?_) (fun hh => ?_)
  ·have h6 : ¬ (ia = -1) := by simpa using hh
   clear hh
   refine gw_region (fd_ fo135_2 rfl rfl (fd_ fo48_0 rfl rfl (lk_ sc3 1 rfl rfl rfl ?_)))
   refine wl_ov (ov_iface (by kernel_rfl) rfl) rfl ?_
   refine fd_ fo135_2 rfl rfl (fd_ fo48_1 rfl rfl (lk_ sc9 1 rfl rfl rfl ?_))
   refine wl_ov (ov_iface (by kernel_rfl) rfl) rfl ?_
   refine fd_ fo135_2 rfl rfl (fd_ fo48_2 rfl rfl (lk_ sc3 1 rfl rfl rfl ?_))
   refine wl_ov (ov_iface (by kernel_rfl) rfl) rfl ?_
   refine fd_ fo135_2 rfl rfl (fd_ fo48_3 rfl rfl (lk_ sc3 1 rfl rfl rfl ?_))
   refine wl_ov (ov_iface (by kernel_rfl) rfl) rfl ?_
   refine wl_buildSlice (e := 20) (cs := [.iface 3 (.int .i64 ia), .iface 9 (.string is_), .iface 3 (.int .i64 im), .iface 3 (.int .i64 if_)]) rfl (by kernel_rfl) rfl fun g6 => ?_
   refine wl_callv (v := .string (hirRdJ (⟨ia, is_, im, if_⟩ : Rd))) rfl cb73 rfl rfl (fun wx hm => (by have h := wjoin_any (hirRdPts (⟨ia, is_, im, if_⟩ : Rd)) (some ⟨g6, 0, none⟩) 4 4 wx (hm.fact 1 rfl).1 (SlT.ofBlk (l := hirRdPts (⟨ia, is_, im, if_⟩ : Rd)) pt_len (hm.blkI 0 rfl)) (by omega) (by omega) (hirRdPts_ok hgB.2.2); exact h)) ?_
   refine wl_ov (ov_sadd rfl rfl (by (try simp only [ByteArray.size_append]); omega)) rfl ?_
   refine wl_callG (γ := Value) (val := fun _ => .tuple #[.int .i64 (((⟨#[32]⟩ : ByteArray) ++ (hirRdJ (⟨ia, is_, im, if_⟩ : Rd))).size : Int), .nilIface]) (φ := fun _ => True) (K' := fun _ => (fun _ => True)) (L' := fun g => [(g6, 20, [.iface 3 (.int .i64 ia), .iface 9 (.string is_), .iface 3 (.int .i64 im), .iface 3 (.int .i64 if_)]), (g5, 20, [.iface 9 (.string ⟨#[108, 101, 103]⟩), .iface 9 (.string xv), .iface 3 (.int .i64 oa), .iface 9 (.string os), .iface 3 (.int .i64 om), .iface 3 (.int .i64 of_)]), (g4, 135, [.string xv, .int .i64 oa, .string os, .int .i64 om, .int .i64 of_, .int .i64 ia, .string is_, .int .i64 im, .int .i64 if_]), (g2, 128, [.pointer (some ⟨g2, 0, none⟩), g])]) (O' := fun g => [⟨g, 5, 1, (Lib.byteCells (hirTxL (⟨k, d, f, t2, ls⟩ : Hr) (ls.take i)) ++ Lib.strCells (hirLegJ (⟨xv, ⟨oa, os, om, of_⟩, ⟨ia, is_, im, if_⟩⟩ : Lg)) ++ Lib.strCells ((⟨#[32]⟩ : ByteArray) ++ (hirRdJ (⟨ia, is_, im, if_⟩ : Rd)))).length, Lib.byteCells (hirTxL (⟨k, d, f, t2, ls⟩ : Hr) (ls.take i)) ++ Lib.strCells (hirLegJ (⟨xv, ⟨oa, os, om, of_⟩, ⟨ia, is_, im, if_⟩⟩ : Lg)) ++ Lib.strCells ((⟨#[32]⟩ : ByteArray) ++ (hirRdJ (⟨ia, is_, im, if_⟩ : Rd)))⟩]) (X' := fun _ => [SlOld lgEnc 9 135 w.heap.size none (some ⟨b, off, none⟩) n ls, TxtO w.heap.size none]) rfl cb72 rfl rfl (fun wx hm => (writeStringK w.heap.size g2 (Lib.byteCells (hirTxL (⟨k, d, f, t2, ls⟩ : Hr) (ls.take i)) ++ Lib.strCells (hirLegJ (⟨xv, ⟨oa, os, om, of_⟩, ⟨ia, is_, im, if_⟩⟩ : Lg))) ((⟨#[32]⟩ : ByteArray) ++ (hirRdJ (⟨ia, is_, im, if_⟩ : Rd))) wx (hm.isB 3 0 rfl rfl (.inr rfl)) (by simp only [List.length_append, Lib.strCells_length, Lib.byteCells_length]; (try simp only [ByteArray.size_append]); omega) hm.g.size).mono fun e w' ⟨he, h1, hb, hk⟩ => by
    obtain ⟨v, hM⟩ := hm.builtK 3 rfl (tys_ne rfl) h1 hb hk (oldX_cons (i := 0) SlOld.oldF rfl (oldX_cons (i := 1) TxtO.oldF rfl oldX_nil))
    exact ⟨v, he, trivial, hM⟩) ?_
   rintro vv3 _
   refine nn_ (gw_region ?_)
   refine wl_callG (γ := Value) (val := fun _ => .tuple #[.int .i64 (((⟨#[10]⟩ : ByteArray)).size : Int), .nilIface]) (φ := fun _ => True) (K' := fun _ => (fun _ => True)) (L' := fun g => [(g6, 20, [.iface 3 (.int .i64 ia), .iface 9 (.string is_), .iface 3 (.int .i64 im), .iface 3 (.int .i64 if_)]), (g5, 20, [.iface 9 (.string ⟨#[108, 101, 103]⟩), .iface 9 (.string xv), .iface 3 (.int .i64 oa), .iface 9 (.string os), .iface 3 (.int .i64 om), .iface 3 (.int .i64 of_)]), (g4, 135, [.string xv, .int .i64 oa, .string os, .int .i64 om, .int .i64 of_, .int .i64 ia, .string is_, .int .i64 im, .int .i64 if_]), (g2, 128, [.pointer (some ⟨g2, 0, none⟩), g])]) (O' := fun g => [⟨g, 5, 1, (Lib.byteCells (hirTxL (⟨k, d, f, t2, ls⟩ : Hr) (ls.take i)) ++ Lib.strCells (hirLegJ (⟨xv, ⟨oa, os, om, of_⟩, ⟨ia, is_, im, if_⟩⟩ : Lg)) ++ Lib.strCells ((⟨#[32]⟩ : ByteArray) ++ (hirRdJ (⟨ia, is_, im, if_⟩ : Rd))) ++ Lib.strCells (⟨#[10]⟩ : ByteArray)).length, Lib.byteCells (hirTxL (⟨k, d, f, t2, ls⟩ : Hr) (ls.take i)) ++ Lib.strCells (hirLegJ (⟨xv, ⟨oa, os, om, of_⟩, ⟨ia, is_, im, if_⟩⟩ : Lg)) ++ Lib.strCells ((⟨#[32]⟩ : ByteArray) ++ (hirRdJ (⟨ia, is_, im, if_⟩ : Rd))) ++ Lib.strCells (⟨#[10]⟩ : ByteArray)⟩]) (X' := fun _ => [SlOld lgEnc 9 135 w.heap.size none (some ⟨b, off, none⟩) n ls, TxtO w.heap.size none]) rfl cb72 rfl rfl (fun wx hm => (writeStringK w.heap.size g2 (Lib.byteCells (hirTxL (⟨k, d, f, t2, ls⟩ : Hr) (ls.take i)) ++ Lib.strCells (hirLegJ (⟨xv, ⟨oa, os, om, of_⟩, ⟨ia, is_, im, if_⟩⟩ : Lg)) ++ Lib.strCells ((⟨#[32]⟩ : ByteArray) ++ (hirRdJ (⟨ia, is_, im, if_⟩ : Rd)))) (⟨#[10]⟩ : ByteArray) wx (hm.isB 3 0 rfl rfl (.inr rfl)) (by simp only [List.length_append, Lib.strCells_length, Lib.byteCells_length]; (try simp only [ByteArray.size_append]); omega) hm.g.size).mono fun e w' ⟨he, h1, hb, hk⟩ => by
    obtain ⟨v, hM⟩ := hm.builtK 3 rfl (tys_ne rfl) h1 hb hk (oldX_cons (i := 0) SlOld.oldF rfl (oldX_cons (i := 1) TxtO.oldF rfl oldX_nil))
    exact ⟨v, he, trivial, hM⟩) ?_
   rintro vv4 _
   refine wl_nil (nx_blk_nrm (nx_then (gw_region (ad_ rfl rfl (mv_ rfl (wl_nil ?_))))))
   rw [show Lib.byteCells (hirTxL (⟨k, d, f, t2, ls⟩ : Hr) (ls.take i)) ++ Lib.strCells (hirLegJ (⟨xv, ⟨oa, os, om, of_⟩, ⟨ia, is_, im, if_⟩⟩ : Lg)) ++ Lib.strCells ((⟨#[32]⟩ : ByteArray) ++ (hirRdJ (⟨ia, is_, im, if_⟩ : Rd))) ++ Lib.strCells (⟨#[10]⟩ : ByteArray) = Lib.byteCells (hirTxL (⟨k, d, f, t2, ls⟩ : Hr) (ls.take (i + 1))) from by rw [hb_three, hatL, hirLeg_in (g := (⟨xv, ⟨oa, os, om, of_⟩, ⟨ia, is_, im, if_⟩⟩ : Lg)) h6]]
   exact nx_round (i + 1, vv4) (by dsimp only; omega) (by dsimp only; omega) ⟨rfl, rfl, rfl, rfl, rfl, (some_int (by omega)), trivial⟩ (fun _ hm => hm.pick [3] [0] [0, 1] rfl rfl)
  have h6 : ia = -1 := by simpa using hh
  clear hh
  refine gw_skip (nx_then (gw_region ?_))
  refine wl_callG (γ := Value) (val := fun _ => .tuple #[.int .i64 (((⟨#[10]⟩ : ByteArray)).size : Int), .nilIface]) (φ := fun _ => True) (K' := fun _ => (fun _ => True)) (L' := fun g => [(g5, 20, [.iface 9 (.string ⟨#[108, 101, 103]⟩), .iface 9 (.string xv), .iface 3 (.int .i64 oa), .iface 9 (.string os), .iface 3 (.int .i64 om), .iface 3 (.int .i64 of_)]), (g4, 135, [.string xv, .int .i64 oa, .string os, .int .i64 om, .int .i64 of_, .int .i64 ia, .string is_, .int .i64 im, .int .i64 if_]), (g2, 128, [.pointer (some ⟨g2, 0, none⟩), g])]) (O' := fun g => [⟨g, 5, 1, (Lib.byteCells (hirTxL (⟨k, d, f, t2, ls⟩ : Hr) (ls.take i)) ++ Lib.strCells (hirLegJ (⟨xv, ⟨oa, os, om, of_⟩, ⟨ia, is_, im, if_⟩⟩ : Lg)) ++ Lib.strCells (⟨#[10]⟩ : ByteArray)).length, Lib.byteCells (hirTxL (⟨k, d, f, t2, ls⟩ : Hr) (ls.take i)) ++ Lib.strCells (hirLegJ (⟨xv, ⟨oa, os, om, of_⟩, ⟨ia, is_, im, if_⟩⟩ : Lg)) ++ Lib.strCells (⟨#[10]⟩ : ByteArray)⟩]) (X' := fun _ => [SlOld lgEnc 9 135 w.heap.size none (some ⟨b, off, none⟩) n ls, TxtO w.heap.size none]) rfl cb72 rfl rfl (fun wx hm => (writeStringK w.heap.size g2 (Lib.byteCells (hirTxL (⟨k, d, f, t2, ls⟩ : Hr) (ls.take i)) ++ Lib.strCells (hirLegJ (⟨xv, ⟨oa, os, om, of_⟩, ⟨ia, is_, im, if_⟩⟩ : Lg))) (⟨#[10]⟩ : ByteArray) wx (hm.isB 2 0 rfl rfl (.inr rfl)) (by simp only [List.length_append, Lib.strCells_length, Lib.byteCells_length]; (try simp only [ByteArray.size_append]); omega) hm.g.size).mono fun e w' ⟨he, h1, hb, hk⟩ => by
   obtain ⟨v, hM⟩ := hm.builtK 2 rfl (tys_ne rfl) h1 hb hk (oldX_cons (i := 0) SlOld.oldF rfl (oldX_cons (i := 1) TxtO.oldF rfl oldX_nil))
   exact ⟨v, he, trivial, hM⟩) ?_
  rintro vv5 _
  refine wl_nil (nx_blk_nrm (nx_then (gw_region (ad_ rfl rfl (mv_ rfl (wl_nil ?_))))))
  rw [show Lib.byteCells (hirTxL (⟨k, d, f, t2, ls⟩ : Hr) (ls.take i)) ++ Lib.strCells (hirLegJ (⟨xv, ⟨oa, os, om, of_⟩, ⟨ia, is_, im, if_⟩⟩ : Lg)) ++ Lib.strCells (⟨#[10]⟩ : ByteArray) = Lib.byteCells (hirTxL (⟨k, d, f, t2, ls⟩ : Hr) (ls.take (i + 1))) from by rw [hb_two, hatL, hirLeg_no (g := (⟨xv, ⟨oa, os, om, of_⟩, ⟨ia, is_, im, if_⟩⟩ : Lg)) h6]]
  exact nx_round (i + 1, vv5) (by dsimp only; omega) (by dsimp only; omega) ⟨rfl, rfl, rfl, rfl, rfl, (some_int (by omega)), trivial⟩ (fun _ hm => hm.pick [2] [0] [0, 1] rfl rfl)
 have hi : ¬ (((i : Nat) : Int) < ((n : Nat) : Int)) := by simpa using hh
 clear hh
 refine gw_exit ?_
 refine nx_then_exit (nx_then_exit ?_)
 refine nx_blk_here ?_
 refine nx_then (sr_ ?_)
 have hlt : ls.take i = ls := List.take_of_length_le (by omega)
 rw [hlt]
 refine wl_callG (γ := Unit) (val := fun _ => .string (hirTx (⟨k, d, f, t2, ls⟩ : Hr) ls)) (φ := fun _ => True) (K' := fun _ => (fun _ => True)) (L' := fun _ => []) (O' := fun _ => []) (X' := fun _ => [SlOld lgEnc 9 135 w.heap.size none A n ls, TxtO w.heap.size none]) rfl cb74 rfl rfl (fun wx hm => (string_any w.heap.size g2 (hirTxL (⟨k, d, f, t2, ls⟩ : Hr) ls) wx (hm.isB 0 0 rfl rfl (.inr rfl)) hm.g.size).mono fun e w' ⟨he, hb⟩ => ⟨(), he, trivial, hm.belowX hb (oldX_cons (i := 0) SlOld.oldF rfl (oldX_cons (i := 1) TxtO.oldF rfl oldX_nil))⟩) ?_
 rintro _ _
 refine sg_ rfl (sg_ rfl (nn_ ?_))
 refine gw_ret ?_
 refine nx_ret2 rfl rfl rfl fun wx hm => ?_
 exact ⟨rfl, hm.g⟩
end Go.Proofs.YtempjmpfdniecaaGreatDoor
namespace Go.Proofs.YtempjmpfdniecaaGreatDoor
structure Cs where
  key : ByteArray
  up : ByteArray
end Go.Proofs.YtempjmpfdniecaaGreatDoor
namespace Go.Proofs.YtempjmpfdniecaaGreatDoor
open Go.RowKit
structure Vh where
  key : ByteArray
  cls : ByteArray
structure Pl where
  fr : Int
  veh : ByteArray
  plate : ByteArray
theorem cmpS_neg {a b : ByteArray} : cmpS a b < 0 ↔ Go.Op.bytesLess a.toList b.toList = true := by
  unfold cmpS
  constructor
  · intro h
    by_cases h1 : Go.Op.bytesLess a.toList b.toList = true
    · exact h1
    · rw [if_neg h1] at h
      split at h <;> omega
  · intro h; rw [if_pos h]; decide
end Go.Proofs.YtempjmpfdniecaaGreatDoor
namespace Go.Proofs.YtempjmpfdniecaaGreatDoor
open Go.RowKit
/-- A station as cells: a key and fourteen numbers. -/
def stCells (key : ByteArray) (hs : List Int) : List Value := .string key :: hs.map (Value.int .i64)
theorem st_one (key : ByteArray) (hs : List Int) : ∀ v ∈ stCells key hs, v.oneCell' = true := by
  intro v hv
  simp only [stCells, List.mem_cons] at hv
  rcases hv with rfl | hv
  · rfl
  · exact ints_one _ v hv
theorem info_st : (Tryz.prog.info? 152).map (·.size) = some 15 := by kernel_rfl
theorem info_win : (Tryz.prog.info? 27).map (·.size) = some 2 := by kernel_rfl
theorem st_len (key : ByteArray) (hs : List Int) (h : hs.length = 14) : (stCells key hs).length = 15 := by simp [stCells, h]
theorem info_hours : (Tryz.prog.info? 150).map (·.size) = some 14 := by kernel_rfl
end Go.Proofs.YtempjmpfdniecaaGreatDoor
namespace Go.Proofs.YtempjmpfdniecaaGreatDoor
open Go.RowKit
def stEnc (s : St) : List Value := stCells s.key s.hs
def StOk (s : St) : Prop := s.hs.length = 14 ∧ s.key.size ≤ 1000000 ∧ ∀ h ∈ s.hs, -9223372036854775808 ≤ h ∧ h ≤ 9223372036854775807
theorem hrs_pair (hs : List Int) (j : Nat) (h : j * 2 + 1 < hs.length) : ((hs.map (Value.int .i64)).drop (j * 2)).take 2 = [.int .i64 (frAt hs j), .int .i64 (toAt hs j)] := by
  have h0 : j * 2 < (hs.map (Value.int .i64)).length := by simp; omega
  have h1 : j * 2 + 1 < (hs.map (Value.int .i64)).length := by simp; omega
  rw [List.drop_eq_getElem_cons h0, List.drop_eq_getElem_cons h1]
  simp [frAt, toAt, List.getD_eq_getElem?_getD, List.getElem?_eq_getElem (show j * 2 < hs.length by omega), List.getElem?_eq_getElem h]
set_option maxRecDepth 100000 in
set_option maxHeartbeats 1000000 in
theorem checkStations_any (l : List St) (A : Option Addr) (n c : Nat) (w : World) (hl : SlT stEnc 15 152 w A n l) (hok : ∀ s ∈ l, StOk s) (hn : n ≤ 1000000) :
    Calls Tryz.prog 207 #[.slice A n c] w fun e w' => e = .returned (.int .i64 (stationsE l)) ∧ w.grownBy w' none := by
  by_cases h50 : 50 < n
  · have hsp : stationsE l = 2 := by simp [stationsE, hl.len, h50]
    have Hsp := Lib.hid hsp; clear hsp
    go_enter Tryz.func207, Tryz.ntmps207
    go_wp2_with fail
    go_ret
    exact ⟨by rw [Hsp.out]; rfl, World.grownBy.refl _ _⟩
  · have hsp : stationsE l = scanE stationE (prevOf l 0) (l.drop 0) := by simp [stationsE, hl.len, h50, prevOf]
    have Hsp := Lib.hid hsp; clear hsp
    have hd : decide ((50 : Int) < (n : Int)) = false := by simp; omega
    go_enter Tryz.func207, Tryz.ntmps207
    go_wp2_with fail
    go_loopw [12] (fun i wr => ∃ k : Nat, k ≤ n ∧ i = .int .i64 k ∧ stationsE l = scanE stationE (prevOf l k) (l.drop k) ∧ w.grownBy wr none) (fun i _ => n - (intOf i).toNat)
    case atStart => exact ⟨0, Nat.zero_le _, rfl, Hsp.out, World.grownBy.refl _ _⟩
    case round =>
      obtain ⟨k, hk, rfl, hE, hgr⟩ := hrel
      have HE := Lib.hid hE; clear hE
      by_cases hlt : k < n
      · have hlr := hl.grow0 hgr
        obtain ⟨b, off, rfl, hbl, hrg⟩ := hlr.get (by omega)
        obtain ⟨x, hx⟩ : ∃ x, l[k]? = some x := ⟨_, List.getElem?_eq_getElem (by have := hl.len; omega)⟩
        have hxo := hok x (List.mem_of_getElem? hx)
        have hrx := hrg k x hx
        have hat := scanE_at stationE l k x hx
        have Hat := Lib.hid hat; clear hat
        have Hrg := Lib.hid hrg; clear hrg
        obtain ⟨key, hs⟩ := x
        have hrx : wr.rangeAt b (off + k * 15) (stCells key hs) := hrx
        have hl14 := Lib.hid (show hs.length = 14 from hxo.1)
        have hks : key.size ≤ 1000000 := hxo.2.1
        have hhb : ∀ h ∈ hs, -9223372036854775808 ≤ h ∧ h ≤ 9223372036854775807 := hxo.2.2
        have hln := fun (_ : True) => (st_len key hs hl14.out)
        have hst : (Tryz.prog.info? 152).map (·.size) = some (stCells key hs).length := by rw [hln trivial]; exact info_st
        have Hst := Lib.hid hst; clear hst hxo hln
        have hnew : Blk (wr.alloc (.cells #[.string ⟨#[]⟩, .int .i64 0, .int .i64 0, .int .i64 0, .int .i64 0, .int .i64 0, .int .i64 0, .int .i64 0, .int .i64 0, .int .i64 0, .int .i64 0, .int .i64 0, .int .i64 0, .int .i64 0, .int .i64 0] 152)) wr.heap.size 152 (stCells (⟨#[]⟩ : ByteArray) (List.replicate 14 0)) := Blk.at_ wr rfl _ _
        go_wp2_with (first
          | (with_reducible refine wpList_load_mid rfl 152 (.tmp 15) rfl b (off + k * 15) rfl (stCells key hs) _ hrx Tryz.underlying152 rfl Hst.out ?_)
          | (with_reducible refine wpList_store_all rfl 152 (.tmp 4) (.tmp 16) rfl wr.heap.size _ _ (stCells key hs) hnew rfl rfl 15 info_st (st_len _ _ hl14.out) (st_len _ _ (by simp)) (st_one _ _) ?_
             intro w1 hb1 hg1
             have hk1 : w1.cell? ⟨wr.heap.size, 0, none⟩ = some (.string key) := hb1.cell_of rfl))
        refine (isKey_any key _ (by omega)).mono ?_
        rintro e w2 ⟨rfl, rfl⟩
        have hgr1 : w.grownBy w1 none := grow_own (grow_alloc hgr _) hg1 (by simpa using hgr.size)
        have hgw : wr.grownBy w1 none := grow_own (grow_alloc (World.grownBy.refl _ _) _) hg1 (by simp)
        clear hrx hnew hg1
        by_cases hkey : keyB key = false
        · have h5 : stationE (prevOf l k) ⟨key, hs⟩ = 5 := by simp [stationE, hkey]
          have H5 := Lib.hid h5; clear h5
          go_wp2_with fail
          go_ret
          exact ⟨by rw [HE.out, Hat.out, if_neg (by rw [H5.out]; decide), H5.out]; rfl, hgr1⟩
        · have hkey : keyB key = true := by simpa using hkey
          obtain ⟨o8, ho8⟩ : ∃ o, o = prevB (prevOf l k) (fun q => leB key q.key) := ⟨_, rfl⟩
          have Ho8 := Lib.hid ho8; clear ho8
          go_upto_region 8 with fail
          go_cut [22] (fun v wx => v = .bool o8 ∧ ∃ nq, wx = w1.drewN nq)
          case first =>
            by_cases hk0 : k = 0
            · have hz : decide ((0 : Int) < (k : Int)) = false := by simp; omega
              have hz2 : decide (0 < k) = false := by simp; omega
              have ho : o8 = false := by rw [Ho8.out]; simp [prevB, prevOf, hk0]
              have Ho := Lib.hid ho
              clear ho hk0
              go_quiet (fail)
              go_wp2_with fail
              go_meet
              exact ⟨by rw [Ho.out], _, rfl⟩
            · have hz : (0 : Int) < (k : Int) := by omega
              have hz2 : decide (0 < k) = true := decide_eq_true (by omega)
              obtain ⟨q, hq⟩ : ∃ q, l[k - 1]? = some q := ⟨_, List.getElem?_eq_getElem (by have := hl.len; omega)⟩
              have hrq := Hrg.out (k - 1) q hq
              have ho : o8 = leB key q.key := by rw [Ho8.out]; simp [prevB, prevOf, hk0, hq]
              have Ho := Lib.hid ho
              have hqk : wr.cell? ⟨b, off + (k - 1) * 15, none⟩ = some (.string q.key) := hrq 0 _ rfl
              have hki : (k : Int) - 1 = ((k - 1 : Nat) : Int) := by omega
              have hk1n : (k : Int) - 1 < (n : Int) := by omega
              have hqk1 : w1.cell? ⟨b, off + (k - 1) * 15, none⟩ = some (.string q.key) := (World.cell?_of_block (hgw.block b hbl (by simp))).trans hqk
              clear ho hk0 hq hrq
              go_quiet (fail)
              go_wp2_with fail
              go_meet
              exact ⟨by rw [Ho.out]; rfl, _, rfl⟩
          case rest =>
            obtain ⟨rfl, nq, rfl⟩ := hcut
            have hb2 : Blk (w1.drewN nq) wr.heap.size 152 (stCells key hs) := hb1.drewN nq
            have hgr2 : w.grownBy (w1.drewN nq) none := grow_drewN hgr1 nq
            clear hb1 hgr1 hgw
            obtain ⟨w2, hw2⟩ : ∃ w2, w2 = w1.drewN nq := ⟨_, rfl⟩
            rw [← hw2] at hb2 hgr2 ⊢
            clear hw2
            cases o8
            · have hE1 : stationE (prevOf l k) ⟨key, hs⟩ = if hoursBad hs then 1 else 0 := by
                have ho := Ho8.out
                unfold stationE
                rw [if_neg (by simp [hkey]), show prevB (prevOf l k) (fun q => leB (⟨key, hs⟩ : St).key q.key) = _ from ho.symm]
                rfl
              have HE1 := Lib.hid hE1; clear hE1
              have hvv : ∀ j v, (hs.map (Value.int .i64))[j]? = some v → (stCells key hs)[1 + j]? = some v := fun j v hv => by rw [Nat.add_comm]; exact hv
              have Hvv := Lib.hid hvv; clear hvv
              go_wp2_with (with_reducible refine wpList_load_blk rfl 150 (.tmp 36) rfl wr.heap.size 1 _ (stCells key hs) (hs.map (Value.int .i64)) _ hb2 rfl Tryz.underlying150 rfl 14 info_hours (by simpa using hl14.out) Hvv.out ?_)
              obtain ⟨wo, hwo⟩ : ∃ wo : World, wo = wr := ⟨_, rfl⟩
              rw [← hwo] at hb2 ⊢
              clear hwo
              go_loopw [38] (fun i wr => ∃ j : Nat, j ≤ 7 ∧ i = .int .i64 j ∧ (∀ t, t < j → winBad (frAt hs t) (toAt hs t) = false) ∧ w.grownBy wr none) (fun i _ => 7 - (intOf i).toNat)
              case atStart => exact ⟨0, by omega, rfl, fun t ht => absurd ht (by omega), hgr2⟩
              case round =>
                obtain ⟨j, hj, rfl, hJ, hgj⟩ := hrel
                have HJ := Lib.hid hJ; clear hJ
                by_cases hj7 : j < 7
                · have hvs : ((hs.map (Value.int .i64)).drop (j * 2)).take 2 = [.int .i64 (frAt hs j), .int .i64 (toAt hs j)] := hrs_pair hs j (by have := hl14.out; omega)
                  have Hvs := Lib.hid hvs; clear hvs
                  obtain ⟨f, hf⟩ : ∃ f, f = frAt hs j := ⟨_, rfl⟩
                  obtain ⟨t, ht⟩ : ∃ t, t = toAt hs j := ⟨_, rfl⟩
                  rw [← hf, ← ht] at Hvs
                  have Hf := Lib.hid hf
                  have Ht := Lib.hid ht
                  clear hf ht
                  go_wp2_with (with_reducible refine wpList_index_row rfl 150 (.tmp 37) (.tmp 38) rfl (hs.map (Value.int .i64)) j rfl rfl 7 _ Tryz.underlying150 _ Tryz.underlying27 rfl 2 info_win hj7 [.int .i64 f, .int .i64 t] Hvs.out ?_)
                  refine (in_any _ _ _ _).mono ?_
                  rintro e w3 ⟨rfl, rfl⟩
                  obtain ⟨x, hx⟩ : ∃ x, inB f 0 t = x := ⟨_, rfl⟩
                  rw [hx]
                  have Hx := Lib.hid hx; clear hx
                  by_cases hbad : winBad f t = true
                  · have hany : hoursBad hs = true := by
                      simp only [hoursBad, List.any_eq_true, List.mem_range]
                      exact ⟨j, hj7, by rw [← Hf.out, ← Ht.out]; exact hbad⟩
                    have Hfin := Lib.hid (show stationE (prevOf l k) ⟨key, hs⟩ = 1 by rw [HE1.out, if_pos hany])
                    have Hb := Lib.hid hbad
                    clear hany hbad
                    cases x
                    · go_wp2_with fail
                      go_ret
                      exact ⟨by rw [HE.out, Hat.out, if_neg (by rw [Hfin.out]; decide), Hfin.out]; rfl, grow_alloc hgj _⟩
                    · have h14 : (1440 : Int) < t := by have := Hb.out; simp [winBad, Hx.out] at this; exact this
                      go_wp2_with fail
                      go_ret
                      exact ⟨by rw [HE.out, Hat.out, if_neg (by rw [Hfin.out]; decide), Hfin.out]; rfl, grow_alloc hgj _⟩
                  · have hx1 : x = true := by have := Hx.out; simp only [winBad, this] at hbad; cases x <;> simp_all
                    have h14 : ¬ (1440 : Int) < t := by intro h; apply hbad; simp [winBad, h]
                    have Hb := Lib.hid (show winBad f t = false by simpa using hbad)
                    subst hx1
                    clear hbad
                    go_wp2_with fail
                    go_roundw
                    case rel => exact ⟨j + 1, by omega, by go_num, fun i hi => by
                      rcases Nat.lt_or_ge i j with h | h
                      · exact HJ.out i h
                      · obtain rfl : i = j := by omega
                        rw [← Hf.out, ← Ht.out]; exact Hb.out, grow_alloc hgj _⟩
                    case measure => simp [intOf]; omega
                · have hno : hoursBad hs = false := by
                    simp only [hoursBad, List.any_eq_false, List.mem_range]
                    intro i hi
                    rw [HJ.out i (by omega)]
                    decide
                  have Hfin := Lib.hid (show stationE (prevOf l k) ⟨key, hs⟩ = 0 by rw [HE1.out, if_neg (by simp [hno])])
                  clear hno
                  go_wp2_with fail
                  go_roundw
                  case rel => exact ⟨k + 1, by omega, by go_num, by rw [HE.out, Hat.out, if_pos Hfin.out], hgj⟩
                  case measure => simp [intOf]; omega
            · have hE1 : stationE (prevOf l k) ⟨key, hs⟩ = 7 := by
                have ho := Ho8.out
                unfold stationE
                rw [if_neg (by simp [hkey]), show prevB (prevOf l k) (fun q => leB (⟨key, hs⟩ : St).key q.key) = _ from ho.symm]
                rfl
              have Hfin := Lib.hid hE1; clear hE1
              go_wp2_with fail
              go_ret
              exact ⟨by rw [HE.out, Hat.out, if_neg (by rw [Hfin.out]; decide), Hfin.out]; rfl, hgr2⟩
      · go_wp2_with fail
        go_ret
        exact ⟨by rw [HE.out, scanE_end _ _ _ _ (by have := hl.len; omega)]; rfl, hgr⟩
end Go.Proofs.YtempjmpfdniecaaGreatDoor
namespace Go.Proofs.YtempjmpfdniecaaGreatDoor
open Go.RowKit
structure Ev where
  at_ : Int
  veh : ByteArray
  sta : ByteArray
  kd : Int
  to_ : ByteArray
def evEnc (x : Ev) : List Value := [.int .i64 x.at_, .string x.veh, .string x.sta, .int .i64 x.kd, .string x.to_]
theorem ev_len (x : Ev) : (evEnc x).length = 5 := rfl
def EvOk (x : Ev) : Prop := (-4000000000000000000 ≤ x.at_ ∧ x.at_ ≤ 4000000000000000000) ∧ (-4000000000000000000 ≤ x.kd ∧ x.kd ≤ 4000000000000000000) ∧ x.veh.size ≤ 1000000 ∧ x.sta.size ≤ 1000000 ∧ x.to_.size ≤ 1000000
def evOrd (a b : Ev) : Int := firstE [cmpI a.at_ b.at_, cmpS a.veh b.veh]
theorem cmpI_neg {a b : Int} : cmpI a b < 0 ↔ a < b := by unfold cmpI; split <;> (try split) <;> omega
theorem cmpI_zero {a b : Int} : cmpI a b = 0 ↔ a = b := by unfold cmpI; split <;> (try split) <;> omega
theorem evOrd_neg {a b : Ev} : evOrd a b < 0 ↔ a.at_ < b.at_ ∨ (a.at_ = b.at_ ∧ Go.Op.bytesLess a.veh.toList b.veh.toList = true) := by
  unfold evOrd
  by_cases h : cmpI a.at_ b.at_ = 0
  · have e := cmpI_zero.1 h
    have e2 : firstE [cmpI a.at_ b.at_, cmpS a.veh b.veh] = cmpS a.veh b.veh := by
      by_cases h2 : cmpS a.veh b.veh = 0
      · simp [firstE, h, h2]
      · simp only [firstE, if_pos h, if_neg h2]
    rw [e2, cmpS_neg]
    exact ⟨fun h4 => .inr ⟨e, h4⟩, fun h4 => by
      rcases h4 with h4 | h4
      · omega
      · exact h4.2⟩
  · have e2 : firstE [cmpI a.at_ b.at_, cmpS a.veh b.veh] = cmpI a.at_ b.at_ := by simp [firstE, h]
    rw [e2, cmpI_neg]
    have : a.at_ ≠ b.at_ := fun e => h (cmpI_zero.2 e)
    exact ⟨.inl, fun h4 => by
      rcases h4 with h4 | h4
      · exact h4
      · exact absurd h4.1 this⟩
theorem evOrd_zero {a b : Ev} : evOrd a b = 0 ↔ a.at_ = b.at_ ∧ a.veh = b.veh := by
  unfold evOrd
  by_cases h : cmpI a.at_ b.at_ = 0
  · have e := cmpI_zero.1 h
    have e2 : firstE [cmpI a.at_ b.at_, cmpS a.veh b.veh] = cmpS a.veh b.veh := by
      by_cases h2 : cmpS a.veh b.veh = 0
      · simp [firstE, h, h2]
      · simp only [firstE, if_pos h, if_neg h2]
    rw [e2]
    exact ⟨fun h3 => ⟨e, bytes_ext (cmpS_zero.1 h3).2⟩, fun h3 => cmpS_zero.2 ⟨by rw [h3.2]; exact bl_irrefl _, by rw [h3.2]⟩⟩
  · have e2 : firstE [cmpI a.at_ b.at_, cmpS a.veh b.veh] = cmpI a.at_ b.at_ := by simp [firstE, h]
    rw [e2]
    exact ⟨fun h3 => absurd h3 h, fun h3 => absurd (cmpI_zero.2 h3.1) h⟩
theorem evOrd_trans {a b d : Ev} (h1 : evOrd a b < 0) (h2 : evOrd b d < 0) : evOrd a d < 0 := by
  rw [evOrd_neg] at *
  rcases h1 with h1 | ⟨h1, h3⟩ <;> rcases h2 with h2 | ⟨h2, h4⟩
  · exact .inl (by omega)
  · exact .inl (by omega)
  · exact .inl (by omega)
  · exact .inr ⟨by omega, bl_trans h3 h4⟩
theorem evOrd_irrefl {a : Ev} : ¬ evOrd a a < 0 := by
  rw [evOrd_neg]
  rintro (h | ⟨_, h⟩)
  · omega
  · rw [bl_irrefl] at h; cases h
theorem evOrd_total {a b : Ev} (h : ¬ evOrd a b < 0) (h0 : evOrd a b ≠ 0) : evOrd b a < 0 := by
  rw [evOrd_neg] at *
  rw [Ne, evOrd_zero] at h0
  rcases Int.lt_trichotomy a.at_ b.at_ with h1 | h1 | h1
  · exact absurd (.inl h1) h
  · refine .inr ⟨h1.symm, ?_⟩
    cases h2 : Go.Op.bytesLess b.veh.toList a.veh.toList with
    | true => rfl
    | false =>
      cases h3 : Go.Op.bytesLess a.veh.toList b.veh.toList with
      | true => exact absurd (.inr ⟨h1, h3⟩) h
      | false => exact absurd ⟨h1, bytes_ext (bl_tri h3 h2)⟩ h0
  · exact .inl h1
end Go.Proofs.YtempjmpfdniecaaGreatDoor
namespace Go.Proofs
open Go.Shelf
def Tryz.lays106_ren : Go.Shelf.Ren := ⟨fun | 106 => 87 | 213 => 185 | 265 => 252 | n => n, fun | 9 => 9 | 3 => 3 | n => n, fun | n => n⟩
theorem Tryz.lays106 : Go.Proofs.Lays.n106 Tryz.prog Tryz.lays106_ren := {
  mixed := by kernel_rfl
  f106 := Tryz.func87.trans (congrArg some (by kernel_rfl))
  f213 := Tryz.func185.trans (congrArg some (by kernel_rfl))
  f265 := Tryz.func252.trans (congrArg some (by kernel_rfl))
  t3 := Tryz.underlying3
  a3 := Tryz.isAgg3
  z3 := Tryz.sizeOf3
  v3 := Tryz.zeroValue3
  t9 := Tryz.underlying9
  a9 := Tryz.isAgg9
  z9 := Tryz.sizeOf9
  v9 := Tryz.zeroValue9 }
end Go.Proofs
namespace Go.Proofs.YtempjmpfdniecaaGreatDoor
open Go.RowKit
theorem cmpB_eq : ∀ a b : List UInt8, Lib.compareBytes a b = if Go.Op.bytesLess a b = true then -1 else if (Go.Op.bytesLess a b || a == b) = false then 1 else 0
  | [], [] => rfl
  | [], b :: y => by simp [Lib.compareBytes, Go.Op.bytesLess]
  | a :: x, [] => by simp [Lib.compareBytes, Go.Op.bytesLess]
  | a :: x, b :: y => by
    have ih := cmpB_eq x y
    unfold Lib.compareBytes Go.Op.bytesLess
    by_cases h1 : a < b
    · simp [h1]
    · by_cases h2 : b < a
      · have h3 : ¬ a = b := fun e => by subst e; exact h1 h2
        simp [h1, h2, h3]
      · have h3 : a = b := by
          rcases Decidable.em (a = b) with h | h
          · exact h
          · rcases UInt8.lt_or_lt_of_ne h with h | h
            · exact absurd h h1
            · exact absurd h h2
        subst h3
        simp only [h1, if_false, ih, decide_false, Bool.false_or, beq_self_eq_true, Bool.true_and, List.cons_beq_cons]
theorem strCompare_any (a b : ByteArray) (w : World) : Calls Tryz.prog 87 #[.string a, .string b] w (fun e w' => e = .returned (.int .i64 (cmpS a b)) ∧ w.grownBy w' none) := by
  have hcon := Any.strings_Compare Tryz.lays106 a b w
  refine Calls.mono hcon ?_
  rintro e w' ⟨rfl, rfl⟩
  refine ⟨?_, World.grownBy.refl _ _⟩
  unfold cmpS
  rw [cmpB_eq, ByteArray.toList_eq, ByteArray.toList_eq]
end Go.Proofs.YtempjmpfdniecaaGreatDoor
namespace Go.Proofs.YtempjmpfdniecaaGreatDoor
open Go.RowKit
theorem b_ne_self (a : ByteArray) : (!(a.toList == a.toList)) = false := by simp
theorem i_ne_self (a : Int) : (!decide (a = a)) = false := by simp
theorem nan_string (a : ByteArray) (w : World) : Calls Tryz.prog 184 #[.string a] w (fun e w' => e = .returned (.bool false) ∧ w.grownBy w' none) := by
 refine gw_enter ⟨6, w, none, []⟩ Tryz.func184 rfl Tryz.ntmps184 rfl (mem0 (X := []) allF_nil allL_nil) ?_
 refine sr_ (sg_ rfl (nn_ (sr_ (mv_ rfl (mv_ rfl (wl_ov (ov_sneq rfl rfl) rfl ?_))))))
 refine wl_set 5 (v' := .bool false) rfl (congrArg Value.bool (b_ne_self a)) ?_
 refine sg_ rfl (nn_ ?_)
 refine gw_ret ?_
 refine nx_ret1 rfl rfl fun wx hm => ?_
 exact ⟨rfl, hm.g⟩
theorem cmp_string (a b : ByteArray) (w : World) : Calls Tryz.prog 84 #[.string a, .string b] w (fun e w' => e = .returned (.int .i64 (cmpS a b)) ∧ w.grownBy w' none) := by
 refine gw_enter ⟨20, w, none, []⟩ Tryz.func84 rfl Tryz.ntmps84 rfl (mem0 (X := []) allF_nil allL_nil) ?_
 refine sr_ (sg_ rfl (nn_ (sr_ (mv_ rfl ?_))))
 refine wl_callv rfl cb184 rfl rfl (fun wx hm => (nan_string _ wx)) ?_
 refine sg_ rfl (nn_ (sr_ (mv_ rfl ?_)))
 refine wl_callv rfl cb184 rfl rfl (fun wx hm => (nan_string _ wx)) ?_
 refine sg_ rfl (nn_ (gw_seq (sr_ (mv_ rfl (nn_ (cf_ rfl (gw_skip (nx_then (gw_seq (gw_seq ?_))))))))))
 refine gw_region (mv_ rfl (nn_ (cf_ rfl (gw_skip (nx_then (gw_seq (sr_ (mv_ rfl (mv_ rfl ?_)))))))))
 refine wl_ov (ov_slss rfl rfl) rfl ?_
 refine nn_ ?_
 refine gw_cond rfl (fun hh => ?_) (fun hh => ?_)
 ·have h1 : (Op.bytesLess a.toList b.toList) = true := by simpa using hh
  clear hh
  refine sr_ (sg_ rfl ?_)
  refine wl_set 4 (v' := .int .i64 (-1)) rfl rfl ?_
  refine nn_ ?_
  refine gw_ret ?_
  refine nx_then_ret ?_
  refine nx_ret1 rfl rfl fun wx hm => ?_
  refine ⟨?_, hm.g⟩
  unfold cmpS; rw [if_pos h1]
 have h1 : (Op.bytesLess a.toList b.toList) = false := by simpa using hh
 clear hh
 refine gw_skip (nx_then (gw_seq (sr_ (mv_ rfl (mv_ rfl ?_)))))
 refine wl_ov (ov_sgtr rfl rfl) rfl ?_
 refine nn_ ?_
 refine gw_cond rfl (fun hh => ?_) (fun hh => ?_)
 ·have h2 : (Op.bytesLess a.toList b.toList || a.toList == b.toList) = false := by simpa only [Bool.not_eq_true', Bool.not_eq_false'] using hh
  clear hh
  refine sr_ (sg_ rfl (nn_ ?_))
  refine gw_ret ?_
  refine nx_then_ret ?_
  refine nx_ret1 rfl rfl fun wx hm => ?_
  refine ⟨?_, hm.g⟩
  unfold cmpS; rw [if_neg (by rw [h1]; decide), if_pos h2]
 have h2 : (Op.bytesLess a.toList b.toList || a.toList == b.toList) = true := by simpa only [Bool.not_eq_true', Bool.not_eq_false'] using hh
 clear hh
 refine gw_skip (nx_then (sr_ (sg_ rfl (nn_ ?_))))
 refine gw_ret ?_
 refine nx_ret1 rfl rfl fun wx hm => ?_
 refine ⟨?_, hm.g⟩
 unfold cmpS; rw [if_neg (by rw [h1]; decide), if_neg (by rw [h2]; decide)]
theorem nan_int (a : Int) (w : World) : Calls Tryz.prog 183 #[.int .i64 a] w (fun e w' => e = .returned (.bool false) ∧ w.grownBy w' none) := by
 refine gw_enter ⟨6, w, none, []⟩ Tryz.func183 rfl Tryz.ntmps183 rfl (mem0 (X := []) allF_nil allL_nil) ?_
 refine sr_ (sg_ rfl (nn_ (sr_ (mv_ rfl (mv_ rfl (wl_ov (ov_neq rfl rfl) rfl ?_))))))
 refine wl_set 5 (v' := .bool false) rfl (congrArg Value.bool (i_ne_self a)) ?_
 refine sg_ rfl (nn_ ?_)
 refine gw_ret ?_
 refine nx_ret1 rfl rfl fun wx hm => ?_
 exact ⟨rfl, hm.g⟩
theorem cmp_int (a b : Int) (w : World) : Calls Tryz.prog 83 #[.int .i64 a, .int .i64 b] w (fun e w' => e = .returned (.int .i64 (cmpI a b)) ∧ w.grownBy w' none) := by
 refine gw_enter ⟨20, w, none, []⟩ Tryz.func83 rfl Tryz.ntmps83 rfl (mem0 (X := []) allF_nil allL_nil) ?_
 refine sr_ (sg_ rfl (nn_ (sr_ (mv_ rfl ?_))))
 refine wl_callv rfl cb183 rfl rfl (fun wx hm => (nan_int _ wx)) ?_
 refine sg_ rfl (nn_ (sr_ (mv_ rfl ?_)))
 refine wl_callv rfl cb183 rfl rfl (fun wx hm => (nan_int _ wx)) ?_
 refine sg_ rfl (nn_ (gw_seq (sr_ (mv_ rfl (nn_ (cf_ rfl (gw_skip (nx_then (gw_seq (gw_seq ?_))))))))))
 refine gw_region (mv_ rfl (nn_ (cf_ rfl (gw_skip (nx_then (gw_seq (sr_ (mv_ rfl (mv_ rfl (wl_ov (ov_lss rfl rfl) rfl (wl_nil ?_)))))))))))
 refine nx_then ?_
 refine gw_cond rfl (fun hh => ?_) (fun hh => ?_)
 ·have h1 : a < b := by simpa using hh
  clear hh
  refine sr_ (sg_ rfl ?_)
  refine wl_set 4 (v' := .int .i64 (-1)) rfl rfl ?_
  refine nn_ ?_
  refine gw_ret ?_
  refine nx_then_ret ?_
  refine nx_ret1 rfl rfl fun wx hm => ?_
  refine ⟨?_, hm.g⟩
  unfold cmpI; rw [if_pos h1]
 have h1 : ¬ (a < b) := by simpa using hh
 clear hh
 refine gw_skip (nx_then (gw_seq (sr_ (mv_ rfl (mv_ rfl ?_)))))
 refine wl_ov (ov_gtr rfl rfl) rfl ?_
 refine nn_ ?_
 refine gw_cond rfl (fun hh => ?_) (fun hh => ?_)
 ·have h2 : b < a := by simpa using hh
  clear hh
  refine sr_ (sg_ rfl (nn_ ?_))
  refine gw_ret ?_
  refine nx_then_ret ?_
  refine nx_ret1 rfl rfl fun wx hm => ?_
  refine ⟨?_, hm.g⟩
  unfold cmpI; rw [if_neg h1, if_pos h2]
 have h2 : ¬ (b < a) := by simpa using hh
 clear hh
 refine gw_skip (nx_then (sr_ (sg_ rfl (nn_ ?_))))
 refine gw_ret ?_
 refine nx_ret1 rfl rfl fun wx hm => ?_
 refine ⟨?_, hm.g⟩
 unfold cmpI; rw [if_neg h1, if_neg h2]
theorem or_two (a b : Int) (g T c : Nat) (w : World) (h : Blk w g T [.int .i64 a, .int .i64 b]) : Calls Tryz.prog 82 #[.slice (some ⟨g, 0, none⟩) 2 c] w (fun e w' => e = .returned (.int .i64 (firstE [a, b])) ∧ w.grownBy w' none) := by
 refine gw_enter ⟨18, w, none, []⟩ Tryz.func82 rfl Tryz.ntmps82 rfl (mem0 (X := [BlkOld w.heap.size none g T [.int .i64 a, .int .i64 b] ]) (allF_cons h.old allF_nil) (allL_cons BlkOld.lasts allL_nil)) ?_
 refine sr_ (sg_ rfl (nn_ (sr_ (sg_ rfl (nn_ (gw_seq (sr_ (mv_ rfl ?_))))))))
 refine wl_ov (ov_len es22 rfl) rfl ?_
 refine wl_set 7 (v' := .int .i64 2) rfl rfl ?_
 refine mv_ rfl (nn_ (gw_block ?_))
 refine gw_rounds 3 ?_
 refine gr_next ?_
 refine sr_ (wl_ov (ov_lss rfl rfl) rfl ?_)
 refine wl_set 9 (v' := .bool true) rfl (congrArg Value.bool (by decide)) ?_
 refine nn_ (gw_seq (ct_ rfl (gw_skip (nx_then (gw_seq (gw_block (sr_ ?_)))))))
 refine wl_ov (ov_index (j := 0) es22 rfl rfl (by decide)) rfl ?_
 refine wl_ov (ov_load (v := .int .i64 a) sc3 rfl (fun _ hm => (hm.fact 0 rfl).2) rfl) rfl ?_
 refine sg_ rfl (nn_ (sr_ (mv_ rfl (mv_ rfl (wl_ov (ov_neq rfl rfl) rfl (nn_ ?_))))))
 refine gw_cond rfl (fun hh => ?_) (fun hh => ?_)
 ·have h1 : ¬ (a = 0) := by simpa using hh
  clear hh
  refine sr_ (mv_ rfl (sg_ rfl (nn_ ?_)))
  refine gw_ret ?_
  refine nx_blk_ret (nx_then_ret (nx_then_ret (nx_blk_ret (nx_then_ret ?_))))
  refine nx_ret1 rfl rfl fun wx hm => ?_
  refine ⟨?_, hm.g⟩
  rw [firstE_pair, if_neg h1]
 have h1 : a = 0 := by simpa using hh
 clear hh
 refine gw_skip (nx_blk_nrm (nx_then (gw_region (ad_ rfl rfl ?_))))
 refine wl_set 16 (v' := .int .i64 1) rfl rfl ?_
 refine mv_ rfl (wl_nil ?_)
 refine nx_next ?_
 refine gr_next ?_
 refine sr_ (wl_ov (ov_lss rfl rfl) rfl ?_)
 refine wl_set 9 (v' := .bool true) rfl (congrArg Value.bool (by decide)) ?_
 refine nn_ (gw_seq (ct_ rfl (gw_skip (nx_then (gw_seq (gw_block (sr_ ?_)))))))
 refine wl_ov (ov_index (j := 1) es22 rfl rfl (by decide)) rfl ?_
 refine wl_ov (ov_load (v := .int .i64 b) sc3 rfl (fun _ hm => (hm.fact 0 rfl).2) rfl) rfl ?_
 refine sg_ rfl (nn_ (sr_ (mv_ rfl (mv_ rfl (wl_ov (ov_neq rfl rfl) rfl (nn_ ?_))))))
 refine gw_cond rfl (fun hh => ?_) (fun hh => ?_)
 ·have h2 : ¬ (b = 0) := by simpa using hh
  clear hh
  refine sr_ (mv_ rfl (sg_ rfl (nn_ ?_)))
  refine gw_ret ?_
  refine nx_blk_ret (nx_then_ret (nx_then_ret (nx_blk_ret (nx_then_ret ?_))))
  refine nx_ret1 rfl rfl fun wx hm => ?_
  refine ⟨?_, hm.g⟩
  rw [firstE_pair, if_pos h1]
 have h2 : b = 0 := by simpa using hh
 clear hh
 refine gw_skip (nx_blk_nrm (nx_then (gw_region (ad_ rfl rfl ?_))))
 refine wl_set 16 (v' := .int .i64 2) rfl rfl ?_
 refine mv_ rfl (wl_nil ?_)
 refine nx_next ?_
 refine gr_next ?_
 refine sr_ (wl_ov (ov_lss rfl rfl) rfl ?_)
 refine wl_set 9 (v' := .bool false) rfl (congrArg Value.bool (by decide)) ?_
 refine nn_ (gw_seq (cf_ rfl ?_))
 refine gw_exit ?_
 refine nx_then_exit (nx_then_exit ?_)
 refine nx_blk_here ?_
 refine nx_then (sr_ (mv_ rfl (sg_ rfl (nn_ ?_))))
 refine gw_ret ?_
 refine nx_ret1 rfl rfl fun wx hm => ?_
 refine ⟨?_, hm.g⟩
 rw [firstE_pair, if_pos h1, h2]
end Go.Proofs.YtempjmpfdniecaaGreatDoor
namespace Go.Proofs.YtempjmpfdniecaaGreatDoor
open Go.RowKit
def sgV3 (n : Int) : Int := if n < 0 then -1 else if 0 < n then 1 else 0
theorem sign3_any (n : Int) (w : World) : Calls Tryz.prog 86 #[.int .i64 n] w (GotE w (sgV3 n)) := by
 refine gw_enter ⟨9, w, none, []⟩ Tryz.func86 rfl Tryz.ntmps86 rfl (mem0 (X := []) allF_nil allL_nil) ?_
 refine sr_ (sg_ rfl (nn_ (gw_seq (gw_block (sr_ (mv_ rfl (wl_ov (ov_lss rfl rfl) rfl (sg_ rfl (nn_ ?_)))))))))
 refine gw_cond rfl (fun hh => ?_) (fun hh => ?_)
 ·have h0 : n < 0 := by simpa using hh
  clear hh
  refine sr_ (sg_ rfl ?_)
  refine wl_set 2 (v' := .int .i64 (-1)) rfl rfl ?_
  refine nn_ ?_
  refine gw_ret ?_
  refine nx_blk_ret (nx_then_ret ?_)
  refine nx_ret1 rfl rfl fun wx hm => ?_
  exact ⟨ret_int (by unfold sgV3; simp [h0]), hm.g⟩
 have h0 : ¬ (n < 0) := by simpa using hh
 clear hh
 refine sr_ (mv_ rfl ?_)
 refine wl_ov (ov_gtr rfl rfl) rfl ?_
 refine sg_ rfl (nn_ ?_)
 refine gw_cond rfl (fun hh => ?_) (fun hh => ?_)
 ·have h1 : 0 < n := by simpa using hh
  clear hh
  refine sr_ (sg_ rfl (nn_ ?_))
  refine gw_ret ?_
  refine nx_blk_ret (nx_then_ret ?_)
  refine nx_ret1 rfl rfl fun wx hm => ?_
  exact ⟨ret_int (by unfold sgV3; simp [h0, h1]), hm.g⟩
 have h1 : ¬ (0 < n) := by simpa using hh
 clear hh
 refine gw_skip (nx_blk_nrm (nx_then (sr_ (sg_ rfl (nn_ ?_)))))
 refine gw_ret ?_
 refine nx_ret1 rfl rfl fun wx hm => ?_
 exact ⟨ret_int (by unfold sgV3; simp [h0, h1]), hm.g⟩
end Go.Proofs.YtempjmpfdniecaaGreatDoor
namespace Go.Proofs.YtempjmpfdniecaaGreatDoor
open Go.RowKit
theorem isBelow_lt {n v : Int} (h : IsBelow n v) (hn : 1 ≤ n) : 0 ≤ v ∧ v < n := by unfold IsBelow at h; omega
set_option maxHeartbeats 400000 in
theorem range_any (lo hi : Int) (w : World) (B sb m : Nat) (hS : Strm 25 w B sb m) (hm : m ≤ 1000000000000) (h1 : -4611686018427387904 ≤ lo) (h2 : hi ≤ 4611686018427387902) (h3 : lo ≤ 4611686018427387902) (h4 : -4611686018427387904 ≤ hi) :
    Calls Tryz.prog 26 #[.pointer (some ⟨sb, 0, none⟩), .int .i64 lo, .int .i64 hi] w (GotInt 25 w B sb (m + 1) (fun v => lo ≤ v ∧ (v ≤ hi ∨ v = lo))) := by
  by_cases hlt : hi < lo
  · go_enter Tryz.func26, Tryz.ntmps26
    go_wp2_with fail
    go_ret
    exact ⟨lo, ⟨by omega, .inr rfl⟩, rfl, hS.more (by omega), World.grownBy.refl _ _⟩
  · go_enter Tryz.func26, Tryz.ntmps26
    go_wp2_with fail
    refine (next_any _ _ B sb m hS hm (by omega) (by omega)).mono ?_
    rintro e w1 ⟨v, hv, rfl, hS1, hg1⟩
    have hv := isBelow_lt hv (by omega)
    go_wp2_with fail
    go_ret
    exact ⟨lo + v, ⟨by omega, .inl (by omega)⟩, rfl, hS1, hg1⟩
set_option maxHeartbeats 400000 in
theorem flip_any (n : Int) (w : World) (B sb m : Nat) (hS : Strm 25 w B sb m) (hm : m ≤ 1000000000000) (hn1 : -9223372036854775808 ≤ n) (hn2 : n ≤ 9223372036854775807) :
    Calls Tryz.prog 64 #[.pointer (some ⟨sb, 0, none⟩), .int .i64 n] w (GotBool 25 w B sb (m + 1)) := by
  go_enter Tryz.func64, Tryz.ntmps64
  go_wp2_with fail
  refine (next_any _ _ B sb m hS hm hn1 hn2).mono ?_
  rintro e w1 ⟨v, hv, rfl, hS1, hg1⟩
  go_wp2_with fail
  go_ret
  exact ⟨_, rfl, hS1, hg1⟩
set_option maxHeartbeats 400000 in
theorem pick_any (xs : List Int) (g c : Nat) (T : TypeId) (w : World) (B sb m : Nat) (hS : Strm 25 w B sb m) (hm : m ≤ 1000000000000) (hx : 0 < xs.length) (hx2 : xs.length ≤ 1000000) (hg : Blk w g T (xs.map (Value.int .i64))) (hne : g ≠ sb) :
    Calls Tryz.prog 11 #[.pointer (some ⟨sb, 0, none⟩), .slice (some ⟨g, 0, none⟩) xs.length c] w (GotInt 25 w B sb (m + 1) (fun v => v ∈ xs)) := by
  obtain ⟨n, hn⟩ : ∃ n, n = xs.length := ⟨_, rfl⟩
  rw [← hn] at hx hx2 ⊢
  have Hn := Lib.hid hn; clear hn
  go_enter Tryz.func11, Tryz.ntmps11
  go_wp2_with fail
  refine (next_any _ _ B sb m hS hm (by omega) (by omega)).mono ?_
  rintro e w1 ⟨v, hv, rfl, hS1, hg1⟩
  have hv := isBelow_lt hv (by omega)
  obtain ⟨i, rfl⟩ := Int.eq_ofNat_of_zero_le hv.1
  have hi : i < n := by omega
  have hgb := hg.grown hg1 (by simpa using hne)
  obtain ⟨x, hx⟩ : ∃ x, xs[i]? = some x := ⟨_, List.getElem?_eq_getElem (by have := Hn.out; omega)⟩
  have hc : w1.cell? ⟨g, i, none⟩ = some (.int .i64 x) := hgb.cell_of (by simp [hx])
  have hmem : x ∈ xs := List.mem_of_getElem? hx
  clear hx hgb
  go_wp2_with fail
  go_ret
  exact ⟨x, hmem, rfl, hS1, hg1⟩
set_option maxHeartbeats 400000 in
theorem some_any (xs : List ByteArray) (g c : Nat) (T : TypeId) (w : World) (B sb m : Nat) (hS : Strm 25 w B sb m) (hm : m ≤ 1000000000000) (hx : 0 < xs.length) (hx2 : xs.length ≤ 1000000) (hg : Blk w g T (xs.map Value.string)) (hne : g ≠ sb) :
    Calls Tryz.prog 49 #[.pointer (some ⟨sb, 0, none⟩), .slice (some ⟨g, 0, none⟩) xs.length c] w (GotStr 25 w B sb (m + 1) (fun v => v ∈ xs)) := by
  obtain ⟨n, hn⟩ : ∃ n, n = xs.length := ⟨_, rfl⟩
  rw [← hn] at hx hx2 ⊢
  have Hn := Lib.hid hn; clear hn
  go_enter Tryz.func49, Tryz.ntmps49
  go_wp2_with fail
  refine (next_any _ _ B sb m hS hm (by omega) (by omega)).mono ?_
  rintro e w1 ⟨v, hv, rfl, hS1, hg1⟩
  have hv := isBelow_lt hv (by omega)
  obtain ⟨i, rfl⟩ := Int.eq_ofNat_of_zero_le hv.1
  have hi : i < n := by omega
  have hgb := hg.grown hg1 (by simpa using hne)
  obtain ⟨x, hx⟩ : ∃ x, xs[i]? = some x := ⟨_, List.getElem?_eq_getElem (by have := Hn.out; omega)⟩
  have hc : w1.cell? ⟨g, i, none⟩ = some (.string x) := hgb.cell_of (by simp [hx])
  have hmem : x ∈ xs := List.mem_of_getElem? hx
  clear hx hgb
  go_wp2_with fail
  go_ret
  exact ⟨x, hmem, rfl, hS1, hg1⟩
set_option maxHeartbeats 400000 in
theorem odd_any (lo hi : Int) (w : World) (B sb m : Nat) (hS : Strm 25 w B sb m) (hm : m ≤ 900000000000) (h1 : -1000000000000000 ≤ lo) (h2 : hi ≤ 1000000000000000) (h3 : lo ≤ hi) :
    Calls Tryz.prog 88 #[.pointer (some ⟨sb, 0, none⟩), .int .i64 lo, .int .i64 hi] w (GotInt 25 w B sb (m + 2) (fun v => -2000000000000000 ≤ v ∧ v ≤ 2000000000000000)) := by
  go_enter Tryz.func88, Tryz.ntmps88
  go_wp2_with fail
  refine (flip_any _ _ B sb m hS (by omega) (by omega) (by omega)).mono ?_
  rintro e w1 ⟨b, rfl, hS1, hg1⟩
  rcases b with _ | _
  · go_wp2_with fail
    refine (range_any _ _ _ B sb (m + 1) hS1 (by omega) (by omega) (by omega) (by omega) (by omega)).mono ?_
    rintro e w2 ⟨v, hv, rfl, hS2, hg2⟩
    go_wp2_with fail
    go_ret
    exact ⟨v, by omega, rfl, hS2, grow_trans hg1 hg2⟩
  · go_wp2_with fail
    refine (pick_any [lo - 1, hi + 1, lo, hi, -1099511627776, 1099511627776] _ _ _ _ B sb (m + 1) (hS1.alloc _) (by omega) (by simp) (by simp) (Blk.new _ _ _) (by have := hS1.lt; omega)).mono ?_
    rintro e w2 ⟨v, hv, rfl, hS2, hg2⟩
    go_wp2_with fail
    go_ret
    refine ⟨v, by simp at hv; omega, rfl, hS2, grow_trans hg1 (grow_trans (grow_alloc (World.grownBy.refl _ _) _) hg2)⟩
end Go.Proofs.YtempjmpfdniecaaGreatDoor
namespace Go.Proofs.YtempjmpfdniecaaGreatDoor
open Go.RowKit
theorem list14 (hs : List Int) (h : hs.length = 14) : ∃ a0 a1 a2 a3 a4 a5 a6 a7 a8 a9 a10 a11 a12 a13, hs = [a0, a1, a2, a3, a4, a5, a6, a7, a8, a9, a10, a11, a12, a13] := by
  match hs, h with
  | [a0, a1, a2, a3, a4, a5, a6, a7, a8, a9, a10, a11, a12, a13], _ => exact ⟨a0, a1, a2, a3, a4, a5, a6, a7, a8, a9, a10, a11, a12, a13, rfl⟩
def hourFr (hs : List Int) (d : Int) : Int := d * 1440 + frAt hs (d % 7).toNat
def hourTo (hs : List Int) (d : Int) : Int := d * 1440 + toAt hs (d % 7).toNat
def GotWin (w : World) (a b : Int) (e : Ending) (w' : World) : Prop := e = .returned (.agg #[.int .i64 a, .int .i64 b]) ∧ w.grownBy w' none
set_option maxRecDepth 100000 in
set_option maxHeartbeats 1000000 in
theorem hours_any (key : ByteArray) (hs : List Int) (d : Int) (w : World) (hl : hs.length = 14) (hd0 : 0 ≤ d) (hd1 : d ≤ 1000000000) (hb : ∀ h ∈ hs, -1000000000000000000 ≤ h ∧ h ≤ 1000000000000000000) :
    Calls Tryz.prog 190 #[.agg (stCells key hs).toArray, .int .i64 d] w (GotWin w (hourFr hs d) (hourTo hs d)) := by
  obtain ⟨j, hj⟩ : ∃ j : Nat, (j : Int) = d % 7 := ⟨(d % 7).toNat, by omega⟩
  have hj7 : j < 7 := by omega
  have hF : hourFr hs d = d * 1440 + frAt hs j := by unfold hourFr; rw [← hj]; simp
  have hT : hourTo hs d = d * 1440 + toAt hs j := by unfold hourTo; rw [← hj]; simp
  have hf : -1000000000000000000 ≤ frAt hs j ∧ frAt hs j ≤ 1000000000000000000 := by
    unfold frAt; rw [List.getD_eq_getElem?_getD, List.getElem?_eq_getElem (by omega)]; exact hb _ (List.getElem_mem _)
  have ht : -1000000000000000000 ≤ toAt hs j ∧ toAt hs j ≤ 1000000000000000000 := by
    unfold toAt; rw [List.getD_eq_getElem?_getD, List.getElem?_eq_getElem (by omega)]; exact hb _ (List.getElem_mem _)
  rw [hF, hT]
  have hvs : ((hs.map (Value.int .i64)).drop (j * 2)).take 2 = [.int .i64 (frAt hs j), .int .i64 (toAt hs j)] := hrs_pair hs j (by omega)
  generalize frAt hs j = f at *
  generalize toAt hs j = t at *
  have hvv : ∀ i v, [Value.int .i64 f, Value.int .i64 t][i]? = some v → (stCells key hs)[1 + j * 2 + i]? = some v := fun i v hv => by
    rw [← hvs, List.getElem?_take] at hv
    split at hv
    · rw [List.getElem?_drop] at hv
      rw [show 1 + j * 2 + i = (j * 2 + i) + 1 by omega]
      exact hv
    · cases hv
  have Hvv := Lib.hid hvv
  have hj' : d % 7 = (j : Int) := hj.symm
  have hbox : Blk ((w.alloc (.cells (stCells key hs).toArray 152)).alloc (.cells #[.int .i64 0, .int .i64 0] 27)) w.heap.size 152 (stCells key hs) := (Blk.at_ w rfl _ _).alloc _
  clear hvv hvs hF hT hj
  go_enter Tryz.func190, Tryz.ntmps190
  go_wp2_with (with_reducible refine wpList_load_blk rfl 27 (.tmp 9) rfl w.heap.size (1 + j * 2) _ (stCells key hs) [.int .i64 f, .int .i64 t] _ hbox rfl Tryz.underlying27 rfl 2 info_win (by simp) Hvv.out ?_)
  refine bodyPost_ret (v := .agg #[.int .i64 (d * 1440 + f), .int .i64 (d * 1440 + t)]) (by simp [results, Tryz.results190, go_sem]) rfl ⟨rfl, ?_⟩
  exact grow_alloc (grow_alloc (grow_alloc (World.grownBy.refl _ _) _) _) _
theorem sl_one {key : ByteArray} {hs : List Int} {w : World} {g : Nat} (h : Blk w g 152 (stCells key hs)) : SlT stEnc 15 152 w (some ⟨g, 0, none⟩) 1 [⟨key, hs⟩] :=
  ⟨rfl, fun _ => ⟨g, 0, _, _, rfl, h, fun i x hx j v hv => by
    match i, hx with
    | 0, hx =>
      simp at hx; subst hx
      simpa [stEnc] using hv⟩⟩
set_option maxRecDepth 100000 in
set_option maxHeartbeats 1000000 in
theorem checkStation_any (key : ByteArray) (hs : List Int) (f : Int) (w : World) (hok : StOk ⟨key, hs⟩) :
    Calls Tryz.prog 188 #[.agg (stCells key hs).toArray, .int .i64 f] w fun e w' => e = .returned (.int .i64 (firstE [stationsE [⟨key, hs⟩], f])) ∧ w.grownBy w' none := by
  have hsl := fun (wz : World) (hz : wz.heap.size = w.heap.size + 1) => sl_one (Blk.at_ wz hz 152 (stCells key hs))
  have Hsl := Lib.hid hsl
  have Hok := Lib.hid hok
  clear hsl
  obtain ⟨a0, a1, a2, a3, a4, a5, a6, a7, a8, a9, a10, a11, a12, a13, rfl⟩ := list14 hs hok.1
  clear hok
  show Calls Tryz.prog 188 #[.agg #[.string key, .int .i64 a0, .int .i64 a1, .int .i64 a2, .int .i64 a3, .int .i64 a4, .int .i64 a5, .int .i64 a6, .int .i64 a7, .int .i64 a8, .int .i64 a9, .int .i64 a10, .int .i64 a11, .int .i64 a12, .int .i64 a13], .int .i64 f] w _
  go_enter Tryz.func188, Tryz.ntmps188
  go_wp2_with fail
  refine (checkStations_any [⟨key, [a0, a1, a2, a3, a4, a5, a6, a7, a8, a9, a10, a11, a12, a13]⟩] _ _ _ _ (Hsl.out (w.alloc (.cells #[.string key, .int .i64 a0, .int .i64 a1, .int .i64 a2, .int .i64 a3, .int .i64 a4, .int .i64 a5, .int .i64 a6, .int .i64 a7, .int .i64 a8, .int .i64 a9, .int .i64 a10, .int .i64 a11, .int .i64 a12, .int .i64 a13] 152)) (by simp)) (by intro s hs; simp at hs; subst hs; exact Hok.out) (by omega)).mono ?_
  rintro e w1 ⟨rfl, hg1⟩
  have hg1' : w.grownBy w1 none := grow_trans (grow_alloc (grow_alloc (World.grownBy.refl _ _) _) _) hg1
  obtain ⟨E, hE⟩ : ∃ E, E = stationsE [⟨key, [a0, a1, a2, a3, a4, a5, a6, a7, a8, a9, a10, a11, a12, a13]⟩] := ⟨_, rfl⟩
  rw [← hE]
  have HE := Lib.hid hE; clear hE
  go_wp2_with fail
  refine (first_any [E, f] _ _ _ _ (Blk.at_ _ rfl _ _) (by simp)).mono ?_
  rintro e w2 ⟨rfl, rfl⟩
  go_wp2_with fail
  go_ret
  exact ⟨by rw [← HE.out]; rfl, grow_alloc hg1' _⟩
def isOpenE (s : St) (at_ : Int) : Int := firstE [stationsE [s], momentE at_]
def isOpenV (s : St) (at_ : Int) : Bool := isOpenE s at_ == 0 && decide (hourFr s.hs (at_ / 1440) ≤ at_) && decide (at_ < hourTo s.hs (at_ / 1440))
end Go.Proofs.YtempjmpfdniecaaGreatDoor
namespace Go.Proofs.YtempjmpfdniecaaGreatDoor
open Go.RowKit
set_option maxRecDepth 100000 in
set_option maxHeartbeats 2000000 in
theorem lotOpen_any (key : ByteArray) (hs : List Int) (at_ : Int) (w : World) (hok : StOk ⟨key, hs⟩) (hb : ∀ h ∈ hs, -1000000000000000000 ≤ h ∧ h ≤ 1000000000000000000) :
    Calls Tryz.prog 94 #[.agg (stCells key hs).toArray, .int .i64 at_] w (RetBE w (isOpenV ⟨key, hs⟩ at_) (isOpenE ⟨key, hs⟩ at_)) := by
  have Hok := Lib.hid hok
  have Hb := Lib.hid hb
  clear hb
  obtain ⟨a0, a1, a2, a3, a4, a5, a6, a7, a8, a9, a10, a11, a12, a13, rfl⟩ := list14 hs hok.1
  clear hok
  show Calls Tryz.prog 94 #[.agg #[.string key, .int .i64 a0, .int .i64 a1, .int .i64 a2, .int .i64 a3, .int .i64 a4, .int .i64 a5, .int .i64 a6, .int .i64 a7, .int .i64 a8, .int .i64 a9, .int .i64 a10, .int .i64 a11, .int .i64 a12, .int .i64 a13], .int .i64 at_] w _
  go_enter Tryz.func94, Tryz.ntmps94
  go_wp2_with fail
  refine wp_region_still_tail 3 (by kernel_rfl) (by kernel_rfl) ?_
  change wpStill _ _ (World.drew _) _ _ _
  simp only [List.take_succ_cons, List.take_zero, List.drop_succ_cons, List.drop_zero]
  still_step
  still_step
  still_call ((moment_any at_ _).mono fun _ _ h => ⟨h.1, h.2.symm⟩)
  refine wpStill_nil ?_
  change wpList _ _ _ _ _ (World.drew _)
  go_wp2_with fail
  refine (checkStation_any key [a0, a1, a2, a3, a4, a5, a6, a7, a8, a9, a10, a11, a12, a13] _ _ Hok.out).mono ?_
  rintro e w1 ⟨rfl, hg1⟩
  obtain ⟨E, hE⟩ : ∃ E, E = isOpenE ⟨key, [a0, a1, a2, a3, a4, a5, a6, a7, a8, a9, a10, a11, a12, a13]⟩ at_ := ⟨_, rfl⟩
  rw [show firstE [stationsE [⟨key, [a0, a1, a2, a3, a4, a5, a6, a7, a8, a9, a10, a11, a12, a13]⟩], momentE at_] = E from hE.symm]
  have HE := Lib.hid hE; clear hE
  have hbox : Blk w1 w.heap.size 152 (stCells key [a0, a1, a2, a3, a4, a5, a6, a7, a8, a9, a10, a11, a12, a13]) := ((Blk.at_ w rfl _ _).drewN 1).grown hg1 (by simp)
  have hgw : w.grownBy w1 none := grow_trans (grow_drew (grow_alloc (World.grownBy.refl _ _) _)) hg1
  clear hg1
  by_cases h0 : E = 0
  · have hm := momentE_ok (firstE_two (HE.out.symm.trans h0)).2
    have hdv : at_.tdiv 1440 = at_ / 1440 := Int.tdiv_eq_ediv_of_nonneg hm.1
    have hd0 : 0 ≤ at_ / 1440 := by omega
    have hd1 : at_ / 1440 ≤ 1000000000 := by omega
    obtain ⟨d, hd⟩ : ∃ d, d = at_ / 1440 := ⟨_, rfl⟩
    have hV : isOpenV ⟨key, [a0, a1, a2, a3, a4, a5, a6, a7, a8, a9, a10, a11, a12, a13]⟩ at_ = (decide (hourFr [a0, a1, a2, a3, a4, a5, a6, a7, a8, a9, a10, a11, a12, a13] d ≤ at_) && decide (at_ < hourTo [a0, a1, a2, a3, a4, a5, a6, a7, a8, a9, a10, a11, a12, a13] d)) := by
      unfold isOpenV
      rw [← HE.out, h0, ← hd]; rfl
    rw [← hd] at hdv hd0 hd1
    have hd' : at_ / 1440 = d := hd.symm
    have HV := Lib.hid hV
    subst h0
    clear hV hd
    go_wp2_with (with_reducible refine wpList_load_all rfl 152 (.tmp 2) rfl w.heap.size _ (stCells key [a0, a1, a2, a3, a4, a5, a6, a7, a8, a9, a10, a11, a12, a13]) _ hbox rfl Tryz.underlying152 rfl 15 info_st rfl ?_)
    refine (hours_any key [a0, a1, a2, a3, a4, a5, a6, a7, a8, a9, a10, a11, a12, a13] _ _ rfl hd0 hd1 Hb.out).mono ?_
    rintro e w2 ⟨rfl, hg2⟩
    have hgw2 := grow_trans hgw hg2
    obtain ⟨F, hF⟩ : ∃ F, F = hourFr [a0, a1, a2, a3, a4, a5, a6, a7, a8, a9, a10, a11, a12, a13] d := ⟨_, rfl⟩
    obtain ⟨T, hT⟩ : ∃ T, T = hourTo [a0, a1, a2, a3, a4, a5, a6, a7, a8, a9, a10, a11, a12, a13] d := ⟨_, rfl⟩
    rw [← hF, ← hT] at HV ⊢
    clear hF hT hbox hgw hg2
    go_wp2_with fail
    all_goals
      go_ret2
      exact ⟨ret_be (by rw [HV.out]; simp [*] <;> (intros; omega)) HE.out, grow_alloc hgw2 _⟩
  · have hne : (E != 0) = true := by simpa using h0
    have hV : isOpenV ⟨key, [a0, a1, a2, a3, a4, a5, a6, a7, a8, a9, a10, a11, a12, a13]⟩ at_ = false := by
      unfold isOpenV
      rw [← HE.out]; simp [h0]
    have HV := Lib.hid hV
    clear hV h0
    go_wp2_with fail
    go_ret2
    exact ⟨ret_be HV.out.symm HE.out, hgw⟩
end Go.Proofs.YtempjmpfdniecaaGreatDoor
namespace Go.Proofs.YtempjmpfdniecaaGreatDoor
open Go.RowKit
/-- The next opening from day d on; n days are left. -/
def nextFrom (hs : List Int) (at_ : Int) : Nat → Int → Option Int
  | 0, _ => none
  | n + 1, d => if max at_ (hourFr hs d) < hourTo hs d then some (max at_ (hourFr hs d)) else nextFrom hs at_ n (d + 1)
end Go.Proofs.YtempjmpfdniecaaGreatDoor
namespace Go.Proofs.YtempjmpfdniecaaGreatDoor
def frD (hs : List Int) (d : Int) : Int := frAt hs (d % 7).toNat
def toD (hs : List Int) (d : Int) : Int := toAt hs (d % 7).toNat
theorem hourFr_eq (hs : List Int) (d : Int) : hourFr hs d = d * 1440 + frD hs d := rfl
theorem hourTo_eq (hs : List Int) (d : Int) : hourTo hs d = d * 1440 + toD hs d := rfl
section
variable {hs : List Int} {at_ : Int}
theorem never (h : ∀ e, ¬ frD hs e < toD hs e) : ∀ (n : Nat) (d : Int), nextFrom hs at_ n d = none
  | 0, _ => rfl
  | n + 1, d => by
    have h1 := h d
    rw [nextFrom, if_neg (by rw [hourFr_eq, hourTo_eq]; omega)]
    exact never h n (d + 1)
end
end Go.Proofs.YtempjmpfdniecaaGreatDoor
namespace Go.Proofs.YtempjmpfdniecaaGreatDoor
open Go.RowKit
theorem ordE_ne {p0 e0 : Int} {p1 p2 e1 e2 p4 e4 : ByteArray} {p3 e3 : Int} (h : ¬ p0 = e0) : sgV3 (p0 - e0) = evOrd ⟨p0, p1, p2, p3, p4⟩ ⟨e0, e1, e2, e3, e4⟩ := by
  have h2 : cmpI p0 e0 ≠ 0 := fun e => h (cmpI_zero.1 e)
  have h3 : evOrd ⟨p0, p1, p2, p3, p4⟩ ⟨e0, e1, e2, e3, e4⟩ = cmpI p0 e0 := by simp [evOrd, firstE, h2]
  rw [h3]
  unfold sgV3 cmpI
  split <;> split <;> (try split) <;> (try split) <;> omega
theorem ordE_eq {p0 e0 : Int} {p1 p2 e1 e2 p4 e4 : ByteArray} {p3 e3 : Int} (h : p0 = e0) : cmpS p1 e1 = evOrd ⟨p0, p1, p2, p3, p4⟩ ⟨e0, e1, e2, e3, e4⟩ := by
  have h2 : cmpI p0 e0 = 0 := cmpI_zero.2 h
  by_cases h3 : cmpS p1 e1 = 0
  · simp [evOrd, firstE, h2, h3]
  · simp only [evOrd, firstE, h2, if_true, if_neg h3]
theorem eventOrder_any (p0 : Int) (p1 p2 : ByteArray) (p3 : Int) (p4 : ByteArray) (e0 : Int) (e1 e2 : ByteArray) (e3 : Int) (e4 : ByteArray) (w : World) (hp : -4000000000000000000 ≤ p0 ∧ p0 ≤ 4000000000000000000) (he : -4000000000000000000 ≤ e0 ∧ e0 ≤ 4000000000000000000) : Calls Tryz.prog 18 #[.agg #[.int .i64 p0, .string p1, .string p2, .int .i64 p3, .string p4], .agg #[.int .i64 e0, .string e1, .string e2, .int .i64 e3, .string e4]] w (GotE w (evOrd (⟨p0, p1, p2, p3, p4⟩ : Ev) (⟨e0, e1, e2, e3, e4⟩ : Ev))) := by
 refine gw_enter ⟨21, w, none, []⟩ Tryz.func18 rfl Tryz.ntmps18 rfl (mem0 (X := []) allF_nil allL_nil) ?_
 refine sr_ ?_
 refine wl_box rfl rfl rfl fun g1 => ?_
 refine wl_box rfl rfl rfl fun g2 => ?_
 refine sg_ rfl (nn_ (gw_seq (sr_ (fd_ fo45_0 rfl rfl (lk_ sc3 1 rfl rfl rfl (fd_ fo45_0 rfl rfl (lk_ sc3 0 rfl rfl rfl (wl_ov (ov_neq rfl rfl) rfl (nn_ ?_)))))))))
 refine gw_cond rfl (fun hh => ?_) (fun hh => ?_)
 ·have hne : ¬ (p0 = e0) := by simpa using hh
  clear hh
  refine sr_ (fd_ fo45_0 rfl rfl (lk_ sc3 1 rfl rfl rfl (fd_ fo45_0 rfl rfl (lk_ sc3 0 rfl rfl rfl ?_))))
  refine wl_ov (ov_sub rfl rfl (by omega) (by omega)) rfl ?_
  refine wl_callv rfl cb86 rfl rfl (fun wx hm => (sign3_any _ wx)) ?_
  refine sg_ rfl (nn_ ?_)
  refine gw_ret ?_
  refine nx_then_ret ?_
  refine nx_ret1 rfl rfl fun wx hm => ?_
  exact ⟨ret_int (ordE_ne hne), hm.g⟩
 have hne : p0 = e0 := by simpa using hh
 clear hh
 refine gw_skip (nx_then (sr_ (fd_ fo45_1 rfl rfl (lk_ sc9 1 rfl rfl rfl (fd_ fo45_1 rfl rfl (lk_ sc9 0 rfl rfl rfl ?_))))))
 refine wl_callv rfl cb87 rfl rfl (fun wx hm => (strCompare_any _ _ wx)) ?_
 refine sg_ rfl (nn_ ?_)
 refine gw_ret ?_
 refine nx_ret1 rfl rfl fun wx hm => ?_
 exact ⟨ret_int (ordE_eq hne), hm.g⟩
end Go.Proofs.YtempjmpfdniecaaGreatDoor
namespace Go.Proofs.YtempjmpfdniecaaGreatDoor
open Go.RowKit
/-- The events of a leg, and of legs. -/
def legEv (g : Lg) : List Ev := ⟨g.out.at_, g.veh, g.out.st, 2, ⟨#[]⟩⟩ :: (if g.inn.at_ = -1 then [] else [⟨g.inn.at_, g.veh, g.inn.st, 3, ⟨#[]⟩⟩])
def hirEvs (l : List Lg) : List Ev := l.flatMap legEv
theorem hirEvs_at {l : List Lg} {i : Nat} {x : Lg} (h : l[i]? = some x) : hirEvs (l.take (i + 1)) = hirEvs (l.take i) ++ legEv x := by
  unfold hirEvs
  rw [List.take_add_one, h, Option.toList_some, List.flatMap_append]; simp
theorem legEv_no {g : Lg} (h : g.inn.at_ = -1) : legEv g = [⟨g.out.at_, g.veh, g.out.st, 2, ⟨#[]⟩⟩] := by unfold legEv; rw [if_pos h]
theorem legEv_in {g : Lg} (h : ¬ g.inn.at_ = -1) : legEv g = [⟨g.out.at_, g.veh, g.out.st, 2, ⟨#[]⟩⟩, ⟨g.inn.at_, g.veh, g.inn.st, 3, ⟨#[]⟩⟩] := by unfold legEv; rw [if_neg h]
theorem legEv_ok {g : Lg} (h : LgB g) : ∀ x ∈ legEv g, EvOk x := fun x hx => by
  obtain ⟨h1, ⟨o1, o2, _⟩, ⟨i1, i2, _⟩⟩ := h
  have z : (⟨#[]⟩ : ByteArray).size = 0 := rfl
  by_cases h6 : g.inn.at_ = -1
  · rw [legEv_no h6, List.mem_singleton] at hx
    subst hx
    exact ⟨by dsimp only; omega, by dsimp only; omega, by dsimp only; omega, by dsimp only; omega, by dsimp only; omega⟩
  · rw [legEv_in h6] at hx
    simp only [List.mem_cons, List.not_mem_nil, or_false] at hx
    rcases hx with rfl | rfl
    · exact ⟨by dsimp only; omega, by dsimp only; omega, by dsimp only; omega, by dsimp only; omega, by dsimp only; omega⟩
    · exact ⟨by dsimp only; omega, by dsimp only; omega, by dsimp only; omega, by dsimp only; omega, by dsimp only; omega⟩
theorem hirEvs_ok {l : List Lg} (h : ∀ g ∈ l, LgB g) : ∀ x ∈ hirEvs l, EvOk x := fun x hx => by
  obtain ⟨g, hg, hx2⟩ := List.mem_flatMap.1 hx
  exact legEv_ok (h g hg) x hx2
def evLt (x y : Ev) : Bool := decide (evOrd x y < 0)
theorem hEv1_any (p0 : Int) (p1 p2 : ByteArray) (p3 : Int) (p4 : ByteArray) (e0 : Int) (e1 e2 : ByteArray) (e3 : Int) (e4 : ByteArray) (w : World) : Calls Tryz.prog 81 #[.agg #[.int .i64 p0, .string p1, .string p2, .int .i64 p3, .string p4], .agg #[.int .i64 e0, .string e1, .string e2, .int .i64 e3, .string e4]] w (GotE w (evOrd (⟨p0, p1, p2, p3, p4⟩ : Ev) (⟨e0, e1, e2, e3, e4⟩ : Ev))) := by
 refine gw_enter ⟨17, w, none, []⟩ Tryz.func81 rfl Tryz.ntmps81 rfl (mem0 (X := []) allF_nil allL_nil) ?_
 refine sr_ ?_
 refine wl_box rfl rfl rfl fun g1 => ?_
 refine wl_box rfl rfl rfl fun g2 => ?_
 refine sg_ rfl (nn_ (gw_seq ?_))
 refine gd (fun wz => Blk wz g2 45 [.int .i64 e0, .string e1, .string e2, .int .i64 e3, .string e4] ∧ Blk wz g1 45 [.int .i64 p0, .string p1, .string p2, .int .i64 p3, .string p4] ∧ True) mixed (fun _ hm => ⟨hm.bl 0, hm.bl 1, trivial⟩) fun z => ?_
 refine wt 0 13 1 rfl z (ov_field fo45_0 rfl rfl) ?_
 refine wt 1 13 3 rfl z (ov_load sc3 rfl (fun _ hm => hm.2.1) rfl) ?_
 refine wt 2 13 7 rfl z (ov_field fo45_0 rfl rfl) ?_
 refine wt 3 13 15 rfl z (ov_load sc3 rfl (fun _ hm => hm.1) rfl) ?_
 refine wt 5 13 47 rfl z (ov_field fo45_1 rfl rfl) ?_
 refine wt 6 13 111 rfl z (ov_load sc9 rfl (fun _ hm => hm.2.1) rfl) ?_
 refine wt 7 13 239 rfl z (ov_field fo45_1 rfl rfl) ?_
 refine wt 8 13 495 rfl z (ov_load sc9 rfl (fun _ hm => hm.1) rfl) ?_
 refine wa1 4 rfl ?_
 refine wl_callv rfl cb83 rfl rfl (fun wx hm => (cmp_int _ _ wx)) ?_
 refine wl_nil ?_
 refine nw 13 511 (fun _ hm => ⟨hm.bl 0, hm.bl 1, trivial⟩) fun z => ?_
 refine wa1 9 rfl ?_
 refine wl_callv rfl cb84 rfl rfl (fun wx hm => (cmp_string _ _ wx)) ?_
 refine wl_nil ?_
 refine nw 13 1023 (fun _ hm => ⟨hm.bl 0, hm.bl 1, trivial⟩) fun z => ?_
 refine wa1 10 rfl ?_
 refine wl_buildSlice (e := 3) (cs := [.int .i64 (cmpI p0 e0), .int .i64 (cmpS p1 e1)]) rfl (by kernel_rfl) rfl fun g3 => ?_
 refine wl_nil ?_
 refine nw 13 2047 (fun _ hm => ⟨hm.bl 1, hm.bl 2, trivial⟩) fun z => ?_
 refine wa1 11 rfl ?_
 refine wl_callv rfl cb82 rfl rfl (fun wx hm => (or_two _ _ _ _ _ wx (hm.blkI 0 rfl))) ?_
 refine wl_nil ?_
 refine nw 13 4095 (fun _ hm => ⟨hm.bl 1, hm.bl 2, trivial⟩) fun z => ?_
 refine wt 12 13 8191 rfl z (ov_assign rfl) ?_
 refine wa_done (by kernel_rfl) ?_
 refine nx_then ?_
 refine gw_ret ?_
 refine nx_ret1 rfl rfl fun wx hm => ?_
 exact ⟨ret_int (by unfold evOrd; rfl), hm.g⟩
theorem ins_he  (l0 : List Ev) (br n cap base : Nat) (w : World) (h : w.ownsRow base 45 5 (.slice (some ⟨br, 0, none⟩) n cap) n (l0.flatMap evEnc)) (hl0 : l0.length = n) (hn : n ≤ 1000000)  :
  Calls Tryz.prog 250 #[.slice (some ⟨br, 0, none⟩) n cap, .int .i64 0, .int .i64 ((n : Nat) : Int), .func (.func 81) #[] #[]] w (fun e w' => e = .returned (.tuple #[]) ∧ w'.ownsRow base 45 5 (.slice (some ⟨br, 0, none⟩) n cap) n ((isort (evLt) l0).flatMap evEnc) ∧ w.grownBy w' (some br)) := by
 obtain ⟨R, hR⟩ : ∃ z, z = isort (evLt) l0 := ⟨_, rfl⟩
 rw [← hR]
 refine gw_enter ⟨53, w, (some br), []⟩ Tryz.func250 rfl Tryz.ntmps250 rfl (memR (X := []) h allF_nil allL_nil) ?_
 refine sr_ (mv_ rfl (ad_ rfl rfl ?_))
 refine wl_set 11 (v' := .int .i64 1) rfl rfl ?_
 refine sg_ rfl (nn_ (gw_block ?_))
 refine gw_loop (γ := Nat × List Ev) (fun gg => (1 ≤ gg.1 ∧ gg.1 ≤ n + 1) ∧ gg.2.length = n ∧ isortF (evLt) (n - gg.1) gg.1 gg.2 = R) (fun gg => [(0, .slice (some ⟨br, 0, none⟩) n cap), (1, .int .i64 0), (2, .int .i64 ((n : Nat) : Int)), (3, .func (.func 81) #[] #[]), (8, .int .i64 ((gg.1 : Nat) : Int))]) (fun gg => RowK base 45 5 n cap br ((gg.2).flatMap evEnc)) (fun gg => []) (fun gg => []) (fun gg => []) (fun gg => n + 1 - gg.1) (1, l0) ⟨⟨Nat.le_refl _, by omega⟩, hl0, by rw [hR]; unfold isort; rw [hl0]⟩ ⟨rfl, rfl, rfl, rfl, (some_int (by omega)), trivial⟩ (fun _ hm => hm.pick [] [] [] rfl rfl) ?_
 rintro ⟨i, l⟩ hinv
 replace hinv : (1 ≤ i ∧ i ≤ n + 1) ∧ l.length = n ∧ isortF (evLt) (n - i) i l = R := hinv
 dsimp only
 refine gw_seq (sr_ ?_)
 obtain ⟨⟨hi1, hi2⟩, hl1, hR1⟩ := hinv
 refine mv_ rfl (mv_ rfl (wl_ov (ov_lss rfl rfl) rfl (nn_ ?_)))
 refine gw_cond rfl (fun hh => ?_) (fun hh => ?_)
 ·have hi : ((i : Nat) : Int) < ((n : Nat) : Int) := by simpa using hh
  clear hh
  refine gw_skip (nx_then (gw_seq (gw_block (sr_ ?_))))
  have hRi : isortF (evLt) (n - (i + 1)) (i + 1) (sink (evLt) i l) = R := by rw [← hR1, show n - i = (n - (i + 1)) + 1 by omega]; rfl
  obtain ⟨S, hS⟩ : ∃ z, z = sink (evLt) i l := ⟨_, rfl⟩
  rw [← hS] at hRi
  have hSl : S.length = n := by rw [hS, sink_len]; exact hl1
  refine mv_ rfl (sg_ rfl (nn_ (gw_block ?_)))
  refine gw_loop (γ := Nat × List Ev) (fun gg => (gg.1 ≤ i) ∧ gg.2.length = n ∧ sink (evLt) gg.1 gg.2 = S) (fun gg => [(0, .slice (some ⟨br, 0, none⟩) n cap), (1, .int .i64 0), (2, .int .i64 ((n : Nat) : Int)), (3, .func (.func 81) #[] #[]), (8, .int .i64 ((i : Nat) : Int)), (9, .int .i64 ((gg.1 : Nat) : Int))]) (fun gg => RowK base 45 5 n cap br ((gg.2).flatMap evEnc)) (fun gg => []) (fun gg => []) (fun gg => []) (fun gg => gg.1) (i, l) ⟨Nat.le_refl _, hl1, hS.symm⟩ ⟨rfl, rfl, rfl, rfl, rfl, rfl, trivial⟩ (fun _ hm => hm.pick [] [] [] rfl rfl) ?_
  rintro ⟨jj, m⟩ hinv
  replace hinv : (jj ≤ i) ∧ m.length = n ∧ sink (evLt) jj m = S := hinv
  dsimp only
  refine gw_seq (gw_seq ?_)
  obtain ⟨hj1, hm1, hS1⟩ := hinv
  rcases jj with _ | j
  ·refine gd (fun wz => True) mixed (fun _ _ => trivial) fun z => ?_
   refine wt 0 17 1 rfl z (ov_move rfl) ?_
   refine wa_set 18 (v' := .int .i64 0) rfl rfl ?_
   refine wt 1 17 3 rfl z (ov_move rfl) ?_
   refine wt 2 17 7 rfl z (ov_gtr rfl rfl) ?_
   refine wa_set 20 (v' := .bool false) rfl (congrArg Value.bool (by decide)) ?_
   refine wt 3 17 15 rfl z (ov_move rfl) ?_
   refine wtf 4 17 31 rfl rfl rfl z ?_
   refine wtf 5 17 63 rfl rfl rfl z ?_
   refine wtf 6 17 127 rfl rfl rfl z ?_
   refine wtf 7 17 255 rfl rfl rfl z ?_
   refine wtf 8 17 511 rfl rfl rfl z ?_
   refine wtf 9 17 1023 rfl rfl rfl z ?_
   refine wtf 10 17 2047 rfl rfl rfl z ?_
   refine wtf 11 17 4095 rfl rfl rfl z ?_
   refine wtf 12 17 8191 rfl rfl rfl z ?_
   refine wtf 13 17 16383 rfl rfl rfl z ?_
   refine wtf 14 17 32767 rfl rfl rfl z ?_
   refine wtf 15 17 65535 rfl rfl rfl z ?_
   refine wt 16 17 131071 rfl z (ov_pick_f rfl rfl) ?_
   refine wa_done (by kernel_rfl) ?_
   refine nx_then (cf_ rfl ?_)
   refine gw_exit ?_
   refine nx_then_exit (nx_then_exit ?_)
   refine nx_blk_here ?_
   refine nx_blk_nrm (nx_then (gw_region (mv_ rfl (ad_ rfl rfl (sg_ rfl (wl_nil ?_))))))
   have hm2 : m = S := hS1
   exact nx_round (i + 1, m) ⟨⟨by dsimp only; omega, by dsimp only; omega⟩, by rw [hm2]; exact hSl, by rw [hm2]; exact hRi⟩ (by dsimp only; omega) ⟨rfl, rfl, rfl, rfl, (some_int (by omega)), trivial⟩ (fun _ hm => hm.pick [] [] [] rfl rfl)
  have hj2 : j + 1 < n := by omega
  obtain ⟨xx, hx⟩ : ∃ x, m[j + 1]? = some x := ⟨_, List.getElem?_eq_getElem (by omega)⟩
  obtain ⟨x0, x1, x2, x3, x4⟩ := xx
  obtain ⟨yy, hy⟩ : ∃ x, m[j]? = some x := ⟨_, List.getElem?_eq_getElem (by omega)⟩
  obtain ⟨y0, y1, y2, y3, y4⟩ := yy
  refine gd (fun wz => (RowK base 45 5 n cap br ((m).flatMap evEnc)) wz ∧ True) mixed (fun _ hm => ⟨hm.k, trivial⟩) fun z => ?_
  refine wt 0 17 1 rfl z (ov_move rfl) ?_
  refine wt 1 17 3 rfl z (ov_move rfl) ?_
  refine wt 2 17 7 rfl z (ov_gtr rfl rfl) ?_
  refine wa_set 20 (v' := .bool true) rfl (congrArg Value.bool (decide_eq_true (by omega))) ?_
  refine wt 3 17 15 rfl z (ov_move rfl) ?_
  refine wto 4 17 31 rfl rfl rfl z (ov_move rfl) ?_
  refine wto 5 17 63 rfl rfl rfl z (ov_move rfl) ?_
  refine wto 6 17 127 rfl rfl rfl z (ov_move rfl) ?_
  refine wto 7 17 255 rfl rfl rfl z (ov_index (j := (j + 1)) es39 rfl rfl (by omega)) ?_
  refine wto 8 17 511 rfl rfl rfl z (ov_elem (vs := [.int .i64 x0, .string x1, .string x2, .int .i64 x3, .string x4]) rz45 rfl (fun _ hm => (RowK.get (hm.1) ev_len hm1)) hx rfl rfl) ?_
  refine wto 9 17 1023 rfl rfl rfl z (ov_move rfl) ?_
  refine wto 10 17 2047 rfl rfl rfl z (ov_move rfl) ?_
  refine wto 11 17 4095 rfl rfl rfl z (ov_sub rfl rfl (by omega) (by omega)) ?_
  refine wa_set 29 (v' := .int .i64 ((j : Nat) : Int)) rfl (congrArg (Value.int .i64) (by omega)) ?_
  refine wto 12 17 8191 rfl rfl rfl z (ov_index (j := j) es39 rfl rfl (by omega)) ?_
  refine wto 13 17 16383 rfl rfl rfl z (ov_elem (vs := [.int .i64 y0, .string y1, .string y2, .int .i64 y3, .string y4]) rz45 rfl (fun _ hm => (RowK.get (hm.1) ev_len hm1)) hy rfl rfl) ?_
  refine wa1 14 rfl ?_
  refine wl_guard_on rfl rfl rfl ?_
  refine wl_callv rfl cb81 rfl rfl (fun wx hm => (hEv1_any x0 x1 x2 x3 x4 y0 y1 y2 y3 y4 wx)) ?_
  refine wl_nil ?_
  refine nw 17 32767 (fun _ hm => ⟨hm.k, trivial⟩) fun z => ?_
  refine wto 15 17 65535 rfl rfl rfl z (ov_lss rfl rfl) ?_
  refine wt 16 17 131071 rfl z (ov_pick_t rfl rfl) ?_
  refine wa_done (by kernel_rfl) ?_
  refine nx_then ?_
  refine gw_cond rfl (fun hh => ?_) (fun hh => ?_)
  ·have hlt : evOrd ⟨x0, x1, x2, x3, x4⟩ ⟨y0, y1, y2, y3, y4⟩ < 0 := by simpa using hh
   clear hh
   refine gw_skip (nx_then (gw_seq (gw_block ?_)))
   have hlt2 : (evLt) ⟨x0, x1, x2, x3, x4⟩ ⟨y0, y1, y2, y3, y4⟩ = true := decide_eq_true (show evOrd ⟨x0, x1, x2, x3, x4⟩ ⟨y0, y1, y2, y3, y4⟩ < 0 from hlt)
   have hS2 := (sink_yes hx hy hlt2).symm.trans hS1
   refine gd (fun wz => True) mixed (fun _ _ => trivial) fun z => ?_
   refine wt 0 18 1 rfl z (ov_move rfl) ?_
   refine wt 1 18 3 rfl z (ov_move rfl) ?_
   refine wt 2 18 7 rfl z (ov_move rfl) ?_
   refine wt 3 18 15 rfl z (ov_move rfl) ?_
   refine wt 4 18 31 rfl z (ov_sub rfl rfl (by omega) (by omega)) ?_
   refine wa_set 41 (v' := .int .i64 ((j : Nat) : Int)) rfl (congrArg (Value.int .i64) (by omega)) ?_
   refine wt 5 18 63 rfl z (ov_move rfl) ?_
   refine wt 6 18 127 rfl z (ov_move rfl) ?_
   refine wt 7 18 255 rfl z (ov_sub rfl rfl (by omega) (by omega)) ?_
   refine wa_set 44 (v' := .int .i64 ((j : Nat) : Int)) rfl (congrArg (Value.int .i64) (by omega)) ?_
   refine wt 8 18 511 rfl z (ov_index (j := j) es39 rfl rfl (by omega)) ?_
   refine wt 10 18 1535 rfl z (ov_move rfl) ?_
   refine wt 11 18 3583 rfl z (ov_move rfl) ?_
   refine wt 12 18 7679 rfl z (ov_index (j := (j + 1)) es39 rfl rfl (by omega)) ?_
   refine wa_all [9, 13] (by kernel_rfl) rfl ⟨⟨_, rfl, ?_⟩, ⟨_, rfl, ?_⟩, trivial⟩
   ·refine wl_ov (ov_elem (vs := [.int .i64 y0, .string y1, .string y2, .int .i64 y3, .string y4]) rz45 rfl (fun _ hm => (RowK.get hm.k ev_len hm1)) hy rfl rfl) rfl ?_
    refine wl_nil ?_
    refine nw 18 8191 (fun _ _ => trivial) fun z => ?_
    refine wa1 13 rfl ?_
    refine wl_ov (ov_elem (vs := [.int .i64 x0, .string x1, .string x2, .int .i64 x3, .string x4]) rz45 rfl (fun _ hm => (RowK.get hm.k ev_len hm1)) hx rfl rfl) rfl ?_
    refine wl_nil ?_
    refine nw 18 16383 (fun _ _ => trivial) fun z => ?_
    refine wt 14 18 32767 rfl z (ov_index (j := (j + 1)) es39 rfl rfl (by omega)) ?_
    refine wa1 15 rfl ?_
    refine wl_storesRow (l := m) (j := j + 1) (r := 0) (el := ⟨x0, x1, x2, x3, x4⟩) (el' := ⟨y0, y1, y2, y3, y4⟩) rfl rz45 rfl rfl rfl rfl ev_len rfl hx hm1 (by decide) rfl rfl ?_
    refine wl_nil ?_
    refine nw 18 65535 (fun _ _ => trivial) fun z => ?_
    refine wt 16 18 131071 rfl z (ov_index (j := j) es39 rfl rfl (by omega)) ?_
    refine wa1 17 rfl ?_
    refine wl_storesRow (l := m.set (j + 1) ⟨y0, y1, y2, y3, y4⟩) (j := j) (r := 0) (el := ⟨y0, y1, y2, y3, y4⟩) (el' := ⟨x0, x1, x2, x3, x4⟩) rfl rz45 rfl rfl rfl rfl ev_len rfl (by rw [List.getElem?_set_ne (by omega)]; exact hy) (by rw [List.length_set]; exact hm1) (by decide) rfl rfl ?_
    refine wl_nil ?_
    refine nw 18 262143 (fun _ _ => trivial) fun z => ?_
    refine wa_done (by kernel_rfl) ?_
    refine nx_blk_nrm (nx_then (gw_region (mv_ rfl ?_)))
    refine wl_ov (ov_sub rfl rfl (by omega) (by omega)) rfl ?_
    refine wl_set 36 (v' := .int .i64 ((j : Nat) : Int)) rfl (congrArg (Value.int .i64) (by omega)) ?_
    refine sg_ rfl (wl_nil ?_)
    exact nx_round (j, (m.set (j + 1) ⟨y0, y1, y2, y3, y4⟩).set j ⟨x0, x1, x2, x3, x4⟩) ⟨by dsimp only; omega, by simp [hm1], hS2⟩ (by dsimp only; omega) ⟨rfl, rfl, rfl, rfl, rfl, (some_int (by omega)), trivial⟩ (fun _ hm => hm.pick [] [] [] rfl rfl)
   refine wl_ov (ov_elem (vs := [.int .i64 x0, .string x1, .string x2, .int .i64 x3, .string x4]) rz45 rfl (fun _ hm => (RowK.get hm.k ev_len hm1)) hx rfl rfl) rfl ?_
   refine wl_nil ?_
   refine nw 18 15871 (fun _ _ => trivial) fun z => ?_
   refine wa1 9 rfl ?_
   refine wl_ov (ov_elem (vs := [.int .i64 y0, .string y1, .string y2, .int .i64 y3, .string y4]) rz45 rfl (fun _ hm => (RowK.get hm.k ev_len hm1)) hy rfl rfl) rfl ?_
   refine wl_nil ?_
   refine nw 18 16383 (fun _ _ => trivial) fun z => ?_
   refine wt 14 18 32767 rfl z (ov_index (j := (j + 1)) es39 rfl rfl (by omega)) ?_
   refine wa1 15 rfl ?_
   refine wl_storesRow (l := m) (j := j + 1) (r := 0) (el := ⟨x0, x1, x2, x3, x4⟩) (el' := ⟨y0, y1, y2, y3, y4⟩) rfl rz45 rfl rfl rfl rfl ev_len rfl hx hm1 (by decide) rfl rfl ?_
   refine wl_nil ?_
   refine nw 18 65535 (fun _ _ => trivial) fun z => ?_
   refine wt 16 18 131071 rfl z (ov_index (j := j) es39 rfl rfl (by omega)) ?_
   refine wa1 17 rfl ?_
   refine wl_storesRow (l := m.set (j + 1) ⟨y0, y1, y2, y3, y4⟩) (j := j) (r := 0) (el := ⟨y0, y1, y2, y3, y4⟩) (el' := ⟨x0, x1, x2, x3, x4⟩) rfl rz45 rfl rfl rfl rfl ev_len rfl (by rw [List.getElem?_set_ne (by omega)]; exact hy) (by rw [List.length_set]; exact hm1) (by decide) rfl rfl ?_
   refine wl_nil ?_
   refine nw 18 262143 (fun _ _ => trivial) fun z => ?_
   refine wa_done (by kernel_rfl) ?_
   refine nx_blk_nrm (nx_then (gw_region (mv_ rfl ?_)))
   refine wl_ov (ov_sub rfl rfl (by omega) (by omega)) rfl ?_
   refine wl_set 36 (v' := .int .i64 ((j : Nat) : Int)) rfl (congrArg (Value.int .i64) (by omega)) ?_
   refine sg_ rfl (wl_nil ?_)
   exact nx_round (j, (m.set (j + 1) ⟨y0, y1, y2, y3, y4⟩).set j ⟨x0, x1, x2, x3, x4⟩) ⟨by dsimp only; omega, by simp [hm1], hS2⟩ (by dsimp only; omega) ⟨rfl, rfl, rfl, rfl, rfl, (some_int (by omega)), trivial⟩ (fun _ hm => hm.pick [] [] [] rfl rfl)
  have hlt : ¬ (evOrd ⟨x0, x1, x2, x3, x4⟩ ⟨y0, y1, y2, y3, y4⟩ < 0) := by simpa using hh
  clear hh
  refine gw_exit ?_
  refine nx_then_exit (nx_then_exit ?_)
  refine nx_blk_here ?_
  refine nx_blk_nrm (nx_then (gw_region ?_))
  have hlt2 : (evLt) ⟨x0, x1, x2, x3, x4⟩ ⟨y0, y1, y2, y3, y4⟩ = false := decide_eq_false (show ¬ evOrd ⟨x0, x1, x2, x3, x4⟩ ⟨y0, y1, y2, y3, y4⟩ < 0 from hlt)
  have hS2 := (sink_no hx hy hlt2).symm.trans hS1
  refine mv_ rfl (ad_ rfl rfl (sg_ rfl (wl_nil ?_)))
  have hm2 : m = S := hS2
  exact nx_round (i + 1, m) ⟨⟨by dsimp only; omega, by dsimp only; omega⟩, by rw [hm2]; exact hSl, by rw [hm2]; exact hRi⟩ (by dsimp only; omega) ⟨rfl, rfl, rfl, rfl, (some_int (by omega)), trivial⟩ (fun _ hm => hm.pick [] [] [] rfl rfl)
 have hi : ¬ (((i : Nat) : Int) < ((n : Nat) : Int)) := by simpa using hh
 clear hh
 refine gw_exit ?_
 refine nx_then_exit (nx_then_exit ?_)
 refine nx_blk_here ?_
 obtain rfl : l = R := by rw [← hR1, show n - i = 0 by omega]; rfl
 refine nx_ret0 rfl fun wx hm => ?_
 exact ⟨rfl, fin_row hm.k hm.g⟩
theorem stb_he (l0 : List Ev) (br n cap base : Nat) (w : World) (h : w.ownsRow base 45 5 (.slice (some ⟨br, 0, none⟩) n cap) n (l0.flatMap evEnc)) (hl0 : l0.length = n) (hn : n ≤ 19)  :
  Calls Tryz.prog 182 #[.slice (some ⟨br, 0, none⟩) n cap, .int .i64 ((n : Nat) : Int), .func (.func 81) #[] #[]] w (fun e w' => e = .returned (.tuple #[]) ∧ w'.ownsRow base 45 5 (.slice (some ⟨br, 0, none⟩) n cap) n ((isort evLt l0).flatMap evEnc) ∧ w.grownBy w' (some br)) := by
 refine gw_enter ⟨63, w, (some br), []⟩ Tryz.func182 rfl Tryz.ntmps182 rfl (memR (X := []) h allF_nil allL_nil) ?_
 refine sr_ (sg_ rfl (nn_ (sr_ (mv_ rfl (sg_ rfl (sg_ rfl (nn_ (gw_seq (gw_block ?_)))))))))
 refine gw_rounds 1 ?_
 refine gr_next ?_
 refine gw_seq (sr_ (mv_ rfl (mv_ rfl (wl_ov (ov_leq rfl rfl) rfl ?_))))
 refine wl_set 13 (v' := .bool false) rfl (congrArg Value.bool (decide_eq_false (by omega))) ?_
 refine nn_ (cf_ rfl ?_)
 refine gw_exit ?_
 refine nx_then_exit (nx_then_exit ?_)
 refine nx_blk_here ?_
 refine nx_then (sr_ (mv_ rfl (mv_ rfl (mv_ rfl (mv_ rfl ?_)))))
 refine wl_callK rfl rfl rfl cb250 rfl rfl (fun wx hm => (ins_he l0 br n cap base wx hm.k hl0 (by omega) )) ?_
 refine nn_ (gw_block ?_)
 refine gw_rounds 1 ?_
 refine gr_next ?_
 refine gw_seq (sr_ (mv_ rfl (mv_ rfl (wl_ov (ov_lss rfl rfl) rfl ?_))))
 refine wl_set 30 (v' := .bool false) rfl (congrArg Value.bool (decide_eq_false (by omega))) ?_
 refine nn_ (cf_ rfl ?_)
 refine gw_exit ?_
 refine nx_then_exit (nx_then_exit ?_)
 refine nx_blk_here ?_
 refine nx_ret0 rfl fun wx hm => ?_
 exact ⟨rfl, fin_row hm.k hm.g⟩
set_option maxRecDepth 100000 in
set_option maxHeartbeats 400000 in
theorem stable_he (l0 : List Ev) (br n cap base : Nat) (w : World) (h : w.ownsRow base 45 5 (.slice (some ⟨br, 0, none⟩) n cap) n (l0.flatMap evEnc)) (hl0 : l0.length = n) (hn : n ≤ 19)  :
    Calls Tryz.prog 80 #[.slice (some ⟨br, 0, none⟩) n cap, .func (.func 81) #[] #[]] w (fun e w' => e = .returned (.tuple #[]) ∧ w'.ownsRow base 45 5 (.slice (some ⟨br, 0, none⟩) n cap) n ((isort evLt l0).flatMap evEnc) ∧ w.grownBy w' (some br)) := by
  refine gw_enter ⟨9, w, (some br), []⟩ Tryz.func80 rfl Tryz.ntmps80 rfl (memR (X := []) h allF_nil allL_nil) ?_
  refine gw_region ?_
  refine wl_ov (ov_move rfl) rfl ?_
  refine wl_ov (ov_move rfl) rfl ?_
  refine wl_ov (ov_len es39 rfl) rfl ?_
  refine wl_ov (ov_move rfl) rfl ?_
  refine wl_callK rfl rfl rfl cb182 rfl rfl (fun wx hm => (stb_he l0 br n cap base wx hm.k hl0 hn )) ?_
  refine wl_nil ?_
  refine nx_ret0 rfl fun wx hm => ?_
  exact ⟨rfl, fin_row hm.k hm.g⟩
theorem ins0_he (A : Option Addr) (cap : Nat) (w : World) : Calls Tryz.prog 250 #[.slice A 0 cap, .int .i64 0, .int .i64 0, .func (.func 81) #[] #[]] w (fun e w' => e = .returned (.tuple #[]) ∧ w.grownBy w' none) := by
 refine gw_enter ⟨53, w, none, []⟩ Tryz.func250 rfl Tryz.ntmps250 rfl (mem0 (X := []) allF_nil allL_nil) ?_
 refine sr_ (mv_ rfl (ad_ rfl rfl ?_))
 refine wl_set 11 (v' := .int .i64 1) rfl rfl ?_
 refine sg_ rfl (nn_ (gw_block ?_))
 refine gw_rounds 1 ?_
 refine gr_next ?_
 refine gw_seq (sr_ (mv_ rfl (mv_ rfl (wl_ov (ov_lss rfl rfl) rfl ?_))))
 refine wl_set 14 (v' := .bool false) rfl (congrArg Value.bool (by decide)) ?_
 refine nn_ (cf_ rfl ?_)
 refine gw_exit ?_
 refine nx_then_exit (nx_then_exit ?_)
 refine nx_blk_here ?_
 refine nx_ret0 rfl fun wx hm => ?_
 exact ⟨rfl, hm.g⟩
theorem stb0_he (A : Option Addr) (cap : Nat) (w : World) : Calls Tryz.prog 182 #[.slice A 0 cap, .int .i64 0, .func (.func 81) #[] #[]] w (fun e w' => e = .returned (.tuple #[]) ∧ w.grownBy w' none) := by
 refine gw_enter ⟨63, w, none, []⟩ Tryz.func182 rfl Tryz.ntmps182 rfl (mem0 (X := []) allF_nil allL_nil) ?_
 refine sr_ (sg_ rfl (nn_ (sr_ (mv_ rfl (sg_ rfl (sg_ rfl (nn_ (gw_seq (gw_block ?_)))))))))
 refine gw_rounds 1 ?_
 refine gr_next ?_
 refine gw_seq (sr_ (mv_ rfl (mv_ rfl (wl_ov (ov_leq rfl rfl) rfl ?_))))
 refine wl_set 13 (v' := .bool false) rfl (congrArg Value.bool (by decide)) ?_
 refine nn_ (cf_ rfl ?_)
 refine gw_exit ?_
 refine nx_then_exit (nx_then_exit ?_)
 refine nx_blk_here ?_
 refine nx_then (sr_ (mv_ rfl (mv_ rfl (mv_ rfl (mv_ rfl ?_)))))
 refine wl_callv rfl cb250 rfl rfl (fun wx hm => (ins0_he A cap wx)) ?_
 refine nn_ (gw_block ?_)
 refine gw_rounds 1 ?_
 refine gr_next ?_
 refine gw_seq (sr_ (mv_ rfl (mv_ rfl (wl_ov (ov_lss rfl rfl) rfl ?_))))
 refine wl_set 30 (v' := .bool false) rfl (congrArg Value.bool (by decide)) ?_
 refine nn_ (cf_ rfl ?_)
 refine gw_exit ?_
 refine nx_then_exit (nx_then_exit ?_)
 refine nx_blk_here ?_
 refine nx_ret0 rfl fun wx hm => ?_
 exact ⟨rfl, hm.g⟩
set_option maxRecDepth 100000 in
set_option maxHeartbeats 400000 in
theorem stable0_he (A : Option Addr) (cap : Nat) (w : World) : Calls Tryz.prog 80 #[.slice A 0 cap, .func (.func 81) #[] #[]] w (fun e w' => e = .returned (.tuple #[]) ∧ w.grownBy w' none) := by
  refine gw_enter ⟨9, w, none, []⟩ Tryz.func80 rfl Tryz.ntmps80 rfl (mem0 (X := []) allF_nil allL_nil) ?_
  refine gw_region ?_
  refine wl_ov (ov_move rfl) rfl ?_
  refine wl_ov (ov_move rfl) rfl ?_
  refine wl_ov (ov_len es39 rfl) rfl ?_
  refine wl_set 6 (v' := .int .i64 0) rfl rfl ?_
  refine wl_ov (ov_move rfl) rfl ?_
  refine wl_callv rfl cb182 rfl rfl (fun wx hm => (stb0_he A cap wx)) ?_
  refine wl_nil ?_
  refine nx_ret0 rfl fun wx hm => ?_
  exact ⟨rfl, hm.g⟩
theorem hirEvents_right (k d : ByteArray) (f t2 : Int) (ls : List Lg) (A : Option Addr) (n c : Nat) (w : World) (hl : SlT lgEnc 9 135 w A n ls) (hok : HrOk k d ls) (hn : n ≤ 4) (h0 : hireE (⟨k, d, f, t2, ls⟩ : Hr) = 0) :
  Calls Tryz.prog 15 #[.agg #[.string k, .string d, .int .i64 f, .int .i64 t2, .slice A n c]] w (fun e w' => ∃ E q ec, e = .returned (.tuple #[.slice E q ec, .int .i64 0]) ∧ SlT evEnc 5 45 w' E q (isort evLt (hirEvs ls)) ∧ q ≤ 8 ∧ w.grownBy w' none) := by
 refine gw_enter ⟨52, w, none, []⟩ Tryz.func15 rfl Tryz.ntmps15 rfl (mem0 (X := [SlOld lgEnc 9 135 w.heap.size none A n ls]) (allF_cons hl.old allF_nil) (allL_cons SlOld.lasts allL_nil)) ?_
 refine sr_ ?_
 have hlen := hl.len
 obtain ⟨HE, hHE⟩ : ∃ z, z = hireE (⟨k, d, f, t2, ls⟩ : Hr) := ⟨_, rfl⟩
 rw [← hHE] at h0
 refine wl_box rfl rfl rfl fun g1 => ?_
 refine sg_ rfl (sg_ rfl (nn_ (gw_seq (sr_ ?_))))
 refine wl_ov (ov_loads rz30 rfl (fun _ hm => hm.blkI 0 rfl) rfl rfl) rfl ?_
 refine wl_callv (v := .int .i64 HE) rfl cb12 rfl rfl (fun wx hm => (by rw [hHE]; exact hcheck_any k d f t2 ls A n c wx (hm.fact 0 rfl).1 hok (by omega))) ?_
 refine sg_ rfl (nn_ (sr_ (mv_ rfl (wl_ov (ov_neq rfl rfl) rfl (nn_ ?_)))))
 refine gw_cond rfl (fun hh => ?_) (fun hh => ?_)
 ·have h1 : ¬ (HE = 0) := by simpa using hh
  clear hh
  refine sr_ ?_
  exact absurd h0 (by simpa using h1)
 have h1 : HE = 0 := by simpa using hh
 clear hh
 refine gw_skip (nx_then (sr_ ?_))
 refine wl_nilOwn 45 5 ?_
 refine sg_ rfl (nn_ (gw_seq (sr_ (fd_ fo30_3 rfl rfl (lk_ sc28 0 rfl rfl rfl (wl_ov (ov_len es28 rfl) rfl (mv_ rfl (nn_ (gw_block ?_)))))))))
 refine gw_loop (γ := Nat × Nat × Value) (fun g => g.1 ≤ n ∧ (hirEvs (ls.take g.1)).length = g.2.1 ∧ g.2.1 ≤ 2 * g.1) (fun g => [(2, .slice none 0 0), (3, .int .i64 0), (5, g.2.2), (14, .slice A n c), (15, .int .i64 ((n : Nat) : Int)), (16, .int .i64 ((g.1 : Nat) : Int))]) (fun g => fun _ => True) (fun g => [(g1, 30, [.string k, .string d, .int .i64 f, .int .i64 t2, .slice A n c])]) (fun g => [⟨g.2.2, 45, 5, g.2.1, (hirEvs (ls.take g.1)).flatMap evEnc⟩]) (fun g => [SlOld lgEnc 9 135 w.heap.size none A n ls]) (fun g => n - g.1) (0, 0, .slice none 0 0) ⟨Nat.zero_le _, rfl, Nat.le_refl _⟩ ⟨rfl, rfl, rfl, rfl, rfl, rfl, trivial⟩ (fun _ hm => hm.pick [0] [0] [0] rfl rfl) ?_
 rintro ⟨i, q, v⟩ hinv
 replace hinv : i ≤ n ∧ (hirEvs (ls.take i)).length = q ∧ q ≤ 2 * i := hinv
 dsimp only
 refine sr_ ?_
 obtain ⟨hi0, hql, hq2⟩ := hinv
 refine wl_ov (ov_lss rfl rfl) rfl (nn_ (gw_seq ?_))
 refine gw_cond rfl (fun hh => ?_) (fun hh => ?_)
 ·have hi : ((i : Nat) : Int) < ((n : Nat) : Int) := by simpa using hh
  clear hh
  refine gw_skip (nx_then (gw_seq (gw_block (sr_ ?_))))
  obtain ⟨b, off, hA, _, _⟩ := hl.get (by omega)
  subst hA
  obtain ⟨x, hx⟩ : ∃ x, ls[i]? = some x := ⟨_, List.getElem?_eq_getElem (by omega)⟩
  obtain ⟨xv, ⟨oa, os, om, of_⟩, ⟨ia, is_, im, if_⟩⟩ := x
  have hat := hirEvs_at hx
  refine wl_look (R := ∃ A cc, v = .slice A q cc) (fun wx hm => own_slice (hm.ownI 0 rfl)) ?_
  rintro ⟨E, ec, rfl⟩
  refine wl_ov (ov_index (j := i) es28 rfl rfl (by omega)) rfl ?_
  refine wl_ov (ov_elem (vs := [.string xv, .int .i64 oa, .string os, .int .i64 om, .int .i64 of_, .int .i64 ia, .string is_, .int .i64 im, .int .i64 if_]) rz135 rfl (fun _ hm => (hm.fact 0 rfl).1) hx rfl rfl) rfl ?_
  refine wl_alloc zc135 rfl fun g2 => ?_
  refine wl_stores (cs' := [.string xv, .int .i64 oa, .string os, .int .i64 om, .int .i64 of_, .int .i64 ia, .string is_, .int .i64 im, .int .i64 if_]) 0 rz135 rfl rfl rfl rfl rfl rfl rfl rfl ?_
  refine nn_ (sr_ (mv_ rfl (fd_ fo135_1 rfl rfl (fd_ fo48_0 rfl rfl (lk_ sc3 0 rfl rfl rfl (fd_ fo135_0 rfl rfl (lk_ sc9 0 rfl rfl rfl (fd_ fo135_1 rfl rfl (fd_ fo48_1 rfl rfl (lk_ sc9 0 rfl rfl rfl ?_))))))))))
  refine wl_ov (ov_build (cs := [.int .i64 oa, .string xv, .string os, .int .i64 2, .string ⟨#[]⟩]) rfl (by kernel_rfl)) rfl ?_
  refine wl_buildSlice (e := 45) (cs := [.int .i64 oa, .string xv, .string os, .int .i64 2, .string ⟨#[]⟩]) rfl (by kernel_rfl) rfl fun g3 => ?_
  refine wl_append (news := [.int .i64 oa, .string xv, .string os, .int .i64 2, .string ⟨#[]⟩]) 0 0 ap39 rfl rfl rfl rfl rfl rfl rfl (by omega) (by unfold maxLen; omega) rfl rfl fun v2 hv2 => ?_
  refine sg_ rfl (nn_ (sr_ (fd_ fo135_2 rfl rfl (fd_ fo48_0 rfl rfl (lk_ sc3 1 rfl rfl rfl (wl_ov (ov_neq rfl rfl) rfl (nn_ ?_)))))))
  refine gw_cond rfl (fun hh => ?_) (fun hh => ?_)
  ·have h6 : ¬ (ia = -1) := by simpa using hh
   clear hh
   refine gw_region ?_
   rw [legEv_in (g := (⟨xv, ⟨oa, os, om, of_⟩, ⟨ia, is_, im, if_⟩⟩ : Lg)) h6] at hat
   refine wl_look (R := ∃ A cc, v2 = .slice A (q + 1) cc) (fun wx hm => own_slice (hm.ownI 0 rfl)) ?_
   rintro ⟨E2, ec2, rfl⟩
   refine mv_ rfl (fd_ fo135_2 rfl rfl (fd_ fo48_0 rfl rfl (lk_ sc3 1 rfl rfl rfl (fd_ fo135_0 rfl rfl (lk_ sc9 1 rfl rfl rfl (fd_ fo135_2 rfl rfl (fd_ fo48_1 rfl rfl (lk_ sc9 1 rfl rfl rfl ?_))))))))
   refine wl_ov (ov_build (cs := [.int .i64 ia, .string xv, .string is_, .int .i64 3, .string ⟨#[]⟩]) rfl (by kernel_rfl)) rfl ?_
   refine wl_buildSlice (e := 45) (cs := [.int .i64 ia, .string xv, .string is_, .int .i64 3, .string ⟨#[]⟩]) rfl (by kernel_rfl) rfl fun g4 => ?_
   refine wl_append (news := [.int .i64 ia, .string xv, .string is_, .int .i64 3, .string ⟨#[]⟩]) 0 0 ap39 rfl rfl rfl rfl rfl rfl rfl (by omega) (by unfold maxLen; omega) rfl rfl fun v3 hv3 => ?_
   refine sg_ rfl (wl_nil (nx_blk_nrm (nx_then (gw_region (ad_ rfl rfl (mv_ rfl (wl_nil ?_)))))))
   rw [show (hirEvs (ls.take i)).flatMap evEnc ++ ([.int .i64 oa, .string xv, .string os, .int .i64 2, .string ⟨#[]⟩] : List Value) ++ ([.int .i64 ia, .string xv, .string is_, .int .i64 3, .string ⟨#[]⟩] : List Value) = (hirEvs (ls.take (i + 1))).flatMap evEnc from by rw [hat]; simp [evEnc]]
   exact nx_round (i + 1, q + 1 + 1, v3) ⟨by dsimp only; omega, by dsimp only; rw [hat]; simp [hql], by dsimp only; omega⟩ (by dsimp only; omega) ⟨rfl, rfl, rfl, rfl, rfl, (some_int (by omega)), trivial⟩ (fun _ hm => hm.pick [3] [0] [0] rfl rfl)
  have h6 : ia = -1 := by simpa using hh
  clear hh
  refine gw_skip (nx_blk_nrm (nx_then (gw_region ?_)))
  rw [legEv_no (g := (⟨xv, ⟨oa, os, om, of_⟩, ⟨ia, is_, im, if_⟩⟩ : Lg)) h6] at hat
  refine ad_ rfl rfl (mv_ rfl (wl_nil ?_))
  rw [show (hirEvs (ls.take i)).flatMap evEnc ++ ([.int .i64 oa, .string xv, .string os, .int .i64 2, .string ⟨#[]⟩] : List Value) = (hirEvs (ls.take (i + 1))).flatMap evEnc from by rw [hat]; simp [evEnc]]
  exact nx_round (i + 1, q + 1, v2) ⟨by dsimp only; omega, by dsimp only; rw [hat]; simp [hql], by dsimp only; omega⟩ (by dsimp only; omega) ⟨rfl, rfl, rfl, rfl, rfl, (some_int (by omega)), trivial⟩ (fun _ hm => hm.pick [2] [0] [0] rfl rfl)
 have hi : ¬ (((i : Nat) : Int) < ((n : Nat) : Int)) := by simpa using hh
 clear hh
 refine gw_exit ?_
 refine nx_then_exit (nx_then_exit ?_)
 refine nx_blk_here ?_
 refine nx_then (sr_ ?_)
 have hlt : ls.take i = ls := List.take_of_length_le (by omega)
 rw [hlt] at hql ⊢
 refine wl_look (R := ∃ A cc, v = .slice A q cc) (fun wx hm => own_slice (hm.ownI 0 rfl)) ?_
 rintro ⟨E, ec, rfl⟩
 refine mv_ rfl ?_
 by_cases hq0 : q = 0
 ·subst hq0
  have hnil : hirEvs ls = [] := List.length_eq_zero_iff.1 hql
  refine wl_callv rfl cb80 rfl rfl (fun wx hm => (stable0_he E ec wx)) ?_
  refine nn_ (sr_ (mv_ rfl (sg_ rfl (sg_ rfl (nn_ ?_)))))
  refine gw_ret ?_
  refine nx_ret2 rfl rfl rfl fun wx hm => ?_
  exact ⟨E, 0, ec, rfl, by rw [hnil]; exact SlT.nil_ _ _, by omega, hm.g⟩
 refine wl_look (R := ∃ g, E = some ⟨g, 0, none⟩) (fun wx hm => own_addr (hm.ownI 0 rfl) (by omega)) ?_
 rintro ⟨g5, rfl⟩
 refine wl_callr (v := .tuple #[]) (xs' := (isort evLt (hirEvs ls)).flatMap evEnc) 0 rfl rfl rfl cb80 rfl rfl (fun wx hm => (stable_he (hirEvs ls) g5 q ec _ wx (hm.ownI 0 rfl) hql (by omega))) ?_
 refine nn_ (sr_ (mv_ rfl (sg_ rfl (sg_ rfl (nn_ ?_)))))
 refine gw_ret ?_
 refine nx_ret2 rfl rfl rfl fun wx hm => ?_
 exact ⟨_, q, ec, rfl, SlT.ofOwn ev_len (hm.ownI 0 rfl) (by rw [isort_len]; exact hql), by omega, hm.g⟩
end Go.Proofs.YtempjmpfdniecaaGreatDoor
namespace Go.Proofs.YtempjmpfdniecaaGreatDoor
open Go.RowKit
theorem info_rdg : (Tryz.prog.info? 48).map (·.size) = some 4 := by kernel_rfl
theorem mem_small {xs : List ByteArray} {v : ByteArray} (hv : v ∈ xs) (h : ∀ x ∈ xs, x.size ≤ 100) : v.size ≤ 100 := h v hv
set_option maxRecDepth 100000 in
set_option maxHeartbeats 2000000 in
theorem greading_any (at_ : Int) (w : World) (B sb m : Nat) (hS : Strm 25 w B sb m) (hm : m ≤ 100000000000) (ha0 : -4000000000000000 ≤ at_) (ha1 : at_ ≤ 4000000000000000) :
    Calls Tryz.prog 19 #[.pointer (some ⟨sb, 0, none⟩), .int .i64 at_] w (fun e w' => ∃ r : Rd, RdOk r ∧ e = .returned (.agg (rdCells r).toArray) ∧ Strm 25 w' B sb (m + 10) ∧ w.grownBy w' (some sb)) := by
  have hlt := hS.lt
  go_enter Tryz.func19, Tryz.ntmps19
  go_wp2_with fail
  have hb0 := Blk.at_ w rfl 48 [.int .i64 0, .string ⟨#[]⟩, .int .i64 0, .int .i64 0]
  have hne : some w.heap.size ≠ some sb := fun h => absurd (Option.some.inj h) (by omega)
  refine (some_any [⟨#[115, 49]⟩, ⟨#[115, 49]⟩, ⟨#[115, 50]⟩, ⟨#[115, 51]⟩] _ _ _ _ B sb _ ((hS.alloc _).alloc _) (by omega) (by simp) (by simp) (Blk.at_ (w.alloc _) (by simp) _ _) (by omega)).mono ?_
  rintro e w1 ⟨st, hst, rfl, hS1, hg1'⟩
  have hst1 : st.size ≤ 100 := mem_small hst (by decide)
  have hb1 := (hb0.alloc _).grown hg1' hne
  have hg1 : w.grownBy w1 (some sb) := grow_trans (grow_alloc (grow_alloc (World.grownBy.refl _ _) _) _) hg1'
  clear hS hb0 hg1' hst
  go_wp2_with fail
  have hs1 := hS1.lt
  refine (pick_any [0, 5, 100, 500, 999990, 999999] _ _ _ _ B sb _ (hS1.alloc _) (by omega) (by simp) (by simp) (Blk.at_ _ rfl _ _) (by omega)).mono ?_
  rintro e w2 ⟨me, hme, rfl, hS2, hg2'⟩
  have hb2 := (hb1.alloc _).grown hg2' hne
  have hg2 := grow_trans (grow_alloc hg1 _) hg2'
  clear hS1 hb1 hg1 hg2' hme hs1
  go_wp2_with fail
  refine (range_any 0 8 _ B sb _ hS2 (by omega) (by omega) (by omega) (by omega) (by omega)).mono ?_
  rintro e w3 ⟨fu, hfu, rfl, hS3, hg3'⟩
  have hb3 := hb2.grown hg3' hne
  have hg3 := grow_trans hg2 hg3'
  clear hS2 hb2 hg2 hg3' hfu
  go_wp2_with fail
  have hs3 := hS3.lt
  have hne2 : some w3.heap.size ≠ some sb := fun h => absurd (Option.some.inj h) (by omega)
  refine (flip_any 30 _ B sb _ (hS3.alloc _) (by omega) (by omega) (by omega)).mono ?_
  rintro e w4 ⟨fl, rfl, hS4, hg4'⟩
  have hD := (Blk.at_ w3 rfl 48 [.int .i64 at_, .string st, .int .i64 me, .int .i64 fu]).grown hg4' hne2
  have hR := (hb3.alloc _).grown hg4' hne
  have hg4 := grow_trans (grow_alloc hg3 _) hg4'
  have hlow : w.heap.size < w3.heap.size := hb3.lt
  have hsz4 := hS4.lt
  clear hS3 hb3 hg3 hg4' hs3
  cases fl
  · go_wp2_with (first
      | (with_reducible refine wpList_load_all rfl 48 (.tmp 5) rfl w3.heap.size _ _ _ hD rfl Tryz.underlying48 rfl 4 info_rdg rfl ?_)
      | (with_reducible refine wpList_store_all rfl 48 (.tmp 4) (.tmp 35) rfl w.heap.size _ _ [.int .i64 at_, .string st, .int .i64 me, .int .i64 fu] hR rfl rfl 4 info_rdg rfl rfl (by simp [Value.oneCell']) ?_
         intro w9 hR9 hg9))
    refine ret_blk (p := 4) (ty := 48) rfl w.heap.size _ _ _ hR9 rfl Tryz.underlying48 rfl 4 info_rdg rfl rfl ?_
    exact ⟨⟨at_, st, me, fu⟩, (by show st.size ≤ 1000000; omega), rfl, (hS4.grown hg9 (fun k h => by cases h; omega)).more (by omega), grow_own hg4 hg9 (fun k h => by cases h; omega)⟩
  · go_wp2_with fail
    refine (pick_any [at_, at_ + 1, -1, 5761440] _ _ _ _ B sb _ (hS4.alloc _) (by omega) (by simp) (by simp) (Blk.at_ _ rfl _ _) (by omega)).mono ?_
    rintro e w5 ⟨o1, ho1, rfl, hS5, hg5'⟩
    have hD5 := (hD.alloc _).grown hg5' hne2
    have hR5 := (hR.alloc _).grown hg5' hne
    have hw5 := grow_trans (grow_alloc hg4 _) hg5'
    clear hS4 hD hR hg4 hg5' ho1
    go_wp2_with fail
    have hs5 := hS5.lt
    refine (some_any [⟨#[115, 49]⟩, ⟨#[]⟩, ⟨#[65]⟩] _ _ _ _ B sb _ (hS5.alloc _) (by omega) (by simp) (by simp) (Blk.at_ _ rfl _ _) (by omega)).mono ?_
    rintro e w6 ⟨o2, ho2, rfl, hS6, hg6'⟩
    have ho2s : o2.size ≤ 100 := mem_small ho2 (by decide)
    have hD6 := (hD5.alloc _).grown hg6' hne2
    have hR6 := (hR5.alloc _).grown hg6' hne
    have hw6 := grow_trans (grow_alloc hw5 _) hg6'
    clear hS5 hD5 hR5 hw5 hg6' ho2 hs5
    go_wp2_with fail
    refine (odd_any 0 999999 _ B sb _ hS6 (by omega) (by omega) (by omega) (by omega)).mono ?_
    rintro e w7 ⟨o3, ho3, rfl, hS7, hg7⟩
    go_wp2_with fail
    refine (odd_any 0 8 _ B sb _ hS7 (by omega) (by omega) (by omega) (by omega)).mono ?_
    rintro e w8 ⟨o4, ho4, rfl, hS8, hg8⟩
    have hga := grow_trans hg7 hg8
    have hD8 := hD6.grown hga hne2
    have hR8 := hR6.grown hga hne
    have hw8 := grow_trans hw6 hga
    have c0 := hD8.cell_of (i := 0) (v := .int .i64 at_) rfl
    have c1 := hD8.cell_of (i := 1) (v := .string st) rfl
    have c2 := hD8.cell_of (i := 2) (v := .int .i64 me) rfl
    have c3 := hD8.cell_of (i := 3) (v := .int .i64 fu) rfl
    have f0 := hD8.frozen 0
    have f1 := hD8.frozen 1
    have f2 := hD8.frozen 2
    have f3 := hD8.frozen 3
    have hDS : Blk ((((w8.setCell ⟨w3.heap.size, 0, none⟩ (.int .i64 o1)).setCell ⟨w3.heap.size, 1, none⟩ (.string o2)).setCell ⟨w3.heap.size, 2, none⟩ (.int .i64 o3)).setCell ⟨w3.heap.size, 3, none⟩ (.int .i64 o4)) w3.heap.size 48 [.int .i64 o1, .string o2, .int .i64 o3, .int .i64 o4] := (((hD8.set_ 0 _).set_ 1 _).set_ 2 _).set_ 3 _
    have hRS : Blk ((((w8.setCell ⟨w3.heap.size, 0, none⟩ (.int .i64 o1)).setCell ⟨w3.heap.size, 1, none⟩ (.string o2)).setCell ⟨w3.heap.size, 2, none⟩ (.int .i64 o3)).setCell ⟨w3.heap.size, 3, none⟩ (.int .i64 o4)) w.heap.size 48 [.int .i64 0, .string ⟨#[]⟩, .int .i64 0, .int .i64 0] := (((hR8.far (by simp; omega) _).far (by simp; omega) _).far (by simp; omega) _).far (by simp; omega) _
    have hSS : Strm 25 ((((w8.setCell ⟨w3.heap.size, 0, none⟩ (.int .i64 o1)).setCell ⟨w3.heap.size, 1, none⟩ (.string o2)).setCell ⟨w3.heap.size, 2, none⟩ (.int .i64 o3)).setCell ⟨w3.heap.size, 3, none⟩ (.int .i64 o4)) B sb _ := (((hS8.setCell (by simp; omega) _).setCell (by simp; omega) _).setCell (by simp; omega) _).setCell (by simp; omega) _
    have hwS : w.grownBy ((((w8.setCell ⟨w3.heap.size, 0, none⟩ (.int .i64 o1)).setCell ⟨w3.heap.size, 1, none⟩ (.string o2)).setCell ⟨w3.heap.size, 2, none⟩ (.int .i64 o3)).setCell ⟨w3.heap.size, 3, none⟩ (.int .i64 o4)) (some sb) := grow_setCell (grow_setCell (grow_setCell (grow_setCell hw8 (.inr (by simp; omega)) _) (.inr (by simp; omega)) _) (.inr (by simp; omega)) _) (.inr (by simp; omega)) _
    clear hD8 hR8 hw8 hS6 hS7 hS8 hg7 hg8 hga hR6 hw6 hD6 ho3 ho4
    go_wp2_with (first
      | (with_reducible refine wpList_load_all rfl 48 (.tmp 5) rfl w3.heap.size _ _ _ hDS rfl Tryz.underlying48 rfl 4 info_rdg rfl ?_)
      | (with_reducible refine wpList_store_all rfl 48 (.tmp 4) (.tmp 35) rfl w.heap.size _ _ [.int .i64 o1, .string o2, .int .i64 o3, .int .i64 o4] hRS rfl rfl 4 info_rdg rfl rfl (by simp [Value.oneCell']) ?_; intro w9 hR9 hg9))
    refine ret_blk (p := 4) (ty := 48) rfl w.heap.size _ _ _ hR9 rfl Tryz.underlying48 rfl 4 info_rdg rfl rfl ?_
    exact ⟨⟨o1, o2, o3, o4⟩, (by show o2.size ≤ 1000000; omega), rfl, (hSS.grown hg9 (fun k h => by cases h; omega)).more (by omega), grow_own hwS hg9 (fun k h => by cases h; omega)⟩
end Go.Proofs.YtempjmpfdniecaaGreatDoor
namespace Go.Proofs.YtempjmpfdniecaaGreatDoor
open Go.RowKit
theorem rightHireR_any (key : ByteArray) (fr : Int) (w : World) (B sb m : Nat) (hS : Strm 25 w B sb m) (hm : m ≤ 10000000000) (hkey : key.size ≤ 100) (hkb : keyB key = true) (hf0 : 0 ≤ fr) (hf1 : fr ≤ 5000000) :
  Calls Tryz.prog 10 #[.pointer (some ⟨sb, 0, none⟩), .string key, .int .i64 fr] w (fun e w' => ∃ (k d : ByteArray) (f t : Int) (A : Option Addr) (n c : Nat) (l : List Lg), e = .returned (.agg #[.string k, .string d, .int .i64 f, .int .i64 t, .slice A n c]) ∧ SlT lgEnc 9 135 w' A n l ∧ HrOk k d l ∧ 1 ≤ n ∧ n ≤ 4 ∧ hireE ⟨k, d, f, t, l⟩ = 0 ∧ Strm 25 w' B sb (m + 1500) ∧ w.grownBy w' (some sb)) := by
 refine gw_enter ⟨112, w, (some sb), [135]⟩ Tryz.func10 rfl Tryz.ntmps10 rfl (memS (X := []) hS allF_nil allL_nil) ?_
 refine sr_ ?_
 refine wl_alloc zc30 rfl fun g1 => ?_
 refine nn_ (gw_seq (sr_ (mv_ rfl (nn_ (gw_block ?_)))))
 refine gw_loop (γ := Nat) (fun (i : Nat) => i ≤ 6) (fun (i : Nat) => [(0, .pointer (some ⟨sb, 0, none⟩)), (1, .string key), (2, .int .i64 fr), (6, .pointer (some ⟨g1, 0, none⟩)), (19, .int .i64 ((i : Nat) : Int))]) (fun (i : Nat) => fun w => Strm 25 w B sb (m + 200 * i)) (fun (i : Nat) => [(g1, 30, [.string ⟨#[]⟩, .string ⟨#[]⟩, .int .i64 0, .int .i64 0, .slice none 0 0])]) (fun (i : Nat) => []) (fun (i : Nat) => []) (fun (i : Nat) => 6 - i) 0 (Nat.zero_le _) ⟨rfl, rfl, rfl, rfl, rfl, trivial⟩ (fun _ hm => (hm.more rfl (by first | omega | (dsimp only; omega))).pick [0] [] [] rfl rfl) ?_
 intro i hinv
 replace hinv : i ≤ 6 := hinv
 refine sr_ (wl_ov (ov_lss rfl rfl) rfl (nn_ (gw_seq ?_)))
 refine gw_cond rfl (fun hh => ?_) (fun hh => ?_)
 ·have hi : ((i : Nat) : Int) < 6 := by simpa using hh
  clear hh
  refine gw_skip (nx_then (gw_seq (gw_block (sr_ (mv_ rfl (mv_ rfl (mv_ rfl ?_)))))))
  refine wl_buildSlice (e := 3) (cs := [.int .i64 60, .int .i64 100, .int .i64 1440, .int .i64 2000, .int .i64 3000]) rfl (by kernel_rfl) rfl fun g2 => ?_
  refine wl_got (γ := Int) (val := fun v => .int .i64 v) (φ := fun v => v ∈ ([60, 100, 1440, 2000, 3000] : List Int)) rfl cb11 rfl rfl rfl rfl (fun wx hm => (pick_any [60, 100, 1440, 2000, 3000] _ _ _ wx B sb _ hm.k (by omega) (by simp) (by simp) (hm.blkI 0 rfl) (hm.neRow 0 rfl rfl))) fun v3 hv3 => ?_
  have bv3 : 60 ≤ v3 ∧ v3 ≤ 3000 := mem_rng hv3 (by decide)
  have bv30 := bv3.1
  have bv31 := bv3.2
  clear bv3
  refine ad_ rfl rfl ?_
  refine wl_ov (ov_build (cs := [.int .i64 fr, .int .i64 (fr + v3)]) rfl (by kernel_rfl)) rfl ?_
  refine wl_alloc zc27 rfl fun g4 => ?_
  refine wl_stores (cs' := [.int .i64 fr, .int .i64 (fr + v3)]) 0 rz27 rfl rfl rfl rfl rfl rfl rfl rfl ?_
  refine nn_ ?_
  refine gw_cut (γ := ByteArray × ByteArray × Int × Int × Option Addr × Nat × Nat × List Lg × Int × Nat) (I := (fun g => HrOk g.1 g.2.1 g.2.2.2.2.2.2.2.1 ∧ g.2.2.2.2.2.1 ≤ 1 ∧ (g.2.2.2.2.2.2.2.2.1 = 0 → g.2.2.2.2.2.1 = 1 ∧ hireE ⟨g.1, g.2.1, g.2.2.1, g.2.2.2.1, g.2.2.2.2.2.2.2.1⟩ = 0))) (S' := (fun g => [(0, .pointer (some ⟨sb, 0, none⟩)), (1, .string key), (2, .int .i64 fr), (6, .pointer (some ⟨g1, 0, none⟩)), (8, .pointer (some ⟨g.2.2.2.2.2.2.2.2.2, 0, none⟩)), (9, .int .i64 g.2.2.2.2.2.2.2.2.1), (19, .int .i64 ((i : Nat) : Int))])) (K' := (fun g => fun w => Strm 25 w B sb (m + 200 * i + 1 + 1 + 1 + 10))) (L' := (fun g => [(g4, 27, [.int .i64 fr, .int .i64 (fr + v3)]), (g2, 3, [.int .i64 60, .int .i64 100, .int .i64 1440, .int .i64 2000, .int .i64 3000]), (g1, 30, [.string ⟨#[]⟩, .string ⟨#[]⟩, .int .i64 0, .int .i64 0, .slice none 0 0]), (g.2.2.2.2.2.2.2.2.2, 30, [.string g.1, .string g.2.1, .int .i64 g.2.2.1, .int .i64 g.2.2.2.1, .slice g.2.2.2.2.1 g.2.2.2.2.2.1 g.2.2.2.2.2.2.1])])) (O' := (fun g => [])) (X' := (fun g => [fun wy => SlT lgEnc 9 135 wy g.2.2.2.2.1 g.2.2.2.2.2.1 g.2.2.2.2.2.2.2.1])) ?_ ?_
  ·refine gd (fun wz => Blk wz g4 27 [.int .i64 fr, .int .i64 (fr + v3)] ∧ Blk wz g2 3 [.int .i64 60, .int .i64 100, .int .i64 1440, .int .i64 2000, .int .i64 3000] ∧ Blk wz g1 30 [.string ⟨#[]⟩, .string ⟨#[]⟩, .int .i64 0, .int .i64 0, .slice none 0 0] ∧ True) mixed (fun _ hm => ⟨hm.bl 0, hm.bl 1, hm.bl 2, trivial⟩) fun z => ?_
   refine wt 0 18 1 rfl z (ov_move rfl) ?_
   refine wt 1 18 3 rfl z (ov_move rfl) ?_
   refine wt 4 18 19 rfl z (ov_loads rz27 rfl (fun _ hm => hm.1) rfl rfl) ?_
   refine wt 5 18 51 rfl z (ov_move rfl) ?_
   refine wt 8 18 307 rfl z (ov_move rfl) ?_
   refine wt 9 18 819 rfl z (ov_move rfl) ?_
   refine wa_all [2, 6, 15] (by kernel_rfl) rfl ⟨⟨_, rfl, ?_⟩, ⟨_, rfl, ?_⟩, ⟨_, rfl, ?_⟩, trivial⟩
   ·refine wl_buildSlice (e := 9) (cs := [.string ⟨#[97, 110, 110]⟩, .string ⟨#[97, 110, 110]⟩, .string ⟨#[98, 111, 98]⟩, .string ⟨#[99, 105, 100]⟩]) rfl (by kernel_rfl) rfl fun g5 => ?_
    refine wl_nil ?_
    refine nw 18 823 (fun _ hm => ⟨hm.bl 1, hm.bl 2, hm.bl 3, trivial⟩) fun z => ?_
    refine wa_all [3, 6, 15] (by kernel_rfl) rfl ⟨⟨_, rfl, ?_⟩, ⟨_, rfl, ?_⟩, ⟨_, rfl, ?_⟩, trivial⟩
    ·refine wl_got (γ := ByteArray) (val := fun v => .string v) (φ := fun v => v ∈ ([⟨#[97, 110, 110]⟩, ⟨#[97, 110, 110]⟩, ⟨#[98, 111, 98]⟩, ⟨#[99, 105, 100]⟩] : List ByteArray)) rfl cb49 rfl rfl rfl rfl (fun wx hm => (some_any [⟨#[97, 110, 110]⟩, ⟨#[97, 110, 110]⟩, ⟨#[98, 111, 98]⟩, ⟨#[99, 105, 100]⟩] _ _ _ wx B sb _ hm.k (by omega) (by simp) (by simp) (hm.blkI 0 rfl) (hm.neRow 0 rfl rfl))) fun s6 hs6 => ?_
     have zs6 : s6.size ≤ 100 := mem_sz hs6 (by decide)
     refine wl_nil ?_
     refine nw 18 831 (fun _ hm => ⟨hm.bl 1, hm.bl 2, hm.bl 3, trivial⟩) fun z => ?_
     refine wa_all [6, 15] (by kernel_rfl) rfl ⟨⟨_, rfl, ?_⟩, ⟨_, rfl, ?_⟩, trivial⟩
     ·refine wl_buildSlice (e := 9) (cs := [.string ⟨#[118, 49]⟩, .string ⟨#[118, 49]⟩, .string ⟨#[118, 50]⟩, .string ⟨#[118, 51]⟩]) rfl (by kernel_rfl) rfl fun g7 => ?_
      refine wl_nil ?_
      refine nw 18 895 (fun _ hm => ⟨hm.bl 2, hm.bl 3, hm.bl 4, trivial⟩) fun z => ?_
      refine wa_all [7, 15] (by kernel_rfl) rfl ⟨⟨_, rfl, ?_⟩, ⟨_, rfl, ?_⟩, trivial⟩
      ·refine wl_got (γ := ByteArray) (val := fun v => .string v) (φ := fun v => v ∈ ([⟨#[118, 49]⟩, ⟨#[118, 49]⟩, ⟨#[118, 50]⟩, ⟨#[118, 51]⟩] : List ByteArray)) rfl cb49 rfl rfl rfl rfl (fun wx hm => (some_any [⟨#[118, 49]⟩, ⟨#[118, 49]⟩, ⟨#[118, 50]⟩, ⟨#[118, 51]⟩] _ _ _ wx B sb _ hm.k (by omega) (by simp) (by simp) (hm.blkI 0 rfl) (hm.neRow 0 rfl rfl))) fun s8 hs8 => ?_
       have zs8 : s8.size ≤ 100 := mem_sz hs8 (by decide)
       refine wl_nil ?_
       refine nw 18 1023 (fun _ hm => ⟨hm.bl 2, hm.bl 3, hm.bl 4, trivial⟩) fun z => ?_
       refine wa_all [10, 15] (by kernel_rfl) rfl ⟨⟨_, rfl, ?_⟩, ⟨_, rfl, ?_⟩, trivial⟩
       ·refine wl_calls (γ := Int × ByteArray × Int × Int) (val := (fun g => .agg #[.int .i64 g.1, .string g.2.1, .int .i64 g.2.2.1, .int .i64 g.2.2.2])) (φ := (fun g => RdOk ⟨g.1, g.2.1, g.2.2.1, g.2.2.2⟩)) (Y := (fun g => fun _ => True)) (m' := m + 200 * i + 1 + 1 + 1 + 10) rfl cb19 rfl rfl rfl rfl (fun wx hm => (greading_any fr wx B sb _ hm.k (by omega) (by omega) (by omega)).mono fun _ _ ⟨r, hok, he, hS, hg⟩ => ⟨(r.at_, r.st, r.meter, r.fuel), he, hok, hS, hg, trivial⟩) (fun _ => Lasts2.true_) ?_
        rintro ⟨ra, rs, rm, rf⟩ hr_ra
        dsimp only at hr_ra ⊢
        have hz_rs : rs.size ≤ 1000000 := hr_ra
        refine wl_nil ?_
        refine nw 18 2047 (fun _ hm => ⟨hm.bl 2, hm.bl 3, hm.bl 4, trivial⟩) fun z => ?_
        refine wa_all [11, 15] (by kernel_rfl) rfl ⟨⟨_, rfl, ?_⟩, ⟨_, rfl, ?_⟩, trivial⟩
        ·refine wl_callx (γ := ByteArray × ByteArray × Int × Int × Option Addr × Nat × Nat × List Lg) (val := (fun g => .tuple #[.agg #[.string g.1, .string g.2.1, .int .i64 g.2.2.1, .int .i64 g.2.2.2.1, .slice g.2.2.2.2.1 g.2.2.2.2.2.1 g.2.2.2.2.2.2.1], .int .i64 (hireE ⟨key, s6, fr, fr + v3, [startLeg s8 ⟨ra, rs, rm, rf⟩]⟩)])) (φ := (fun g => HrOk g.1 g.2.1 g.2.2.2.2.2.2.2 ∧ g.2.2.2.2.2.1 ≤ 1 ∧ (hireE ⟨key, s6, fr, fr + v3, [startLeg s8 ⟨ra, rs, rm, rf⟩]⟩ = 0 → g.2.2.2.2.2.1 = 1 ∧ hireE ⟨g.1, g.2.1, g.2.2.1, g.2.2.2.1, g.2.2.2.2.2.2.2⟩ = 0))) (Y := (fun g => fun wy => SlT lgEnc 9 135 wy g.2.2.2.2.1 g.2.2.2.2.2.1 g.2.2.2.2.2.2.2)) rfl cb62 rfl rfl (fun wx hm => (startOf_litR key s6 fr (fr + v3) s8 ra rm rf rs wx (by omega) (by omega) (by omega) hz_rs).mono fun _ _ ⟨k, d, f, t, A, n, c, l, he, hsl, hok, hn, hn0, hg⟩ => ⟨(k, d, f, t, A, n, c, l), he, ⟨hok, hn, hn0⟩, hg, hsl⟩) (fun _ => SlT.lasts2 rfl) ?_
         rintro ⟨k1, d1, f1, t1, A1, n1, c1, l1⟩ hb1
         dsimp only at hb1 ⊢
         refine wl_nil ?_
         refine nw 18 4095 (fun _ hm => ⟨hm.bl 2, hm.bl 3, hm.bl 4, trivial⟩) fun z => ?_
         refine wt 12 18 8191 rfl z (ov_move rfl) ?_
         refine wt 13 18 16383 rfl z (ov_extract rfl rfl) ?_
         refine wt 14 18 32767 rfl z (ov_extract rfl rfl) ?_
         refine wa1 15 rfl ?_
         refine wl_alloc zc30 rfl fun g10 => ?_
         refine wl_nil ?_
         refine nw 18 65535 (fun _ hm => ⟨hm.bl 3, hm.bl 4, hm.bl 5, trivial⟩) fun z => ?_
         refine wa1 16 rfl ?_
         refine wl_stores (cs' := [.string k1, .string d1, .int .i64 f1, .int .i64 t1, .slice A1 n1 c1]) 0 rz30 rfl rfl rfl rfl rfl rfl rfl rfl ?_
         refine wl_nil ?_
         refine nw 18 131071 (fun _ hm => ⟨hm.bl 3, hm.bl 4, hm.bl 5, trivial⟩) fun z => ?_
         refine wt 17 18 262143 rfl z (ov_assign rfl) ?_
         refine wa_done (by kernel_rfl) ?_
         exact nx_meet (k1, d1, f1, t1, A1, n1, c1, l1, hireE ⟨key, s6, fr, fr + v3, [startLeg s8 ⟨ra, rs, rm, rf⟩]⟩, g10) hb1 ⟨rfl, rfl, rfl, rfl, rfl, rfl, rfl, trivial⟩ (fun _ hm => hm.pick [3, 4, 5, 0] [] [0] rfl rfl)
        refine wl_alloc zc30 rfl fun g11 => ?_
        refine wl_nil ?_
        refine nw 18 34815 (fun _ hm => ⟨hm.bl 3, hm.bl 4, hm.bl 5, trivial⟩) fun z => ?_
        refine wa1 11 rfl ?_
        refine wl_callx (γ := ByteArray × ByteArray × Int × Int × Option Addr × Nat × Nat × List Lg) (val := (fun g => .tuple #[.agg #[.string g.1, .string g.2.1, .int .i64 g.2.2.1, .int .i64 g.2.2.2.1, .slice g.2.2.2.2.1 g.2.2.2.2.2.1 g.2.2.2.2.2.2.1], .int .i64 (hireE ⟨key, s6, fr, fr + v3, [startLeg s8 ⟨ra, rs, rm, rf⟩]⟩)])) (φ := (fun g => HrOk g.1 g.2.1 g.2.2.2.2.2.2.2 ∧ g.2.2.2.2.2.1 ≤ 1 ∧ (hireE ⟨key, s6, fr, fr + v3, [startLeg s8 ⟨ra, rs, rm, rf⟩]⟩ = 0 → g.2.2.2.2.2.1 = 1 ∧ hireE ⟨g.1, g.2.1, g.2.2.1, g.2.2.2.1, g.2.2.2.2.2.2.2⟩ = 0))) (Y := (fun g => fun wy => SlT lgEnc 9 135 wy g.2.2.2.2.1 g.2.2.2.2.2.1 g.2.2.2.2.2.2.2)) rfl cb62 rfl rfl (fun wx hm => (startOf_litR key s6 fr (fr + v3) s8 ra rm rf rs wx (by omega) (by omega) (by omega) hz_rs).mono fun _ _ ⟨k, d, f, t, A, n, c, l, he, hsl, hok, hn, hn0, hg⟩ => ⟨(k, d, f, t, A, n, c, l), he, ⟨hok, hn, hn0⟩, hg, hsl⟩) (fun _ => SlT.lasts2 rfl) ?_
        rintro ⟨k1, d1, f1, t1, A1, n1, c1, l1⟩ hb1
        dsimp only at hb1 ⊢
        refine wl_nil ?_
        refine nw 18 36863 (fun _ hm => ⟨hm.bl 3, hm.bl 4, hm.bl 5, trivial⟩) fun z => ?_
        refine wt 12 18 40959 rfl z (ov_move rfl) ?_
        refine wt 13 18 49151 rfl z (ov_extract rfl rfl) ?_
        refine wt 14 18 65535 rfl z (ov_extract rfl rfl) ?_
        refine wa1 16 rfl ?_
        refine wl_stores (cs' := [.string k1, .string d1, .int .i64 f1, .int .i64 t1, .slice A1 n1 c1]) 0 rz30 rfl rfl rfl rfl rfl rfl rfl rfl ?_
        refine wl_nil ?_
        refine nw 18 131071 (fun _ hm => ⟨hm.bl 3, hm.bl 4, hm.bl 5, trivial⟩) fun z => ?_
        refine wt 17 18 262143 rfl z (ov_assign rfl) ?_
        refine wa_done (by kernel_rfl) ?_
        exact nx_meet (k1, d1, f1, t1, A1, n1, c1, l1, hireE ⟨key, s6, fr, fr + v3, [startLeg s8 ⟨ra, rs, rm, rf⟩]⟩, g11) hb1 ⟨rfl, rfl, rfl, rfl, rfl, rfl, rfl, trivial⟩ (fun _ hm => hm.pick [3, 4, 5, 0] [] [0] rfl rfl)
       refine wl_alloc zc30 rfl fun g12 => ?_
       refine wl_nil ?_
       refine nw 18 33791 (fun _ hm => ⟨hm.bl 3, hm.bl 4, hm.bl 5, trivial⟩) fun z => ?_
       refine wa1 10 rfl ?_
       refine wl_calls (γ := Int × ByteArray × Int × Int) (val := (fun g => .agg #[.int .i64 g.1, .string g.2.1, .int .i64 g.2.2.1, .int .i64 g.2.2.2])) (φ := (fun g => RdOk ⟨g.1, g.2.1, g.2.2.1, g.2.2.2⟩)) (Y := (fun g => fun _ => True)) (m' := m + 200 * i + 1 + 1 + 1 + 10) rfl cb19 rfl rfl rfl rfl (fun wx hm => (greading_any fr wx B sb _ hm.k (by omega) (by omega) (by omega)).mono fun _ _ ⟨r, hok, he, hS, hg⟩ => ⟨(r.at_, r.st, r.meter, r.fuel), he, hok, hS, hg, trivial⟩) (fun _ => Lasts2.true_) ?_
       rintro ⟨ra, rs, rm, rf⟩ hr_ra
       dsimp only at hr_ra ⊢
       have hz_rs : rs.size ≤ 1000000 := hr_ra
       refine wl_nil ?_
       refine nw 18 34815 (fun _ hm => ⟨hm.bl 3, hm.bl 4, hm.bl 5, trivial⟩) fun z => ?_
       refine wa1 11 rfl ?_
       refine wl_callx (γ := ByteArray × ByteArray × Int × Int × Option Addr × Nat × Nat × List Lg) (val := (fun g => .tuple #[.agg #[.string g.1, .string g.2.1, .int .i64 g.2.2.1, .int .i64 g.2.2.2.1, .slice g.2.2.2.2.1 g.2.2.2.2.2.1 g.2.2.2.2.2.2.1], .int .i64 (hireE ⟨key, s6, fr, fr + v3, [startLeg s8 ⟨ra, rs, rm, rf⟩]⟩)])) (φ := (fun g => HrOk g.1 g.2.1 g.2.2.2.2.2.2.2 ∧ g.2.2.2.2.2.1 ≤ 1 ∧ (hireE ⟨key, s6, fr, fr + v3, [startLeg s8 ⟨ra, rs, rm, rf⟩]⟩ = 0 → g.2.2.2.2.2.1 = 1 ∧ hireE ⟨g.1, g.2.1, g.2.2.1, g.2.2.2.1, g.2.2.2.2.2.2.2⟩ = 0))) (Y := (fun g => fun wy => SlT lgEnc 9 135 wy g.2.2.2.2.1 g.2.2.2.2.2.1 g.2.2.2.2.2.2.2)) rfl cb62 rfl rfl (fun wx hm => (startOf_litR key s6 fr (fr + v3) s8 ra rm rf rs wx (by omega) (by omega) (by omega) hz_rs).mono fun _ _ ⟨k, d, f, t, A, n, c, l, he, hsl, hok, hn, hn0, hg⟩ => ⟨(k, d, f, t, A, n, c, l), he, ⟨hok, hn, hn0⟩, hg, hsl⟩) (fun _ => SlT.lasts2 rfl) ?_
       rintro ⟨k1, d1, f1, t1, A1, n1, c1, l1⟩ hb1
       dsimp only at hb1 ⊢
       refine wl_nil ?_
       refine nw 18 36863 (fun _ hm => ⟨hm.bl 3, hm.bl 4, hm.bl 5, trivial⟩) fun z => ?_
       refine wt 12 18 40959 rfl z (ov_move rfl) ?_
       refine wt 13 18 49151 rfl z (ov_extract rfl rfl) ?_
       refine wt 14 18 65535 rfl z (ov_extract rfl rfl) ?_
       refine wa1 16 rfl ?_
       refine wl_stores (cs' := [.string k1, .string d1, .int .i64 f1, .int .i64 t1, .slice A1 n1 c1]) 0 rz30 rfl rfl rfl rfl rfl rfl rfl rfl ?_
       refine wl_nil ?_
       refine nw 18 131071 (fun _ hm => ⟨hm.bl 3, hm.bl 4, hm.bl 5, trivial⟩) fun z => ?_
       refine wt 17 18 262143 rfl z (ov_assign rfl) ?_
       refine wa_done (by kernel_rfl) ?_
       exact nx_meet (k1, d1, f1, t1, A1, n1, c1, l1, hireE ⟨key, s6, fr, fr + v3, [startLeg s8 ⟨ra, rs, rm, rf⟩]⟩, g12) hb1 ⟨rfl, rfl, rfl, rfl, rfl, rfl, rfl, trivial⟩ (fun _ hm => hm.pick [3, 4, 5, 0] [] [0] rfl rfl)
      refine wl_alloc zc30 rfl fun g14 => ?_
      refine wl_nil ?_
      refine nw 18 33663 (fun _ hm => ⟨hm.bl 3, hm.bl 4, hm.bl 5, trivial⟩) fun z => ?_
      refine wa1 7 rfl ?_
      refine wl_got (γ := ByteArray) (val := fun v => .string v) (φ := fun v => v ∈ ([⟨#[118, 49]⟩, ⟨#[118, 49]⟩, ⟨#[118, 50]⟩, ⟨#[118, 51]⟩] : List ByteArray)) rfl cb49 rfl rfl rfl rfl (fun wx hm => (some_any [⟨#[118, 49]⟩, ⟨#[118, 49]⟩, ⟨#[118, 50]⟩, ⟨#[118, 51]⟩] _ _ _ wx B sb _ hm.k (by omega) (by simp) (by simp) (hm.blkI 1 rfl) (hm.neRow 1 rfl rfl))) fun s15 hs15 => ?_
      have zs15 : s15.size ≤ 100 := mem_sz hs15 (by decide)
      refine wl_nil ?_
      refine nw 18 33791 (fun _ hm => ⟨hm.bl 3, hm.bl 4, hm.bl 5, trivial⟩) fun z => ?_
      refine wa1 10 rfl ?_
      refine wl_calls (γ := Int × ByteArray × Int × Int) (val := (fun g => .agg #[.int .i64 g.1, .string g.2.1, .int .i64 g.2.2.1, .int .i64 g.2.2.2])) (φ := (fun g => RdOk ⟨g.1, g.2.1, g.2.2.1, g.2.2.2⟩)) (Y := (fun g => fun _ => True)) (m' := m + 200 * i + 1 + 1 + 1 + 10) rfl cb19 rfl rfl rfl rfl (fun wx hm => (greading_any fr wx B sb _ hm.k (by omega) (by omega) (by omega)).mono fun _ _ ⟨r, hok, he, hS, hg⟩ => ⟨(r.at_, r.st, r.meter, r.fuel), he, hok, hS, hg, trivial⟩) (fun _ => Lasts2.true_) ?_
      rintro ⟨ra, rs, rm, rf⟩ hr_ra
      dsimp only at hr_ra ⊢
      have hz_rs : rs.size ≤ 1000000 := hr_ra
      refine wl_nil ?_
      refine nw 18 34815 (fun _ hm => ⟨hm.bl 3, hm.bl 4, hm.bl 5, trivial⟩) fun z => ?_
      refine wa1 11 rfl ?_
      refine wl_callx (γ := ByteArray × ByteArray × Int × Int × Option Addr × Nat × Nat × List Lg) (val := (fun g => .tuple #[.agg #[.string g.1, .string g.2.1, .int .i64 g.2.2.1, .int .i64 g.2.2.2.1, .slice g.2.2.2.2.1 g.2.2.2.2.2.1 g.2.2.2.2.2.2.1], .int .i64 (hireE ⟨key, s6, fr, fr + v3, [startLeg s15 ⟨ra, rs, rm, rf⟩]⟩)])) (φ := (fun g => HrOk g.1 g.2.1 g.2.2.2.2.2.2.2 ∧ g.2.2.2.2.2.1 ≤ 1 ∧ (hireE ⟨key, s6, fr, fr + v3, [startLeg s15 ⟨ra, rs, rm, rf⟩]⟩ = 0 → g.2.2.2.2.2.1 = 1 ∧ hireE ⟨g.1, g.2.1, g.2.2.1, g.2.2.2.1, g.2.2.2.2.2.2.2⟩ = 0))) (Y := (fun g => fun wy => SlT lgEnc 9 135 wy g.2.2.2.2.1 g.2.2.2.2.2.1 g.2.2.2.2.2.2.2)) rfl cb62 rfl rfl (fun wx hm => (startOf_litR key s6 fr (fr + v3) s15 ra rm rf rs wx (by omega) (by omega) (by omega) hz_rs).mono fun _ _ ⟨k, d, f, t, A, n, c, l, he, hsl, hok, hn, hn0, hg⟩ => ⟨(k, d, f, t, A, n, c, l), he, ⟨hok, hn, hn0⟩, hg, hsl⟩) (fun _ => SlT.lasts2 rfl) ?_
      rintro ⟨k1, d1, f1, t1, A1, n1, c1, l1⟩ hb1
      dsimp only at hb1 ⊢
      refine wl_nil ?_
      refine nw 18 36863 (fun _ hm => ⟨hm.bl 3, hm.bl 4, hm.bl 5, trivial⟩) fun z => ?_
      refine wt 12 18 40959 rfl z (ov_move rfl) ?_
      refine wt 13 18 49151 rfl z (ov_extract rfl rfl) ?_
      refine wt 14 18 65535 rfl z (ov_extract rfl rfl) ?_
      refine wa1 16 rfl ?_
      refine wl_stores (cs' := [.string k1, .string d1, .int .i64 f1, .int .i64 t1, .slice A1 n1 c1]) 0 rz30 rfl rfl rfl rfl rfl rfl rfl rfl ?_
      refine wl_nil ?_
      refine nw 18 131071 (fun _ hm => ⟨hm.bl 3, hm.bl 4, hm.bl 5, trivial⟩) fun z => ?_
      refine wt 17 18 262143 rfl z (ov_assign rfl) ?_
      refine wa_done (by kernel_rfl) ?_
      exact nx_meet (k1, d1, f1, t1, A1, n1, c1, l1, hireE ⟨key, s6, fr, fr + v3, [startLeg s15 ⟨ra, rs, rm, rf⟩]⟩, g14) hb1 ⟨rfl, rfl, rfl, rfl, rfl, rfl, rfl, trivial⟩ (fun _ hm => hm.pick [3, 4, 5, 0] [] [0] rfl rfl)
     refine wl_alloc zc30 rfl fun g17 => ?_
     refine wl_nil ?_
     refine nw 18 33599 (fun _ hm => ⟨hm.bl 2, hm.bl 3, hm.bl 4, trivial⟩) fun z => ?_
     refine wa1 6 rfl ?_
     refine wl_buildSlice (e := 9) (cs := [.string ⟨#[118, 49]⟩, .string ⟨#[118, 49]⟩, .string ⟨#[118, 50]⟩, .string ⟨#[118, 51]⟩]) rfl (by kernel_rfl) rfl fun g18 => ?_
     refine wl_nil ?_
     refine nw 18 33663 (fun _ hm => ⟨hm.bl 3, hm.bl 4, hm.bl 5, trivial⟩) fun z => ?_
     refine wa1 7 rfl ?_
     refine wl_got (γ := ByteArray) (val := fun v => .string v) (φ := fun v => v ∈ ([⟨#[118, 49]⟩, ⟨#[118, 49]⟩, ⟨#[118, 50]⟩, ⟨#[118, 51]⟩] : List ByteArray)) rfl cb49 rfl rfl rfl rfl (fun wx hm => (some_any [⟨#[118, 49]⟩, ⟨#[118, 49]⟩, ⟨#[118, 50]⟩, ⟨#[118, 51]⟩] _ _ _ wx B sb _ hm.k (by omega) (by simp) (by simp) (hm.blkI 0 rfl) (hm.neRow 0 rfl rfl))) fun s19 hs19 => ?_
     have zs19 : s19.size ≤ 100 := mem_sz hs19 (by decide)
     refine wl_nil ?_
     refine nw 18 33791 (fun _ hm => ⟨hm.bl 3, hm.bl 4, hm.bl 5, trivial⟩) fun z => ?_
     refine wa1 10 rfl ?_
     refine wl_calls (γ := Int × ByteArray × Int × Int) (val := (fun g => .agg #[.int .i64 g.1, .string g.2.1, .int .i64 g.2.2.1, .int .i64 g.2.2.2])) (φ := (fun g => RdOk ⟨g.1, g.2.1, g.2.2.1, g.2.2.2⟩)) (Y := (fun g => fun _ => True)) (m' := m + 200 * i + 1 + 1 + 1 + 10) rfl cb19 rfl rfl rfl rfl (fun wx hm => (greading_any fr wx B sb _ hm.k (by omega) (by omega) (by omega)).mono fun _ _ ⟨r, hok, he, hS, hg⟩ => ⟨(r.at_, r.st, r.meter, r.fuel), he, hok, hS, hg, trivial⟩) (fun _ => Lasts2.true_) ?_
     rintro ⟨ra, rs, rm, rf⟩ hr_ra
     dsimp only at hr_ra ⊢
     have hz_rs : rs.size ≤ 1000000 := hr_ra
     refine wl_nil ?_
     refine nw 18 34815 (fun _ hm => ⟨hm.bl 3, hm.bl 4, hm.bl 5, trivial⟩) fun z => ?_
     refine wa1 11 rfl ?_
     refine wl_callx (γ := ByteArray × ByteArray × Int × Int × Option Addr × Nat × Nat × List Lg) (val := (fun g => .tuple #[.agg #[.string g.1, .string g.2.1, .int .i64 g.2.2.1, .int .i64 g.2.2.2.1, .slice g.2.2.2.2.1 g.2.2.2.2.2.1 g.2.2.2.2.2.2.1], .int .i64 (hireE ⟨key, s6, fr, fr + v3, [startLeg s19 ⟨ra, rs, rm, rf⟩]⟩)])) (φ := (fun g => HrOk g.1 g.2.1 g.2.2.2.2.2.2.2 ∧ g.2.2.2.2.2.1 ≤ 1 ∧ (hireE ⟨key, s6, fr, fr + v3, [startLeg s19 ⟨ra, rs, rm, rf⟩]⟩ = 0 → g.2.2.2.2.2.1 = 1 ∧ hireE ⟨g.1, g.2.1, g.2.2.1, g.2.2.2.1, g.2.2.2.2.2.2.2⟩ = 0))) (Y := (fun g => fun wy => SlT lgEnc 9 135 wy g.2.2.2.2.1 g.2.2.2.2.2.1 g.2.2.2.2.2.2.2)) rfl cb62 rfl rfl (fun wx hm => (startOf_litR key s6 fr (fr + v3) s19 ra rm rf rs wx (by omega) (by omega) (by omega) hz_rs).mono fun _ _ ⟨k, d, f, t, A, n, c, l, he, hsl, hok, hn, hn0, hg⟩ => ⟨(k, d, f, t, A, n, c, l), he, ⟨hok, hn, hn0⟩, hg, hsl⟩) (fun _ => SlT.lasts2 rfl) ?_
     rintro ⟨k1, d1, f1, t1, A1, n1, c1, l1⟩ hb1
     dsimp only at hb1 ⊢
     refine wl_nil ?_
     refine nw 18 36863 (fun _ hm => ⟨hm.bl 3, hm.bl 4, hm.bl 5, trivial⟩) fun z => ?_
     refine wt 12 18 40959 rfl z (ov_move rfl) ?_
     refine wt 13 18 49151 rfl z (ov_extract rfl rfl) ?_
     refine wt 14 18 65535 rfl z (ov_extract rfl rfl) ?_
     refine wa1 16 rfl ?_
     refine wl_stores (cs' := [.string k1, .string d1, .int .i64 f1, .int .i64 t1, .slice A1 n1 c1]) 1 rz30 rfl rfl rfl rfl rfl rfl rfl rfl ?_
     refine wl_nil ?_
     refine nw 18 131071 (fun _ hm => ⟨hm.bl 3, hm.bl 4, hm.bl 5, trivial⟩) fun z => ?_
     refine wt 17 18 262143 rfl z (ov_assign rfl) ?_
     refine wa_done (by kernel_rfl) ?_
     exact nx_meet (k1, d1, f1, t1, A1, n1, c1, l1, hireE ⟨key, s6, fr, fr + v3, [startLeg s19 ⟨ra, rs, rm, rf⟩]⟩, g17) hb1 ⟨rfl, rfl, rfl, rfl, rfl, rfl, rfl, trivial⟩ (fun _ hm => hm.pick [3, 4, 5, 1] [] [0] rfl rfl)
    ·refine wl_buildSlice (e := 9) (cs := [.string ⟨#[118, 49]⟩, .string ⟨#[118, 49]⟩, .string ⟨#[118, 50]⟩, .string ⟨#[118, 51]⟩]) rfl (by kernel_rfl) rfl fun g21 => ?_
     refine wl_nil ?_
     refine nw 18 887 (fun _ hm => ⟨hm.bl 2, hm.bl 3, hm.bl 4, trivial⟩) fun z => ?_
     refine wa_all [3, 15] (by kernel_rfl) rfl ⟨⟨_, rfl, ?_⟩, ⟨_, rfl, ?_⟩, trivial⟩
     ·refine wl_got (γ := ByteArray) (val := fun v => .string v) (φ := fun v => v ∈ ([⟨#[97, 110, 110]⟩, ⟨#[97, 110, 110]⟩, ⟨#[98, 111, 98]⟩, ⟨#[99, 105, 100]⟩] : List ByteArray)) rfl cb49 rfl rfl rfl rfl (fun wx hm => (some_any [⟨#[97, 110, 110]⟩, ⟨#[97, 110, 110]⟩, ⟨#[98, 111, 98]⟩, ⟨#[99, 105, 100]⟩] _ _ _ wx B sb _ hm.k (by omega) (by simp) (by simp) (hm.blkI 1 rfl) (hm.neRow 1 rfl rfl))) fun s22 hs22 => ?_
      have zs22 : s22.size ≤ 100 := mem_sz hs22 (by decide)
      refine wl_nil ?_
      refine nw 18 895 (fun _ hm => ⟨hm.bl 2, hm.bl 3, hm.bl 4, trivial⟩) fun z => ?_
      refine wa_all [7, 15] (by kernel_rfl) rfl ⟨⟨_, rfl, ?_⟩, ⟨_, rfl, ?_⟩, trivial⟩
      ·refine wl_got (γ := ByteArray) (val := fun v => .string v) (φ := fun v => v ∈ ([⟨#[118, 49]⟩, ⟨#[118, 49]⟩, ⟨#[118, 50]⟩, ⟨#[118, 51]⟩] : List ByteArray)) rfl cb49 rfl rfl rfl rfl (fun wx hm => (some_any [⟨#[118, 49]⟩, ⟨#[118, 49]⟩, ⟨#[118, 50]⟩, ⟨#[118, 51]⟩] _ _ _ wx B sb _ hm.k (by omega) (by simp) (by simp) (hm.blkI 0 rfl) (hm.neRow 0 rfl rfl))) fun s23 hs23 => ?_
       have zs23 : s23.size ≤ 100 := mem_sz hs23 (by decide)
       refine wl_nil ?_
       refine nw 18 1023 (fun _ hm => ⟨hm.bl 2, hm.bl 3, hm.bl 4, trivial⟩) fun z => ?_
       refine wa_all [10, 15] (by kernel_rfl) rfl ⟨⟨_, rfl, ?_⟩, ⟨_, rfl, ?_⟩, trivial⟩
       ·refine wl_calls (γ := Int × ByteArray × Int × Int) (val := (fun g => .agg #[.int .i64 g.1, .string g.2.1, .int .i64 g.2.2.1, .int .i64 g.2.2.2])) (φ := (fun g => RdOk ⟨g.1, g.2.1, g.2.2.1, g.2.2.2⟩)) (Y := (fun g => fun _ => True)) (m' := m + 200 * i + 1 + 1 + 1 + 10) rfl cb19 rfl rfl rfl rfl (fun wx hm => (greading_any fr wx B sb _ hm.k (by omega) (by omega) (by omega)).mono fun _ _ ⟨r, hok, he, hS, hg⟩ => ⟨(r.at_, r.st, r.meter, r.fuel), he, hok, hS, hg, trivial⟩) (fun _ => Lasts2.true_) ?_
        rintro ⟨ra, rs, rm, rf⟩ hr_ra
        dsimp only at hr_ra ⊢
        have hz_rs : rs.size ≤ 1000000 := hr_ra
        refine wl_nil ?_
        refine nw 18 2047 (fun _ hm => ⟨hm.bl 2, hm.bl 3, hm.bl 4, trivial⟩) fun z => ?_
        refine wa_all [11, 15] (by kernel_rfl) rfl ⟨⟨_, rfl, ?_⟩, ⟨_, rfl, ?_⟩, trivial⟩
        ·refine wl_callx (γ := ByteArray × ByteArray × Int × Int × Option Addr × Nat × Nat × List Lg) (val := (fun g => .tuple #[.agg #[.string g.1, .string g.2.1, .int .i64 g.2.2.1, .int .i64 g.2.2.2.1, .slice g.2.2.2.2.1 g.2.2.2.2.2.1 g.2.2.2.2.2.2.1], .int .i64 (hireE ⟨key, s22, fr, fr + v3, [startLeg s23 ⟨ra, rs, rm, rf⟩]⟩)])) (φ := (fun g => HrOk g.1 g.2.1 g.2.2.2.2.2.2.2 ∧ g.2.2.2.2.2.1 ≤ 1 ∧ (hireE ⟨key, s22, fr, fr + v3, [startLeg s23 ⟨ra, rs, rm, rf⟩]⟩ = 0 → g.2.2.2.2.2.1 = 1 ∧ hireE ⟨g.1, g.2.1, g.2.2.1, g.2.2.2.1, g.2.2.2.2.2.2.2⟩ = 0))) (Y := (fun g => fun wy => SlT lgEnc 9 135 wy g.2.2.2.2.1 g.2.2.2.2.2.1 g.2.2.2.2.2.2.2)) rfl cb62 rfl rfl (fun wx hm => (startOf_litR key s22 fr (fr + v3) s23 ra rm rf rs wx (by omega) (by omega) (by omega) hz_rs).mono fun _ _ ⟨k, d, f, t, A, n, c, l, he, hsl, hok, hn, hn0, hg⟩ => ⟨(k, d, f, t, A, n, c, l), he, ⟨hok, hn, hn0⟩, hg, hsl⟩) (fun _ => SlT.lasts2 rfl) ?_
         rintro ⟨k1, d1, f1, t1, A1, n1, c1, l1⟩ hb1
         dsimp only at hb1 ⊢
         refine wl_nil ?_
         refine nw 18 4095 (fun _ hm => ⟨hm.bl 2, hm.bl 3, hm.bl 4, trivial⟩) fun z => ?_
         refine wt 12 18 8191 rfl z (ov_move rfl) ?_
         refine wt 13 18 16383 rfl z (ov_extract rfl rfl) ?_
         refine wt 14 18 32767 rfl z (ov_extract rfl rfl) ?_
         refine wa1 15 rfl ?_
         refine wl_alloc zc30 rfl fun g25 => ?_
         refine wl_nil ?_
         refine nw 18 65535 (fun _ hm => ⟨hm.bl 3, hm.bl 4, hm.bl 5, trivial⟩) fun z => ?_
         refine wa1 16 rfl ?_
         refine wl_stores (cs' := [.string k1, .string d1, .int .i64 f1, .int .i64 t1, .slice A1 n1 c1]) 0 rz30 rfl rfl rfl rfl rfl rfl rfl rfl ?_
         refine wl_nil ?_
         refine nw 18 131071 (fun _ hm => ⟨hm.bl 3, hm.bl 4, hm.bl 5, trivial⟩) fun z => ?_
         refine wt 17 18 262143 rfl z (ov_assign rfl) ?_
         refine wa_done (by kernel_rfl) ?_
         exact nx_meet (k1, d1, f1, t1, A1, n1, c1, l1, hireE ⟨key, s22, fr, fr + v3, [startLeg s23 ⟨ra, rs, rm, rf⟩]⟩, g25) hb1 ⟨rfl, rfl, rfl, rfl, rfl, rfl, rfl, trivial⟩ (fun _ hm => hm.pick [3, 4, 5, 0] [] [0] rfl rfl)
        refine wl_alloc zc30 rfl fun g26 => ?_
        refine wl_nil ?_
        refine nw 18 34815 (fun _ hm => ⟨hm.bl 3, hm.bl 4, hm.bl 5, trivial⟩) fun z => ?_
        refine wa1 11 rfl ?_
        refine wl_callx (γ := ByteArray × ByteArray × Int × Int × Option Addr × Nat × Nat × List Lg) (val := (fun g => .tuple #[.agg #[.string g.1, .string g.2.1, .int .i64 g.2.2.1, .int .i64 g.2.2.2.1, .slice g.2.2.2.2.1 g.2.2.2.2.2.1 g.2.2.2.2.2.2.1], .int .i64 (hireE ⟨key, s22, fr, fr + v3, [startLeg s23 ⟨ra, rs, rm, rf⟩]⟩)])) (φ := (fun g => HrOk g.1 g.2.1 g.2.2.2.2.2.2.2 ∧ g.2.2.2.2.2.1 ≤ 1 ∧ (hireE ⟨key, s22, fr, fr + v3, [startLeg s23 ⟨ra, rs, rm, rf⟩]⟩ = 0 → g.2.2.2.2.2.1 = 1 ∧ hireE ⟨g.1, g.2.1, g.2.2.1, g.2.2.2.1, g.2.2.2.2.2.2.2⟩ = 0))) (Y := (fun g => fun wy => SlT lgEnc 9 135 wy g.2.2.2.2.1 g.2.2.2.2.2.1 g.2.2.2.2.2.2.2)) rfl cb62 rfl rfl (fun wx hm => (startOf_litR key s22 fr (fr + v3) s23 ra rm rf rs wx (by omega) (by omega) (by omega) hz_rs).mono fun _ _ ⟨k, d, f, t, A, n, c, l, he, hsl, hok, hn, hn0, hg⟩ => ⟨(k, d, f, t, A, n, c, l), he, ⟨hok, hn, hn0⟩, hg, hsl⟩) (fun _ => SlT.lasts2 rfl) ?_
        rintro ⟨k1, d1, f1, t1, A1, n1, c1, l1⟩ hb1
        dsimp only at hb1 ⊢
        refine wl_nil ?_
        refine nw 18 36863 (fun _ hm => ⟨hm.bl 3, hm.bl 4, hm.bl 5, trivial⟩) fun z => ?_
        refine wt 12 18 40959 rfl z (ov_move rfl) ?_
        refine wt 13 18 49151 rfl z (ov_extract rfl rfl) ?_
        refine wt 14 18 65535 rfl z (ov_extract rfl rfl) ?_
        refine wa1 16 rfl ?_
        refine wl_stores (cs' := [.string k1, .string d1, .int .i64 f1, .int .i64 t1, .slice A1 n1 c1]) 0 rz30 rfl rfl rfl rfl rfl rfl rfl rfl ?_
        refine wl_nil ?_
        refine nw 18 131071 (fun _ hm => ⟨hm.bl 3, hm.bl 4, hm.bl 5, trivial⟩) fun z => ?_
        refine wt 17 18 262143 rfl z (ov_assign rfl) ?_
        refine wa_done (by kernel_rfl) ?_
        exact nx_meet (k1, d1, f1, t1, A1, n1, c1, l1, hireE ⟨key, s22, fr, fr + v3, [startLeg s23 ⟨ra, rs, rm, rf⟩]⟩, g26) hb1 ⟨rfl, rfl, rfl, rfl, rfl, rfl, rfl, trivial⟩ (fun _ hm => hm.pick [3, 4, 5, 0] [] [0] rfl rfl)
       refine wl_alloc zc30 rfl fun g27 => ?_
       refine wl_nil ?_
       refine nw 18 33791 (fun _ hm => ⟨hm.bl 3, hm.bl 4, hm.bl 5, trivial⟩) fun z => ?_
       refine wa1 10 rfl ?_
       refine wl_calls (γ := Int × ByteArray × Int × Int) (val := (fun g => .agg #[.int .i64 g.1, .string g.2.1, .int .i64 g.2.2.1, .int .i64 g.2.2.2])) (φ := (fun g => RdOk ⟨g.1, g.2.1, g.2.2.1, g.2.2.2⟩)) (Y := (fun g => fun _ => True)) (m' := m + 200 * i + 1 + 1 + 1 + 10) rfl cb19 rfl rfl rfl rfl (fun wx hm => (greading_any fr wx B sb _ hm.k (by omega) (by omega) (by omega)).mono fun _ _ ⟨r, hok, he, hS, hg⟩ => ⟨(r.at_, r.st, r.meter, r.fuel), he, hok, hS, hg, trivial⟩) (fun _ => Lasts2.true_) ?_
       rintro ⟨ra, rs, rm, rf⟩ hr_ra
       dsimp only at hr_ra ⊢
       have hz_rs : rs.size ≤ 1000000 := hr_ra
       refine wl_nil ?_
       refine nw 18 34815 (fun _ hm => ⟨hm.bl 3, hm.bl 4, hm.bl 5, trivial⟩) fun z => ?_
       refine wa1 11 rfl ?_
       refine wl_callx (γ := ByteArray × ByteArray × Int × Int × Option Addr × Nat × Nat × List Lg) (val := (fun g => .tuple #[.agg #[.string g.1, .string g.2.1, .int .i64 g.2.2.1, .int .i64 g.2.2.2.1, .slice g.2.2.2.2.1 g.2.2.2.2.2.1 g.2.2.2.2.2.2.1], .int .i64 (hireE ⟨key, s22, fr, fr + v3, [startLeg s23 ⟨ra, rs, rm, rf⟩]⟩)])) (φ := (fun g => HrOk g.1 g.2.1 g.2.2.2.2.2.2.2 ∧ g.2.2.2.2.2.1 ≤ 1 ∧ (hireE ⟨key, s22, fr, fr + v3, [startLeg s23 ⟨ra, rs, rm, rf⟩]⟩ = 0 → g.2.2.2.2.2.1 = 1 ∧ hireE ⟨g.1, g.2.1, g.2.2.1, g.2.2.2.1, g.2.2.2.2.2.2.2⟩ = 0))) (Y := (fun g => fun wy => SlT lgEnc 9 135 wy g.2.2.2.2.1 g.2.2.2.2.2.1 g.2.2.2.2.2.2.2)) rfl cb62 rfl rfl (fun wx hm => (startOf_litR key s22 fr (fr + v3) s23 ra rm rf rs wx (by omega) (by omega) (by omega) hz_rs).mono fun _ _ ⟨k, d, f, t, A, n, c, l, he, hsl, hok, hn, hn0, hg⟩ => ⟨(k, d, f, t, A, n, c, l), he, ⟨hok, hn, hn0⟩, hg, hsl⟩) (fun _ => SlT.lasts2 rfl) ?_
       rintro ⟨k1, d1, f1, t1, A1, n1, c1, l1⟩ hb1
       dsimp only at hb1 ⊢
       refine wl_nil ?_
       refine nw 18 36863 (fun _ hm => ⟨hm.bl 3, hm.bl 4, hm.bl 5, trivial⟩) fun z => ?_
       refine wt 12 18 40959 rfl z (ov_move rfl) ?_
       refine wt 13 18 49151 rfl z (ov_extract rfl rfl) ?_
       refine wt 14 18 65535 rfl z (ov_extract rfl rfl) ?_
       refine wa1 16 rfl ?_
       refine wl_stores (cs' := [.string k1, .string d1, .int .i64 f1, .int .i64 t1, .slice A1 n1 c1]) 0 rz30 rfl rfl rfl rfl rfl rfl rfl rfl ?_
       refine wl_nil ?_
       refine nw 18 131071 (fun _ hm => ⟨hm.bl 3, hm.bl 4, hm.bl 5, trivial⟩) fun z => ?_
       refine wt 17 18 262143 rfl z (ov_assign rfl) ?_
       refine wa_done (by kernel_rfl) ?_
       exact nx_meet (k1, d1, f1, t1, A1, n1, c1, l1, hireE ⟨key, s22, fr, fr + v3, [startLeg s23 ⟨ra, rs, rm, rf⟩]⟩, g27) hb1 ⟨rfl, rfl, rfl, rfl, rfl, rfl, rfl, trivial⟩ (fun _ hm => hm.pick [3, 4, 5, 0] [] [0] rfl rfl)
      refine wl_alloc zc30 rfl fun g29 => ?_
      refine wl_nil ?_
      refine nw 18 33663 (fun _ hm => ⟨hm.bl 3, hm.bl 4, hm.bl 5, trivial⟩) fun z => ?_
      refine wa1 7 rfl ?_
      refine wl_got (γ := ByteArray) (val := fun v => .string v) (φ := fun v => v ∈ ([⟨#[118, 49]⟩, ⟨#[118, 49]⟩, ⟨#[118, 50]⟩, ⟨#[118, 51]⟩] : List ByteArray)) rfl cb49 rfl rfl rfl rfl (fun wx hm => (some_any [⟨#[118, 49]⟩, ⟨#[118, 49]⟩, ⟨#[118, 50]⟩, ⟨#[118, 51]⟩] _ _ _ wx B sb _ hm.k (by omega) (by simp) (by simp) (hm.blkI 1 rfl) (hm.neRow 1 rfl rfl))) fun s30 hs30 => ?_
      have zs30 : s30.size ≤ 100 := mem_sz hs30 (by decide)
      refine wl_nil ?_
      refine nw 18 33791 (fun _ hm => ⟨hm.bl 3, hm.bl 4, hm.bl 5, trivial⟩) fun z => ?_
      refine wa1 10 rfl ?_
      refine wl_calls (γ := Int × ByteArray × Int × Int) (val := (fun g => .agg #[.int .i64 g.1, .string g.2.1, .int .i64 g.2.2.1, .int .i64 g.2.2.2])) (φ := (fun g => RdOk ⟨g.1, g.2.1, g.2.2.1, g.2.2.2⟩)) (Y := (fun g => fun _ => True)) (m' := m + 200 * i + 1 + 1 + 1 + 10) rfl cb19 rfl rfl rfl rfl (fun wx hm => (greading_any fr wx B sb _ hm.k (by omega) (by omega) (by omega)).mono fun _ _ ⟨r, hok, he, hS, hg⟩ => ⟨(r.at_, r.st, r.meter, r.fuel), he, hok, hS, hg, trivial⟩) (fun _ => Lasts2.true_) ?_
      rintro ⟨ra, rs, rm, rf⟩ hr_ra
      dsimp only at hr_ra ⊢
      have hz_rs : rs.size ≤ 1000000 := hr_ra
      refine wl_nil ?_
      refine nw 18 34815 (fun _ hm => ⟨hm.bl 3, hm.bl 4, hm.bl 5, trivial⟩) fun z => ?_
      refine wa1 11 rfl ?_
      refine wl_callx (γ := ByteArray × ByteArray × Int × Int × Option Addr × Nat × Nat × List Lg) (val := (fun g => .tuple #[.agg #[.string g.1, .string g.2.1, .int .i64 g.2.2.1, .int .i64 g.2.2.2.1, .slice g.2.2.2.2.1 g.2.2.2.2.2.1 g.2.2.2.2.2.2.1], .int .i64 (hireE ⟨key, s22, fr, fr + v3, [startLeg s30 ⟨ra, rs, rm, rf⟩]⟩)])) (φ := (fun g => HrOk g.1 g.2.1 g.2.2.2.2.2.2.2 ∧ g.2.2.2.2.2.1 ≤ 1 ∧ (hireE ⟨key, s22, fr, fr + v3, [startLeg s30 ⟨ra, rs, rm, rf⟩]⟩ = 0 → g.2.2.2.2.2.1 = 1 ∧ hireE ⟨g.1, g.2.1, g.2.2.1, g.2.2.2.1, g.2.2.2.2.2.2.2⟩ = 0))) (Y := (fun g => fun wy => SlT lgEnc 9 135 wy g.2.2.2.2.1 g.2.2.2.2.2.1 g.2.2.2.2.2.2.2)) rfl cb62 rfl rfl (fun wx hm => (startOf_litR key s22 fr (fr + v3) s30 ra rm rf rs wx (by omega) (by omega) (by omega) hz_rs).mono fun _ _ ⟨k, d, f, t, A, n, c, l, he, hsl, hok, hn, hn0, hg⟩ => ⟨(k, d, f, t, A, n, c, l), he, ⟨hok, hn, hn0⟩, hg, hsl⟩) (fun _ => SlT.lasts2 rfl) ?_
      rintro ⟨k1, d1, f1, t1, A1, n1, c1, l1⟩ hb1
      dsimp only at hb1 ⊢
      refine wl_nil ?_
      refine nw 18 36863 (fun _ hm => ⟨hm.bl 3, hm.bl 4, hm.bl 5, trivial⟩) fun z => ?_
      refine wt 12 18 40959 rfl z (ov_move rfl) ?_
      refine wt 13 18 49151 rfl z (ov_extract rfl rfl) ?_
      refine wt 14 18 65535 rfl z (ov_extract rfl rfl) ?_
      refine wa1 16 rfl ?_
      refine wl_stores (cs' := [.string k1, .string d1, .int .i64 f1, .int .i64 t1, .slice A1 n1 c1]) 0 rz30 rfl rfl rfl rfl rfl rfl rfl rfl ?_
      refine wl_nil ?_
      refine nw 18 131071 (fun _ hm => ⟨hm.bl 3, hm.bl 4, hm.bl 5, trivial⟩) fun z => ?_
      refine wt 17 18 262143 rfl z (ov_assign rfl) ?_
      refine wa_done (by kernel_rfl) ?_
      exact nx_meet (k1, d1, f1, t1, A1, n1, c1, l1, hireE ⟨key, s22, fr, fr + v3, [startLeg s30 ⟨ra, rs, rm, rf⟩]⟩, g29) hb1 ⟨rfl, rfl, rfl, rfl, rfl, rfl, rfl, trivial⟩ (fun _ hm => hm.pick [3, 4, 5, 0] [] [0] rfl rfl)
     refine wl_alloc zc30 rfl fun g32 => ?_
     refine wl_nil ?_
     refine nw 18 33655 (fun _ hm => ⟨hm.bl 3, hm.bl 4, hm.bl 5, trivial⟩) fun z => ?_
     refine wa1 3 rfl ?_
     refine wl_got (γ := ByteArray) (val := fun v => .string v) (φ := fun v => v ∈ ([⟨#[97, 110, 110]⟩, ⟨#[97, 110, 110]⟩, ⟨#[98, 111, 98]⟩, ⟨#[99, 105, 100]⟩] : List ByteArray)) rfl cb49 rfl rfl rfl rfl (fun wx hm => (some_any [⟨#[97, 110, 110]⟩, ⟨#[97, 110, 110]⟩, ⟨#[98, 111, 98]⟩, ⟨#[99, 105, 100]⟩] _ _ _ wx B sb _ hm.k (by omega) (by simp) (by simp) (hm.blkI 2 rfl) (hm.neRow 2 rfl rfl))) fun s33 hs33 => ?_
     have zs33 : s33.size ≤ 100 := mem_sz hs33 (by decide)
     refine wl_nil ?_
     refine nw 18 33663 (fun _ hm => ⟨hm.bl 3, hm.bl 4, hm.bl 5, trivial⟩) fun z => ?_
     refine wa1 7 rfl ?_
     refine wl_got (γ := ByteArray) (val := fun v => .string v) (φ := fun v => v ∈ ([⟨#[118, 49]⟩, ⟨#[118, 49]⟩, ⟨#[118, 50]⟩, ⟨#[118, 51]⟩] : List ByteArray)) rfl cb49 rfl rfl rfl rfl (fun wx hm => (some_any [⟨#[118, 49]⟩, ⟨#[118, 49]⟩, ⟨#[118, 50]⟩, ⟨#[118, 51]⟩] _ _ _ wx B sb _ hm.k (by omega) (by simp) (by simp) (hm.blkI 1 rfl) (hm.neRow 1 rfl rfl))) fun s34 hs34 => ?_
     have zs34 : s34.size ≤ 100 := mem_sz hs34 (by decide)
     refine wl_nil ?_
     refine nw 18 33791 (fun _ hm => ⟨hm.bl 3, hm.bl 4, hm.bl 5, trivial⟩) fun z => ?_
     refine wa1 10 rfl ?_
     refine wl_calls (γ := Int × ByteArray × Int × Int) (val := (fun g => .agg #[.int .i64 g.1, .string g.2.1, .int .i64 g.2.2.1, .int .i64 g.2.2.2])) (φ := (fun g => RdOk ⟨g.1, g.2.1, g.2.2.1, g.2.2.2⟩)) (Y := (fun g => fun _ => True)) (m' := m + 200 * i + 1 + 1 + 1 + 10) rfl cb19 rfl rfl rfl rfl (fun wx hm => (greading_any fr wx B sb _ hm.k (by omega) (by omega) (by omega)).mono fun _ _ ⟨r, hok, he, hS, hg⟩ => ⟨(r.at_, r.st, r.meter, r.fuel), he, hok, hS, hg, trivial⟩) (fun _ => Lasts2.true_) ?_
     rintro ⟨ra, rs, rm, rf⟩ hr_ra
     dsimp only at hr_ra ⊢
     have hz_rs : rs.size ≤ 1000000 := hr_ra
     refine wl_nil ?_
     refine nw 18 34815 (fun _ hm => ⟨hm.bl 3, hm.bl 4, hm.bl 5, trivial⟩) fun z => ?_
     refine wa1 11 rfl ?_
     refine wl_callx (γ := ByteArray × ByteArray × Int × Int × Option Addr × Nat × Nat × List Lg) (val := (fun g => .tuple #[.agg #[.string g.1, .string g.2.1, .int .i64 g.2.2.1, .int .i64 g.2.2.2.1, .slice g.2.2.2.2.1 g.2.2.2.2.2.1 g.2.2.2.2.2.2.1], .int .i64 (hireE ⟨key, s33, fr, fr + v3, [startLeg s34 ⟨ra, rs, rm, rf⟩]⟩)])) (φ := (fun g => HrOk g.1 g.2.1 g.2.2.2.2.2.2.2 ∧ g.2.2.2.2.2.1 ≤ 1 ∧ (hireE ⟨key, s33, fr, fr + v3, [startLeg s34 ⟨ra, rs, rm, rf⟩]⟩ = 0 → g.2.2.2.2.2.1 = 1 ∧ hireE ⟨g.1, g.2.1, g.2.2.1, g.2.2.2.1, g.2.2.2.2.2.2.2⟩ = 0))) (Y := (fun g => fun wy => SlT lgEnc 9 135 wy g.2.2.2.2.1 g.2.2.2.2.2.1 g.2.2.2.2.2.2.2)) rfl cb62 rfl rfl (fun wx hm => (startOf_litR key s33 fr (fr + v3) s34 ra rm rf rs wx (by omega) (by omega) (by omega) hz_rs).mono fun _ _ ⟨k, d, f, t, A, n, c, l, he, hsl, hok, hn, hn0, hg⟩ => ⟨(k, d, f, t, A, n, c, l), he, ⟨hok, hn, hn0⟩, hg, hsl⟩) (fun _ => SlT.lasts2 rfl) ?_
     rintro ⟨k1, d1, f1, t1, A1, n1, c1, l1⟩ hb1
     dsimp only at hb1 ⊢
     refine wl_nil ?_
     refine nw 18 36863 (fun _ hm => ⟨hm.bl 3, hm.bl 4, hm.bl 5, trivial⟩) fun z => ?_
     refine wt 12 18 40959 rfl z (ov_move rfl) ?_
     refine wt 13 18 49151 rfl z (ov_extract rfl rfl) ?_
     refine wt 14 18 65535 rfl z (ov_extract rfl rfl) ?_
     refine wa1 16 rfl ?_
     refine wl_stores (cs' := [.string k1, .string d1, .int .i64 f1, .int .i64 t1, .slice A1 n1 c1]) 0 rz30 rfl rfl rfl rfl rfl rfl rfl rfl ?_
     refine wl_nil ?_
     refine nw 18 131071 (fun _ hm => ⟨hm.bl 3, hm.bl 4, hm.bl 5, trivial⟩) fun z => ?_
     refine wt 17 18 262143 rfl z (ov_assign rfl) ?_
     refine wa_done (by kernel_rfl) ?_
     exact nx_meet (k1, d1, f1, t1, A1, n1, c1, l1, hireE ⟨key, s33, fr, fr + v3, [startLeg s34 ⟨ra, rs, rm, rf⟩]⟩, g32) hb1 ⟨rfl, rfl, rfl, rfl, rfl, rfl, rfl, trivial⟩ (fun _ hm => hm.pick [3, 4, 5, 0] [] [0] rfl rfl)
    refine wl_alloc zc30 rfl fun g36 => ?_
    refine wl_nil ?_
    refine nw 18 33591 (fun _ hm => ⟨hm.bl 2, hm.bl 3, hm.bl 4, trivial⟩) fun z => ?_
    refine wa_all [3, 6] (by kernel_rfl) rfl ⟨⟨_, rfl, ?_⟩, ⟨_, rfl, ?_⟩, trivial⟩
    ·refine wl_got (γ := ByteArray) (val := fun v => .string v) (φ := fun v => v ∈ ([⟨#[97, 110, 110]⟩, ⟨#[97, 110, 110]⟩, ⟨#[98, 111, 98]⟩, ⟨#[99, 105, 100]⟩] : List ByteArray)) rfl cb49 rfl rfl rfl rfl (fun wx hm => (some_any [⟨#[97, 110, 110]⟩, ⟨#[97, 110, 110]⟩, ⟨#[98, 111, 98]⟩, ⟨#[99, 105, 100]⟩] _ _ _ wx B sb _ hm.k (by omega) (by simp) (by simp) (hm.blkI 1 rfl) (hm.neRow 1 rfl rfl))) fun s37 hs37 => ?_
     have zs37 : s37.size ≤ 100 := mem_sz hs37 (by decide)
     refine wl_nil ?_
     refine nw 18 33599 (fun _ hm => ⟨hm.bl 2, hm.bl 3, hm.bl 4, trivial⟩) fun z => ?_
     refine wa1 6 rfl ?_
     refine wl_buildSlice (e := 9) (cs := [.string ⟨#[118, 49]⟩, .string ⟨#[118, 49]⟩, .string ⟨#[118, 50]⟩, .string ⟨#[118, 51]⟩]) rfl (by kernel_rfl) rfl fun g38 => ?_
     refine wl_nil ?_
     refine nw 18 33663 (fun _ hm => ⟨hm.bl 3, hm.bl 4, hm.bl 5, trivial⟩) fun z => ?_
     refine wa1 7 rfl ?_
     refine wl_got (γ := ByteArray) (val := fun v => .string v) (φ := fun v => v ∈ ([⟨#[118, 49]⟩, ⟨#[118, 49]⟩, ⟨#[118, 50]⟩, ⟨#[118, 51]⟩] : List ByteArray)) rfl cb49 rfl rfl rfl rfl (fun wx hm => (some_any [⟨#[118, 49]⟩, ⟨#[118, 49]⟩, ⟨#[118, 50]⟩, ⟨#[118, 51]⟩] _ _ _ wx B sb _ hm.k (by omega) (by simp) (by simp) (hm.blkI 0 rfl) (hm.neRow 0 rfl rfl))) fun s39 hs39 => ?_
     have zs39 : s39.size ≤ 100 := mem_sz hs39 (by decide)
     refine wl_nil ?_
     refine nw 18 33791 (fun _ hm => ⟨hm.bl 3, hm.bl 4, hm.bl 5, trivial⟩) fun z => ?_
     refine wa1 10 rfl ?_
     refine wl_calls (γ := Int × ByteArray × Int × Int) (val := (fun g => .agg #[.int .i64 g.1, .string g.2.1, .int .i64 g.2.2.1, .int .i64 g.2.2.2])) (φ := (fun g => RdOk ⟨g.1, g.2.1, g.2.2.1, g.2.2.2⟩)) (Y := (fun g => fun _ => True)) (m' := m + 200 * i + 1 + 1 + 1 + 10) rfl cb19 rfl rfl rfl rfl (fun wx hm => (greading_any fr wx B sb _ hm.k (by omega) (by omega) (by omega)).mono fun _ _ ⟨r, hok, he, hS, hg⟩ => ⟨(r.at_, r.st, r.meter, r.fuel), he, hok, hS, hg, trivial⟩) (fun _ => Lasts2.true_) ?_
     rintro ⟨ra, rs, rm, rf⟩ hr_ra
     dsimp only at hr_ra ⊢
     have hz_rs : rs.size ≤ 1000000 := hr_ra
     refine wl_nil ?_
     refine nw 18 34815 (fun _ hm => ⟨hm.bl 3, hm.bl 4, hm.bl 5, trivial⟩) fun z => ?_
     refine wa1 11 rfl ?_
     refine wl_callx (γ := ByteArray × ByteArray × Int × Int × Option Addr × Nat × Nat × List Lg) (val := (fun g => .tuple #[.agg #[.string g.1, .string g.2.1, .int .i64 g.2.2.1, .int .i64 g.2.2.2.1, .slice g.2.2.2.2.1 g.2.2.2.2.2.1 g.2.2.2.2.2.2.1], .int .i64 (hireE ⟨key, s37, fr, fr + v3, [startLeg s39 ⟨ra, rs, rm, rf⟩]⟩)])) (φ := (fun g => HrOk g.1 g.2.1 g.2.2.2.2.2.2.2 ∧ g.2.2.2.2.2.1 ≤ 1 ∧ (hireE ⟨key, s37, fr, fr + v3, [startLeg s39 ⟨ra, rs, rm, rf⟩]⟩ = 0 → g.2.2.2.2.2.1 = 1 ∧ hireE ⟨g.1, g.2.1, g.2.2.1, g.2.2.2.1, g.2.2.2.2.2.2.2⟩ = 0))) (Y := (fun g => fun wy => SlT lgEnc 9 135 wy g.2.2.2.2.1 g.2.2.2.2.2.1 g.2.2.2.2.2.2.2)) rfl cb62 rfl rfl (fun wx hm => (startOf_litR key s37 fr (fr + v3) s39 ra rm rf rs wx (by omega) (by omega) (by omega) hz_rs).mono fun _ _ ⟨k, d, f, t, A, n, c, l, he, hsl, hok, hn, hn0, hg⟩ => ⟨(k, d, f, t, A, n, c, l), he, ⟨hok, hn, hn0⟩, hg, hsl⟩) (fun _ => SlT.lasts2 rfl) ?_
     rintro ⟨k1, d1, f1, t1, A1, n1, c1, l1⟩ hb1
     dsimp only at hb1 ⊢
     refine wl_nil ?_
     refine nw 18 36863 (fun _ hm => ⟨hm.bl 3, hm.bl 4, hm.bl 5, trivial⟩) fun z => ?_
     refine wt 12 18 40959 rfl z (ov_move rfl) ?_
     refine wt 13 18 49151 rfl z (ov_extract rfl rfl) ?_
     refine wt 14 18 65535 rfl z (ov_extract rfl rfl) ?_
     refine wa1 16 rfl ?_
     refine wl_stores (cs' := [.string k1, .string d1, .int .i64 f1, .int .i64 t1, .slice A1 n1 c1]) 1 rz30 rfl rfl rfl rfl rfl rfl rfl rfl ?_
     refine wl_nil ?_
     refine nw 18 131071 (fun _ hm => ⟨hm.bl 3, hm.bl 4, hm.bl 5, trivial⟩) fun z => ?_
     refine wt 17 18 262143 rfl z (ov_assign rfl) ?_
     refine wa_done (by kernel_rfl) ?_
     exact nx_meet (k1, d1, f1, t1, A1, n1, c1, l1, hireE ⟨key, s37, fr, fr + v3, [startLeg s39 ⟨ra, rs, rm, rf⟩]⟩, g36) hb1 ⟨rfl, rfl, rfl, rfl, rfl, rfl, rfl, trivial⟩ (fun _ hm => hm.pick [3, 4, 5, 1] [] [0] rfl rfl)
    refine wl_buildSlice (e := 9) (cs := [.string ⟨#[118, 49]⟩, .string ⟨#[118, 49]⟩, .string ⟨#[118, 50]⟩, .string ⟨#[118, 51]⟩]) rfl (by kernel_rfl) rfl fun g41 => ?_
    refine wl_nil ?_
    refine nw 18 33655 (fun _ hm => ⟨hm.bl 3, hm.bl 4, hm.bl 5, trivial⟩) fun z => ?_
    refine wa1 3 rfl ?_
    refine wl_got (γ := ByteArray) (val := fun v => .string v) (φ := fun v => v ∈ ([⟨#[97, 110, 110]⟩, ⟨#[97, 110, 110]⟩, ⟨#[98, 111, 98]⟩, ⟨#[99, 105, 100]⟩] : List ByteArray)) rfl cb49 rfl rfl rfl rfl (fun wx hm => (some_any [⟨#[97, 110, 110]⟩, ⟨#[97, 110, 110]⟩, ⟨#[98, 111, 98]⟩, ⟨#[99, 105, 100]⟩] _ _ _ wx B sb _ hm.k (by omega) (by simp) (by simp) (hm.blkI 2 rfl) (hm.neRow 2 rfl rfl))) fun s42 hs42 => ?_
    have zs42 : s42.size ≤ 100 := mem_sz hs42 (by decide)
    refine wl_nil ?_
    refine nw 18 33663 (fun _ hm => ⟨hm.bl 3, hm.bl 4, hm.bl 5, trivial⟩) fun z => ?_
    refine wa1 7 rfl ?_
    refine wl_got (γ := ByteArray) (val := fun v => .string v) (φ := fun v => v ∈ ([⟨#[118, 49]⟩, ⟨#[118, 49]⟩, ⟨#[118, 50]⟩, ⟨#[118, 51]⟩] : List ByteArray)) rfl cb49 rfl rfl rfl rfl (fun wx hm => (some_any [⟨#[118, 49]⟩, ⟨#[118, 49]⟩, ⟨#[118, 50]⟩, ⟨#[118, 51]⟩] _ _ _ wx B sb _ hm.k (by omega) (by simp) (by simp) (hm.blkI 0 rfl) (hm.neRow 0 rfl rfl))) fun s43 hs43 => ?_
    have zs43 : s43.size ≤ 100 := mem_sz hs43 (by decide)
    refine wl_nil ?_
    refine nw 18 33791 (fun _ hm => ⟨hm.bl 3, hm.bl 4, hm.bl 5, trivial⟩) fun z => ?_
    refine wa1 10 rfl ?_
    refine wl_calls (γ := Int × ByteArray × Int × Int) (val := (fun g => .agg #[.int .i64 g.1, .string g.2.1, .int .i64 g.2.2.1, .int .i64 g.2.2.2])) (φ := (fun g => RdOk ⟨g.1, g.2.1, g.2.2.1, g.2.2.2⟩)) (Y := (fun g => fun _ => True)) (m' := m + 200 * i + 1 + 1 + 1 + 10) rfl cb19 rfl rfl rfl rfl (fun wx hm => (greading_any fr wx B sb _ hm.k (by omega) (by omega) (by omega)).mono fun _ _ ⟨r, hok, he, hS, hg⟩ => ⟨(r.at_, r.st, r.meter, r.fuel), he, hok, hS, hg, trivial⟩) (fun _ => Lasts2.true_) ?_
    rintro ⟨ra, rs, rm, rf⟩ hr_ra
    dsimp only at hr_ra ⊢
    have hz_rs : rs.size ≤ 1000000 := hr_ra
    refine wl_nil ?_
    refine nw 18 34815 (fun _ hm => ⟨hm.bl 3, hm.bl 4, hm.bl 5, trivial⟩) fun z => ?_
    refine wa1 11 rfl ?_
    refine wl_callx (γ := ByteArray × ByteArray × Int × Int × Option Addr × Nat × Nat × List Lg) (val := (fun g => .tuple #[.agg #[.string g.1, .string g.2.1, .int .i64 g.2.2.1, .int .i64 g.2.2.2.1, .slice g.2.2.2.2.1 g.2.2.2.2.2.1 g.2.2.2.2.2.2.1], .int .i64 (hireE ⟨key, s42, fr, fr + v3, [startLeg s43 ⟨ra, rs, rm, rf⟩]⟩)])) (φ := (fun g => HrOk g.1 g.2.1 g.2.2.2.2.2.2.2 ∧ g.2.2.2.2.2.1 ≤ 1 ∧ (hireE ⟨key, s42, fr, fr + v3, [startLeg s43 ⟨ra, rs, rm, rf⟩]⟩ = 0 → g.2.2.2.2.2.1 = 1 ∧ hireE ⟨g.1, g.2.1, g.2.2.1, g.2.2.2.1, g.2.2.2.2.2.2.2⟩ = 0))) (Y := (fun g => fun wy => SlT lgEnc 9 135 wy g.2.2.2.2.1 g.2.2.2.2.2.1 g.2.2.2.2.2.2.2)) rfl cb62 rfl rfl (fun wx hm => (startOf_litR key s42 fr (fr + v3) s43 ra rm rf rs wx (by omega) (by omega) (by omega) hz_rs).mono fun _ _ ⟨k, d, f, t, A, n, c, l, he, hsl, hok, hn, hn0, hg⟩ => ⟨(k, d, f, t, A, n, c, l), he, ⟨hok, hn, hn0⟩, hg, hsl⟩) (fun _ => SlT.lasts2 rfl) ?_
    rintro ⟨k1, d1, f1, t1, A1, n1, c1, l1⟩ hb1
    dsimp only at hb1 ⊢
    refine wl_nil ?_
    refine nw 18 36863 (fun _ hm => ⟨hm.bl 3, hm.bl 4, hm.bl 5, trivial⟩) fun z => ?_
    refine wt 12 18 40959 rfl z (ov_move rfl) ?_
    refine wt 13 18 49151 rfl z (ov_extract rfl rfl) ?_
    refine wt 14 18 65535 rfl z (ov_extract rfl rfl) ?_
    refine wa1 16 rfl ?_
    refine wl_stores (cs' := [.string k1, .string d1, .int .i64 f1, .int .i64 t1, .slice A1 n1 c1]) 1 rz30 rfl rfl rfl rfl rfl rfl rfl rfl ?_
    refine wl_nil ?_
    refine nw 18 131071 (fun _ hm => ⟨hm.bl 3, hm.bl 4, hm.bl 5, trivial⟩) fun z => ?_
    refine wt 17 18 262143 rfl z (ov_assign rfl) ?_
    refine wa_done (by kernel_rfl) ?_
    exact nx_meet (k1, d1, f1, t1, A1, n1, c1, l1, hireE ⟨key, s42, fr, fr + v3, [startLeg s43 ⟨ra, rs, rm, rf⟩]⟩, g36) hb1 ⟨rfl, rfl, rfl, rfl, rfl, rfl, rfl, trivial⟩ (fun _ hm => hm.pick [3, 4, 5, 1] [] [0] rfl rfl)
   ·refine wl_buildSlice (e := 9) (cs := [.string ⟨#[118, 49]⟩, .string ⟨#[118, 49]⟩, .string ⟨#[118, 50]⟩, .string ⟨#[118, 51]⟩]) rfl (by kernel_rfl) rfl fun g45 => ?_
    refine wl_nil ?_
    refine nw 18 883 (fun _ hm => ⟨hm.bl 1, hm.bl 2, hm.bl 3, trivial⟩) fun z => ?_
    refine wa_all [2, 15] (by kernel_rfl) rfl ⟨⟨_, rfl, ?_⟩, ⟨_, rfl, ?_⟩, trivial⟩
    ·refine wl_buildSlice (e := 9) (cs := [.string ⟨#[97, 110, 110]⟩, .string ⟨#[97, 110, 110]⟩, .string ⟨#[98, 111, 98]⟩, .string ⟨#[99, 105, 100]⟩]) rfl (by kernel_rfl) rfl fun g46 => ?_
     refine wl_nil ?_
     refine nw 18 887 (fun _ hm => ⟨hm.bl 2, hm.bl 3, hm.bl 4, trivial⟩) fun z => ?_
     refine wa_all [3, 15] (by kernel_rfl) rfl ⟨⟨_, rfl, ?_⟩, ⟨_, rfl, ?_⟩, trivial⟩
     ·refine wl_got (γ := ByteArray) (val := fun v => .string v) (φ := fun v => v ∈ ([⟨#[97, 110, 110]⟩, ⟨#[97, 110, 110]⟩, ⟨#[98, 111, 98]⟩, ⟨#[99, 105, 100]⟩] : List ByteArray)) rfl cb49 rfl rfl rfl rfl (fun wx hm => (some_any [⟨#[97, 110, 110]⟩, ⟨#[97, 110, 110]⟩, ⟨#[98, 111, 98]⟩, ⟨#[99, 105, 100]⟩] _ _ _ wx B sb _ hm.k (by omega) (by simp) (by simp) (hm.blkI 0 rfl) (hm.neRow 0 rfl rfl))) fun s47 hs47 => ?_
      have zs47 : s47.size ≤ 100 := mem_sz hs47 (by decide)
      refine wl_nil ?_
      refine nw 18 895 (fun _ hm => ⟨hm.bl 2, hm.bl 3, hm.bl 4, trivial⟩) fun z => ?_
      refine wa_all [7, 15] (by kernel_rfl) rfl ⟨⟨_, rfl, ?_⟩, ⟨_, rfl, ?_⟩, trivial⟩
      ·refine wl_got (γ := ByteArray) (val := fun v => .string v) (φ := fun v => v ∈ ([⟨#[118, 49]⟩, ⟨#[118, 49]⟩, ⟨#[118, 50]⟩, ⟨#[118, 51]⟩] : List ByteArray)) rfl cb49 rfl rfl rfl rfl (fun wx hm => (some_any [⟨#[118, 49]⟩, ⟨#[118, 49]⟩, ⟨#[118, 50]⟩, ⟨#[118, 51]⟩] _ _ _ wx B sb _ hm.k (by omega) (by simp) (by simp) (hm.blkI 1 rfl) (hm.neRow 1 rfl rfl))) fun s48 hs48 => ?_
       have zs48 : s48.size ≤ 100 := mem_sz hs48 (by decide)
       refine wl_nil ?_
       refine nw 18 1023 (fun _ hm => ⟨hm.bl 2, hm.bl 3, hm.bl 4, trivial⟩) fun z => ?_
       refine wa_all [10, 15] (by kernel_rfl) rfl ⟨⟨_, rfl, ?_⟩, ⟨_, rfl, ?_⟩, trivial⟩
       ·refine wl_calls (γ := Int × ByteArray × Int × Int) (val := (fun g => .agg #[.int .i64 g.1, .string g.2.1, .int .i64 g.2.2.1, .int .i64 g.2.2.2])) (φ := (fun g => RdOk ⟨g.1, g.2.1, g.2.2.1, g.2.2.2⟩)) (Y := (fun g => fun _ => True)) (m' := m + 200 * i + 1 + 1 + 1 + 10) rfl cb19 rfl rfl rfl rfl (fun wx hm => (greading_any fr wx B sb _ hm.k (by omega) (by omega) (by omega)).mono fun _ _ ⟨r, hok, he, hS, hg⟩ => ⟨(r.at_, r.st, r.meter, r.fuel), he, hok, hS, hg, trivial⟩) (fun _ => Lasts2.true_) ?_
        rintro ⟨ra, rs, rm, rf⟩ hr_ra
        dsimp only at hr_ra ⊢
        have hz_rs : rs.size ≤ 1000000 := hr_ra
        refine wl_nil ?_
        refine nw 18 2047 (fun _ hm => ⟨hm.bl 2, hm.bl 3, hm.bl 4, trivial⟩) fun z => ?_
        refine wa_all [11, 15] (by kernel_rfl) rfl ⟨⟨_, rfl, ?_⟩, ⟨_, rfl, ?_⟩, trivial⟩
        ·refine wl_callx (γ := ByteArray × ByteArray × Int × Int × Option Addr × Nat × Nat × List Lg) (val := (fun g => .tuple #[.agg #[.string g.1, .string g.2.1, .int .i64 g.2.2.1, .int .i64 g.2.2.2.1, .slice g.2.2.2.2.1 g.2.2.2.2.2.1 g.2.2.2.2.2.2.1], .int .i64 (hireE ⟨key, s47, fr, fr + v3, [startLeg s48 ⟨ra, rs, rm, rf⟩]⟩)])) (φ := (fun g => HrOk g.1 g.2.1 g.2.2.2.2.2.2.2 ∧ g.2.2.2.2.2.1 ≤ 1 ∧ (hireE ⟨key, s47, fr, fr + v3, [startLeg s48 ⟨ra, rs, rm, rf⟩]⟩ = 0 → g.2.2.2.2.2.1 = 1 ∧ hireE ⟨g.1, g.2.1, g.2.2.1, g.2.2.2.1, g.2.2.2.2.2.2.2⟩ = 0))) (Y := (fun g => fun wy => SlT lgEnc 9 135 wy g.2.2.2.2.1 g.2.2.2.2.2.1 g.2.2.2.2.2.2.2)) rfl cb62 rfl rfl (fun wx hm => (startOf_litR key s47 fr (fr + v3) s48 ra rm rf rs wx (by omega) (by omega) (by omega) hz_rs).mono fun _ _ ⟨k, d, f, t, A, n, c, l, he, hsl, hok, hn, hn0, hg⟩ => ⟨(k, d, f, t, A, n, c, l), he, ⟨hok, hn, hn0⟩, hg, hsl⟩) (fun _ => SlT.lasts2 rfl) ?_
         rintro ⟨k1, d1, f1, t1, A1, n1, c1, l1⟩ hb1
         dsimp only at hb1 ⊢
         refine wl_nil ?_
         refine nw 18 4095 (fun _ hm => ⟨hm.bl 2, hm.bl 3, hm.bl 4, trivial⟩) fun z => ?_
         refine wt 12 18 8191 rfl z (ov_move rfl) ?_
         refine wt 13 18 16383 rfl z (ov_extract rfl rfl) ?_
         refine wt 14 18 32767 rfl z (ov_extract rfl rfl) ?_
         refine wa1 15 rfl ?_
         refine wl_alloc zc30 rfl fun g50 => ?_
         refine wl_nil ?_
         refine nw 18 65535 (fun _ hm => ⟨hm.bl 3, hm.bl 4, hm.bl 5, trivial⟩) fun z => ?_
         refine wa1 16 rfl ?_
         refine wl_stores (cs' := [.string k1, .string d1, .int .i64 f1, .int .i64 t1, .slice A1 n1 c1]) 0 rz30 rfl rfl rfl rfl rfl rfl rfl rfl ?_
         refine wl_nil ?_
         refine nw 18 131071 (fun _ hm => ⟨hm.bl 3, hm.bl 4, hm.bl 5, trivial⟩) fun z => ?_
         refine wt 17 18 262143 rfl z (ov_assign rfl) ?_
         refine wa_done (by kernel_rfl) ?_
         exact nx_meet (k1, d1, f1, t1, A1, n1, c1, l1, hireE ⟨key, s47, fr, fr + v3, [startLeg s48 ⟨ra, rs, rm, rf⟩]⟩, g50) hb1 ⟨rfl, rfl, rfl, rfl, rfl, rfl, rfl, trivial⟩ (fun _ hm => hm.pick [3, 4, 5, 0] [] [0] rfl rfl)
        refine wl_alloc zc30 rfl fun g51 => ?_
        refine wl_nil ?_
        refine nw 18 34815 (fun _ hm => ⟨hm.bl 3, hm.bl 4, hm.bl 5, trivial⟩) fun z => ?_
        refine wa1 11 rfl ?_
        refine wl_callx (γ := ByteArray × ByteArray × Int × Int × Option Addr × Nat × Nat × List Lg) (val := (fun g => .tuple #[.agg #[.string g.1, .string g.2.1, .int .i64 g.2.2.1, .int .i64 g.2.2.2.1, .slice g.2.2.2.2.1 g.2.2.2.2.2.1 g.2.2.2.2.2.2.1], .int .i64 (hireE ⟨key, s47, fr, fr + v3, [startLeg s48 ⟨ra, rs, rm, rf⟩]⟩)])) (φ := (fun g => HrOk g.1 g.2.1 g.2.2.2.2.2.2.2 ∧ g.2.2.2.2.2.1 ≤ 1 ∧ (hireE ⟨key, s47, fr, fr + v3, [startLeg s48 ⟨ra, rs, rm, rf⟩]⟩ = 0 → g.2.2.2.2.2.1 = 1 ∧ hireE ⟨g.1, g.2.1, g.2.2.1, g.2.2.2.1, g.2.2.2.2.2.2.2⟩ = 0))) (Y := (fun g => fun wy => SlT lgEnc 9 135 wy g.2.2.2.2.1 g.2.2.2.2.2.1 g.2.2.2.2.2.2.2)) rfl cb62 rfl rfl (fun wx hm => (startOf_litR key s47 fr (fr + v3) s48 ra rm rf rs wx (by omega) (by omega) (by omega) hz_rs).mono fun _ _ ⟨k, d, f, t, A, n, c, l, he, hsl, hok, hn, hn0, hg⟩ => ⟨(k, d, f, t, A, n, c, l), he, ⟨hok, hn, hn0⟩, hg, hsl⟩) (fun _ => SlT.lasts2 rfl) ?_
        rintro ⟨k1, d1, f1, t1, A1, n1, c1, l1⟩ hb1
        dsimp only at hb1 ⊢
        refine wl_nil ?_
        refine nw 18 36863 (fun _ hm => ⟨hm.bl 3, hm.bl 4, hm.bl 5, trivial⟩) fun z => ?_
        refine wt 12 18 40959 rfl z (ov_move rfl) ?_
        refine wt 13 18 49151 rfl z (ov_extract rfl rfl) ?_
        refine wt 14 18 65535 rfl z (ov_extract rfl rfl) ?_
        refine wa1 16 rfl ?_
        refine wl_stores (cs' := [.string k1, .string d1, .int .i64 f1, .int .i64 t1, .slice A1 n1 c1]) 0 rz30 rfl rfl rfl rfl rfl rfl rfl rfl ?_
        refine wl_nil ?_
        refine nw 18 131071 (fun _ hm => ⟨hm.bl 3, hm.bl 4, hm.bl 5, trivial⟩) fun z => ?_
        refine wt 17 18 262143 rfl z (ov_assign rfl) ?_
        refine wa_done (by kernel_rfl) ?_
        exact nx_meet (k1, d1, f1, t1, A1, n1, c1, l1, hireE ⟨key, s47, fr, fr + v3, [startLeg s48 ⟨ra, rs, rm, rf⟩]⟩, g51) hb1 ⟨rfl, rfl, rfl, rfl, rfl, rfl, rfl, trivial⟩ (fun _ hm => hm.pick [3, 4, 5, 0] [] [0] rfl rfl)
       refine wl_alloc zc30 rfl fun g52 => ?_
       refine wl_nil ?_
       refine nw 18 33791 (fun _ hm => ⟨hm.bl 3, hm.bl 4, hm.bl 5, trivial⟩) fun z => ?_
       refine wa1 10 rfl ?_
       refine wl_calls (γ := Int × ByteArray × Int × Int) (val := (fun g => .agg #[.int .i64 g.1, .string g.2.1, .int .i64 g.2.2.1, .int .i64 g.2.2.2])) (φ := (fun g => RdOk ⟨g.1, g.2.1, g.2.2.1, g.2.2.2⟩)) (Y := (fun g => fun _ => True)) (m' := m + 200 * i + 1 + 1 + 1 + 10) rfl cb19 rfl rfl rfl rfl (fun wx hm => (greading_any fr wx B sb _ hm.k (by omega) (by omega) (by omega)).mono fun _ _ ⟨r, hok, he, hS, hg⟩ => ⟨(r.at_, r.st, r.meter, r.fuel), he, hok, hS, hg, trivial⟩) (fun _ => Lasts2.true_) ?_
       rintro ⟨ra, rs, rm, rf⟩ hr_ra
       dsimp only at hr_ra ⊢
       have hz_rs : rs.size ≤ 1000000 := hr_ra
       refine wl_nil ?_
       refine nw 18 34815 (fun _ hm => ⟨hm.bl 3, hm.bl 4, hm.bl 5, trivial⟩) fun z => ?_
       refine wa1 11 rfl ?_
       refine wl_callx (γ := ByteArray × ByteArray × Int × Int × Option Addr × Nat × Nat × List Lg) (val := (fun g => .tuple #[.agg #[.string g.1, .string g.2.1, .int .i64 g.2.2.1, .int .i64 g.2.2.2.1, .slice g.2.2.2.2.1 g.2.2.2.2.2.1 g.2.2.2.2.2.2.1], .int .i64 (hireE ⟨key, s47, fr, fr + v3, [startLeg s48 ⟨ra, rs, rm, rf⟩]⟩)])) (φ := (fun g => HrOk g.1 g.2.1 g.2.2.2.2.2.2.2 ∧ g.2.2.2.2.2.1 ≤ 1 ∧ (hireE ⟨key, s47, fr, fr + v3, [startLeg s48 ⟨ra, rs, rm, rf⟩]⟩ = 0 → g.2.2.2.2.2.1 = 1 ∧ hireE ⟨g.1, g.2.1, g.2.2.1, g.2.2.2.1, g.2.2.2.2.2.2.2⟩ = 0))) (Y := (fun g => fun wy => SlT lgEnc 9 135 wy g.2.2.2.2.1 g.2.2.2.2.2.1 g.2.2.2.2.2.2.2)) rfl cb62 rfl rfl (fun wx hm => (startOf_litR key s47 fr (fr + v3) s48 ra rm rf rs wx (by omega) (by omega) (by omega) hz_rs).mono fun _ _ ⟨k, d, f, t, A, n, c, l, he, hsl, hok, hn, hn0, hg⟩ => ⟨(k, d, f, t, A, n, c, l), he, ⟨hok, hn, hn0⟩, hg, hsl⟩) (fun _ => SlT.lasts2 rfl) ?_
       rintro ⟨k1, d1, f1, t1, A1, n1, c1, l1⟩ hb1
       dsimp only at hb1 ⊢
       refine wl_nil ?_
       refine nw 18 36863 (fun _ hm => ⟨hm.bl 3, hm.bl 4, hm.bl 5, trivial⟩) fun z => ?_
       refine wt 12 18 40959 rfl z (ov_move rfl) ?_
       refine wt 13 18 49151 rfl z (ov_extract rfl rfl) ?_
       refine wt 14 18 65535 rfl z (ov_extract rfl rfl) ?_
       refine wa1 16 rfl ?_
       refine wl_stores (cs' := [.string k1, .string d1, .int .i64 f1, .int .i64 t1, .slice A1 n1 c1]) 0 rz30 rfl rfl rfl rfl rfl rfl rfl rfl ?_
       refine wl_nil ?_
       refine nw 18 131071 (fun _ hm => ⟨hm.bl 3, hm.bl 4, hm.bl 5, trivial⟩) fun z => ?_
       refine wt 17 18 262143 rfl z (ov_assign rfl) ?_
       refine wa_done (by kernel_rfl) ?_
       exact nx_meet (k1, d1, f1, t1, A1, n1, c1, l1, hireE ⟨key, s47, fr, fr + v3, [startLeg s48 ⟨ra, rs, rm, rf⟩]⟩, g52) hb1 ⟨rfl, rfl, rfl, rfl, rfl, rfl, rfl, trivial⟩ (fun _ hm => hm.pick [3, 4, 5, 0] [] [0] rfl rfl)
      refine wl_alloc zc30 rfl fun g54 => ?_
      refine wl_nil ?_
      refine nw 18 33663 (fun _ hm => ⟨hm.bl 3, hm.bl 4, hm.bl 5, trivial⟩) fun z => ?_
      refine wa1 7 rfl ?_
      refine wl_got (γ := ByteArray) (val := fun v => .string v) (φ := fun v => v ∈ ([⟨#[118, 49]⟩, ⟨#[118, 49]⟩, ⟨#[118, 50]⟩, ⟨#[118, 51]⟩] : List ByteArray)) rfl cb49 rfl rfl rfl rfl (fun wx hm => (some_any [⟨#[118, 49]⟩, ⟨#[118, 49]⟩, ⟨#[118, 50]⟩, ⟨#[118, 51]⟩] _ _ _ wx B sb _ hm.k (by omega) (by simp) (by simp) (hm.blkI 2 rfl) (hm.neRow 2 rfl rfl))) fun s55 hs55 => ?_
      have zs55 : s55.size ≤ 100 := mem_sz hs55 (by decide)
      refine wl_nil ?_
      refine nw 18 33791 (fun _ hm => ⟨hm.bl 3, hm.bl 4, hm.bl 5, trivial⟩) fun z => ?_
      refine wa1 10 rfl ?_
      refine wl_calls (γ := Int × ByteArray × Int × Int) (val := (fun g => .agg #[.int .i64 g.1, .string g.2.1, .int .i64 g.2.2.1, .int .i64 g.2.2.2])) (φ := (fun g => RdOk ⟨g.1, g.2.1, g.2.2.1, g.2.2.2⟩)) (Y := (fun g => fun _ => True)) (m' := m + 200 * i + 1 + 1 + 1 + 10) rfl cb19 rfl rfl rfl rfl (fun wx hm => (greading_any fr wx B sb _ hm.k (by omega) (by omega) (by omega)).mono fun _ _ ⟨r, hok, he, hS, hg⟩ => ⟨(r.at_, r.st, r.meter, r.fuel), he, hok, hS, hg, trivial⟩) (fun _ => Lasts2.true_) ?_
      rintro ⟨ra, rs, rm, rf⟩ hr_ra
      dsimp only at hr_ra ⊢
      have hz_rs : rs.size ≤ 1000000 := hr_ra
      refine wl_nil ?_
      refine nw 18 34815 (fun _ hm => ⟨hm.bl 3, hm.bl 4, hm.bl 5, trivial⟩) fun z => ?_
      refine wa1 11 rfl ?_
      refine wl_callx (γ := ByteArray × ByteArray × Int × Int × Option Addr × Nat × Nat × List Lg) (val := (fun g => .tuple #[.agg #[.string g.1, .string g.2.1, .int .i64 g.2.2.1, .int .i64 g.2.2.2.1, .slice g.2.2.2.2.1 g.2.2.2.2.2.1 g.2.2.2.2.2.2.1], .int .i64 (hireE ⟨key, s47, fr, fr + v3, [startLeg s55 ⟨ra, rs, rm, rf⟩]⟩)])) (φ := (fun g => HrOk g.1 g.2.1 g.2.2.2.2.2.2.2 ∧ g.2.2.2.2.2.1 ≤ 1 ∧ (hireE ⟨key, s47, fr, fr + v3, [startLeg s55 ⟨ra, rs, rm, rf⟩]⟩ = 0 → g.2.2.2.2.2.1 = 1 ∧ hireE ⟨g.1, g.2.1, g.2.2.1, g.2.2.2.1, g.2.2.2.2.2.2.2⟩ = 0))) (Y := (fun g => fun wy => SlT lgEnc 9 135 wy g.2.2.2.2.1 g.2.2.2.2.2.1 g.2.2.2.2.2.2.2)) rfl cb62 rfl rfl (fun wx hm => (startOf_litR key s47 fr (fr + v3) s55 ra rm rf rs wx (by omega) (by omega) (by omega) hz_rs).mono fun _ _ ⟨k, d, f, t, A, n, c, l, he, hsl, hok, hn, hn0, hg⟩ => ⟨(k, d, f, t, A, n, c, l), he, ⟨hok, hn, hn0⟩, hg, hsl⟩) (fun _ => SlT.lasts2 rfl) ?_
      rintro ⟨k1, d1, f1, t1, A1, n1, c1, l1⟩ hb1
      dsimp only at hb1 ⊢
      refine wl_nil ?_
      refine nw 18 36863 (fun _ hm => ⟨hm.bl 3, hm.bl 4, hm.bl 5, trivial⟩) fun z => ?_
      refine wt 12 18 40959 rfl z (ov_move rfl) ?_
      refine wt 13 18 49151 rfl z (ov_extract rfl rfl) ?_
      refine wt 14 18 65535 rfl z (ov_extract rfl rfl) ?_
      refine wa1 16 rfl ?_
      refine wl_stores (cs' := [.string k1, .string d1, .int .i64 f1, .int .i64 t1, .slice A1 n1 c1]) 0 rz30 rfl rfl rfl rfl rfl rfl rfl rfl ?_
      refine wl_nil ?_
      refine nw 18 131071 (fun _ hm => ⟨hm.bl 3, hm.bl 4, hm.bl 5, trivial⟩) fun z => ?_
      refine wt 17 18 262143 rfl z (ov_assign rfl) ?_
      refine wa_done (by kernel_rfl) ?_
      exact nx_meet (k1, d1, f1, t1, A1, n1, c1, l1, hireE ⟨key, s47, fr, fr + v3, [startLeg s55 ⟨ra, rs, rm, rf⟩]⟩, g54) hb1 ⟨rfl, rfl, rfl, rfl, rfl, rfl, rfl, trivial⟩ (fun _ hm => hm.pick [3, 4, 5, 0] [] [0] rfl rfl)
     refine wl_alloc zc30 rfl fun g57 => ?_
     refine wl_nil ?_
     refine nw 18 33655 (fun _ hm => ⟨hm.bl 3, hm.bl 4, hm.bl 5, trivial⟩) fun z => ?_
     refine wa1 3 rfl ?_
     refine wl_got (γ := ByteArray) (val := fun v => .string v) (φ := fun v => v ∈ ([⟨#[97, 110, 110]⟩, ⟨#[97, 110, 110]⟩, ⟨#[98, 111, 98]⟩, ⟨#[99, 105, 100]⟩] : List ByteArray)) rfl cb49 rfl rfl rfl rfl (fun wx hm => (some_any [⟨#[97, 110, 110]⟩, ⟨#[97, 110, 110]⟩, ⟨#[98, 111, 98]⟩, ⟨#[99, 105, 100]⟩] _ _ _ wx B sb _ hm.k (by omega) (by simp) (by simp) (hm.blkI 1 rfl) (hm.neRow 1 rfl rfl))) fun s58 hs58 => ?_
     have zs58 : s58.size ≤ 100 := mem_sz hs58 (by decide)
     refine wl_nil ?_
     refine nw 18 33663 (fun _ hm => ⟨hm.bl 3, hm.bl 4, hm.bl 5, trivial⟩) fun z => ?_
     refine wa1 7 rfl ?_
     refine wl_got (γ := ByteArray) (val := fun v => .string v) (φ := fun v => v ∈ ([⟨#[118, 49]⟩, ⟨#[118, 49]⟩, ⟨#[118, 50]⟩, ⟨#[118, 51]⟩] : List ByteArray)) rfl cb49 rfl rfl rfl rfl (fun wx hm => (some_any [⟨#[118, 49]⟩, ⟨#[118, 49]⟩, ⟨#[118, 50]⟩, ⟨#[118, 51]⟩] _ _ _ wx B sb _ hm.k (by omega) (by simp) (by simp) (hm.blkI 2 rfl) (hm.neRow 2 rfl rfl))) fun s59 hs59 => ?_
     have zs59 : s59.size ≤ 100 := mem_sz hs59 (by decide)
     refine wl_nil ?_
     refine nw 18 33791 (fun _ hm => ⟨hm.bl 3, hm.bl 4, hm.bl 5, trivial⟩) fun z => ?_
     refine wa1 10 rfl ?_
     refine wl_calls (γ := Int × ByteArray × Int × Int) (val := (fun g => .agg #[.int .i64 g.1, .string g.2.1, .int .i64 g.2.2.1, .int .i64 g.2.2.2])) (φ := (fun g => RdOk ⟨g.1, g.2.1, g.2.2.1, g.2.2.2⟩)) (Y := (fun g => fun _ => True)) (m' := m + 200 * i + 1 + 1 + 1 + 10) rfl cb19 rfl rfl rfl rfl (fun wx hm => (greading_any fr wx B sb _ hm.k (by omega) (by omega) (by omega)).mono fun _ _ ⟨r, hok, he, hS, hg⟩ => ⟨(r.at_, r.st, r.meter, r.fuel), he, hok, hS, hg, trivial⟩) (fun _ => Lasts2.true_) ?_
     rintro ⟨ra, rs, rm, rf⟩ hr_ra
     dsimp only at hr_ra ⊢
     have hz_rs : rs.size ≤ 1000000 := hr_ra
     refine wl_nil ?_
     refine nw 18 34815 (fun _ hm => ⟨hm.bl 3, hm.bl 4, hm.bl 5, trivial⟩) fun z => ?_
     refine wa1 11 rfl ?_
     refine wl_callx (γ := ByteArray × ByteArray × Int × Int × Option Addr × Nat × Nat × List Lg) (val := (fun g => .tuple #[.agg #[.string g.1, .string g.2.1, .int .i64 g.2.2.1, .int .i64 g.2.2.2.1, .slice g.2.2.2.2.1 g.2.2.2.2.2.1 g.2.2.2.2.2.2.1], .int .i64 (hireE ⟨key, s58, fr, fr + v3, [startLeg s59 ⟨ra, rs, rm, rf⟩]⟩)])) (φ := (fun g => HrOk g.1 g.2.1 g.2.2.2.2.2.2.2 ∧ g.2.2.2.2.2.1 ≤ 1 ∧ (hireE ⟨key, s58, fr, fr + v3, [startLeg s59 ⟨ra, rs, rm, rf⟩]⟩ = 0 → g.2.2.2.2.2.1 = 1 ∧ hireE ⟨g.1, g.2.1, g.2.2.1, g.2.2.2.1, g.2.2.2.2.2.2.2⟩ = 0))) (Y := (fun g => fun wy => SlT lgEnc 9 135 wy g.2.2.2.2.1 g.2.2.2.2.2.1 g.2.2.2.2.2.2.2)) rfl cb62 rfl rfl (fun wx hm => (startOf_litR key s58 fr (fr + v3) s59 ra rm rf rs wx (by omega) (by omega) (by omega) hz_rs).mono fun _ _ ⟨k, d, f, t, A, n, c, l, he, hsl, hok, hn, hn0, hg⟩ => ⟨(k, d, f, t, A, n, c, l), he, ⟨hok, hn, hn0⟩, hg, hsl⟩) (fun _ => SlT.lasts2 rfl) ?_
     rintro ⟨k1, d1, f1, t1, A1, n1, c1, l1⟩ hb1
     dsimp only at hb1 ⊢
     refine wl_nil ?_
     refine nw 18 36863 (fun _ hm => ⟨hm.bl 3, hm.bl 4, hm.bl 5, trivial⟩) fun z => ?_
     refine wt 12 18 40959 rfl z (ov_move rfl) ?_
     refine wt 13 18 49151 rfl z (ov_extract rfl rfl) ?_
     refine wt 14 18 65535 rfl z (ov_extract rfl rfl) ?_
     refine wa1 16 rfl ?_
     refine wl_stores (cs' := [.string k1, .string d1, .int .i64 f1, .int .i64 t1, .slice A1 n1 c1]) 0 rz30 rfl rfl rfl rfl rfl rfl rfl rfl ?_
     refine wl_nil ?_
     refine nw 18 131071 (fun _ hm => ⟨hm.bl 3, hm.bl 4, hm.bl 5, trivial⟩) fun z => ?_
     refine wt 17 18 262143 rfl z (ov_assign rfl) ?_
     refine wa_done (by kernel_rfl) ?_
     exact nx_meet (k1, d1, f1, t1, A1, n1, c1, l1, hireE ⟨key, s58, fr, fr + v3, [startLeg s59 ⟨ra, rs, rm, rf⟩]⟩, g57) hb1 ⟨rfl, rfl, rfl, rfl, rfl, rfl, rfl, trivial⟩ (fun _ hm => hm.pick [3, 4, 5, 0] [] [0] rfl rfl)
    refine wl_alloc zc30 rfl fun g61 => ?_
    refine wl_nil ?_
    refine nw 18 33651 (fun _ hm => ⟨hm.bl 2, hm.bl 3, hm.bl 4, trivial⟩) fun z => ?_
    refine wa1 2 rfl ?_
    refine wl_buildSlice (e := 9) (cs := [.string ⟨#[97, 110, 110]⟩, .string ⟨#[97, 110, 110]⟩, .string ⟨#[98, 111, 98]⟩, .string ⟨#[99, 105, 100]⟩]) rfl (by kernel_rfl) rfl fun g62 => ?_
    refine wl_nil ?_
    refine nw 18 33655 (fun _ hm => ⟨hm.bl 3, hm.bl 4, hm.bl 5, trivial⟩) fun z => ?_
    refine wa1 3 rfl ?_
    refine wl_got (γ := ByteArray) (val := fun v => .string v) (φ := fun v => v ∈ ([⟨#[97, 110, 110]⟩, ⟨#[97, 110, 110]⟩, ⟨#[98, 111, 98]⟩, ⟨#[99, 105, 100]⟩] : List ByteArray)) rfl cb49 rfl rfl rfl rfl (fun wx hm => (some_any [⟨#[97, 110, 110]⟩, ⟨#[97, 110, 110]⟩, ⟨#[98, 111, 98]⟩, ⟨#[99, 105, 100]⟩] _ _ _ wx B sb _ hm.k (by omega) (by simp) (by simp) (hm.blkI 0 rfl) (hm.neRow 0 rfl rfl))) fun s63 hs63 => ?_
    have zs63 : s63.size ≤ 100 := mem_sz hs63 (by decide)
    refine wl_nil ?_
    refine nw 18 33663 (fun _ hm => ⟨hm.bl 3, hm.bl 4, hm.bl 5, trivial⟩) fun z => ?_
    refine wa1 7 rfl ?_
    refine wl_got (γ := ByteArray) (val := fun v => .string v) (φ := fun v => v ∈ ([⟨#[118, 49]⟩, ⟨#[118, 49]⟩, ⟨#[118, 50]⟩, ⟨#[118, 51]⟩] : List ByteArray)) rfl cb49 rfl rfl rfl rfl (fun wx hm => (some_any [⟨#[118, 49]⟩, ⟨#[118, 49]⟩, ⟨#[118, 50]⟩, ⟨#[118, 51]⟩] _ _ _ wx B sb _ hm.k (by omega) (by simp) (by simp) (hm.blkI 2 rfl) (hm.neRow 2 rfl rfl))) fun s64 hs64 => ?_
    have zs64 : s64.size ≤ 100 := mem_sz hs64 (by decide)
    refine wl_nil ?_
    refine nw 18 33791 (fun _ hm => ⟨hm.bl 3, hm.bl 4, hm.bl 5, trivial⟩) fun z => ?_
    refine wa1 10 rfl ?_
    refine wl_calls (γ := Int × ByteArray × Int × Int) (val := (fun g => .agg #[.int .i64 g.1, .string g.2.1, .int .i64 g.2.2.1, .int .i64 g.2.2.2])) (φ := (fun g => RdOk ⟨g.1, g.2.1, g.2.2.1, g.2.2.2⟩)) (Y := (fun g => fun _ => True)) (m' := m + 200 * i + 1 + 1 + 1 + 10) rfl cb19 rfl rfl rfl rfl (fun wx hm => (greading_any fr wx B sb _ hm.k (by omega) (by omega) (by omega)).mono fun _ _ ⟨r, hok, he, hS, hg⟩ => ⟨(r.at_, r.st, r.meter, r.fuel), he, hok, hS, hg, trivial⟩) (fun _ => Lasts2.true_) ?_
    rintro ⟨ra, rs, rm, rf⟩ hr_ra
    dsimp only at hr_ra ⊢
    have hz_rs : rs.size ≤ 1000000 := hr_ra
    refine wl_nil ?_
    refine nw 18 34815 (fun _ hm => ⟨hm.bl 3, hm.bl 4, hm.bl 5, trivial⟩) fun z => ?_
    refine wa1 11 rfl ?_
    refine wl_callx (γ := ByteArray × ByteArray × Int × Int × Option Addr × Nat × Nat × List Lg) (val := (fun g => .tuple #[.agg #[.string g.1, .string g.2.1, .int .i64 g.2.2.1, .int .i64 g.2.2.2.1, .slice g.2.2.2.2.1 g.2.2.2.2.2.1 g.2.2.2.2.2.2.1], .int .i64 (hireE ⟨key, s63, fr, fr + v3, [startLeg s64 ⟨ra, rs, rm, rf⟩]⟩)])) (φ := (fun g => HrOk g.1 g.2.1 g.2.2.2.2.2.2.2 ∧ g.2.2.2.2.2.1 ≤ 1 ∧ (hireE ⟨key, s63, fr, fr + v3, [startLeg s64 ⟨ra, rs, rm, rf⟩]⟩ = 0 → g.2.2.2.2.2.1 = 1 ∧ hireE ⟨g.1, g.2.1, g.2.2.1, g.2.2.2.1, g.2.2.2.2.2.2.2⟩ = 0))) (Y := (fun g => fun wy => SlT lgEnc 9 135 wy g.2.2.2.2.1 g.2.2.2.2.2.1 g.2.2.2.2.2.2.2)) rfl cb62 rfl rfl (fun wx hm => (startOf_litR key s63 fr (fr + v3) s64 ra rm rf rs wx (by omega) (by omega) (by omega) hz_rs).mono fun _ _ ⟨k, d, f, t, A, n, c, l, he, hsl, hok, hn, hn0, hg⟩ => ⟨(k, d, f, t, A, n, c, l), he, ⟨hok, hn, hn0⟩, hg, hsl⟩) (fun _ => SlT.lasts2 rfl) ?_
    rintro ⟨k1, d1, f1, t1, A1, n1, c1, l1⟩ hb1
    dsimp only at hb1 ⊢
    refine wl_nil ?_
    refine nw 18 36863 (fun _ hm => ⟨hm.bl 3, hm.bl 4, hm.bl 5, trivial⟩) fun z => ?_
    refine wt 12 18 40959 rfl z (ov_move rfl) ?_
    refine wt 13 18 49151 rfl z (ov_extract rfl rfl) ?_
    refine wt 14 18 65535 rfl z (ov_extract rfl rfl) ?_
    refine wa1 16 rfl ?_
    refine wl_stores (cs' := [.string k1, .string d1, .int .i64 f1, .int .i64 t1, .slice A1 n1 c1]) 1 rz30 rfl rfl rfl rfl rfl rfl rfl rfl ?_
    refine wl_nil ?_
    refine nw 18 131071 (fun _ hm => ⟨hm.bl 3, hm.bl 4, hm.bl 5, trivial⟩) fun z => ?_
    refine wt 17 18 262143 rfl z (ov_assign rfl) ?_
    refine wa_done (by kernel_rfl) ?_
    exact nx_meet (k1, d1, f1, t1, A1, n1, c1, l1, hireE ⟨key, s63, fr, fr + v3, [startLeg s64 ⟨ra, rs, rm, rf⟩]⟩, g61) hb1 ⟨rfl, rfl, rfl, rfl, rfl, rfl, rfl, trivial⟩ (fun _ hm => hm.pick [3, 4, 5, 1] [] [0] rfl rfl)
   refine wl_alloc zc30 rfl fun g66 => ?_
   refine wl_nil ?_
   refine nw 18 33587 (fun _ hm => ⟨hm.bl 1, hm.bl 2, hm.bl 3, trivial⟩) fun z => ?_
   refine wa_all [2, 6] (by kernel_rfl) rfl ⟨⟨_, rfl, ?_⟩, ⟨_, rfl, ?_⟩, trivial⟩
   ·refine wl_buildSlice (e := 9) (cs := [.string ⟨#[97, 110, 110]⟩, .string ⟨#[97, 110, 110]⟩, .string ⟨#[98, 111, 98]⟩, .string ⟨#[99, 105, 100]⟩]) rfl (by kernel_rfl) rfl fun g67 => ?_
    refine wl_nil ?_
    refine nw 18 33591 (fun _ hm => ⟨hm.bl 2, hm.bl 3, hm.bl 4, trivial⟩) fun z => ?_
    refine wa_all [3, 6] (by kernel_rfl) rfl ⟨⟨_, rfl, ?_⟩, ⟨_, rfl, ?_⟩, trivial⟩
    ·refine wl_got (γ := ByteArray) (val := fun v => .string v) (φ := fun v => v ∈ ([⟨#[97, 110, 110]⟩, ⟨#[97, 110, 110]⟩, ⟨#[98, 111, 98]⟩, ⟨#[99, 105, 100]⟩] : List ByteArray)) rfl cb49 rfl rfl rfl rfl (fun wx hm => (some_any [⟨#[97, 110, 110]⟩, ⟨#[97, 110, 110]⟩, ⟨#[98, 111, 98]⟩, ⟨#[99, 105, 100]⟩] _ _ _ wx B sb _ hm.k (by omega) (by simp) (by simp) (hm.blkI 0 rfl) (hm.neRow 0 rfl rfl))) fun s68 hs68 => ?_
     have zs68 : s68.size ≤ 100 := mem_sz hs68 (by decide)
     refine wl_nil ?_
     refine nw 18 33599 (fun _ hm => ⟨hm.bl 2, hm.bl 3, hm.bl 4, trivial⟩) fun z => ?_
     refine wa1 6 rfl ?_
     refine wl_buildSlice (e := 9) (cs := [.string ⟨#[118, 49]⟩, .string ⟨#[118, 49]⟩, .string ⟨#[118, 50]⟩, .string ⟨#[118, 51]⟩]) rfl (by kernel_rfl) rfl fun g69 => ?_
     refine wl_nil ?_
     refine nw 18 33663 (fun _ hm => ⟨hm.bl 3, hm.bl 4, hm.bl 5, trivial⟩) fun z => ?_
     refine wa1 7 rfl ?_
     refine wl_got (γ := ByteArray) (val := fun v => .string v) (φ := fun v => v ∈ ([⟨#[118, 49]⟩, ⟨#[118, 49]⟩, ⟨#[118, 50]⟩, ⟨#[118, 51]⟩] : List ByteArray)) rfl cb49 rfl rfl rfl rfl (fun wx hm => (some_any [⟨#[118, 49]⟩, ⟨#[118, 49]⟩, ⟨#[118, 50]⟩, ⟨#[118, 51]⟩] _ _ _ wx B sb _ hm.k (by omega) (by simp) (by simp) (hm.blkI 0 rfl) (hm.neRow 0 rfl rfl))) fun s70 hs70 => ?_
     have zs70 : s70.size ≤ 100 := mem_sz hs70 (by decide)
     refine wl_nil ?_
     refine nw 18 33791 (fun _ hm => ⟨hm.bl 3, hm.bl 4, hm.bl 5, trivial⟩) fun z => ?_
     refine wa1 10 rfl ?_
     refine wl_calls (γ := Int × ByteArray × Int × Int) (val := (fun g => .agg #[.int .i64 g.1, .string g.2.1, .int .i64 g.2.2.1, .int .i64 g.2.2.2])) (φ := (fun g => RdOk ⟨g.1, g.2.1, g.2.2.1, g.2.2.2⟩)) (Y := (fun g => fun _ => True)) (m' := m + 200 * i + 1 + 1 + 1 + 10) rfl cb19 rfl rfl rfl rfl (fun wx hm => (greading_any fr wx B sb _ hm.k (by omega) (by omega) (by omega)).mono fun _ _ ⟨r, hok, he, hS, hg⟩ => ⟨(r.at_, r.st, r.meter, r.fuel), he, hok, hS, hg, trivial⟩) (fun _ => Lasts2.true_) ?_
     rintro ⟨ra, rs, rm, rf⟩ hr_ra
     dsimp only at hr_ra ⊢
     have hz_rs : rs.size ≤ 1000000 := hr_ra
     refine wl_nil ?_
     refine nw 18 34815 (fun _ hm => ⟨hm.bl 3, hm.bl 4, hm.bl 5, trivial⟩) fun z => ?_
     refine wa1 11 rfl ?_
     refine wl_callx (γ := ByteArray × ByteArray × Int × Int × Option Addr × Nat × Nat × List Lg) (val := (fun g => .tuple #[.agg #[.string g.1, .string g.2.1, .int .i64 g.2.2.1, .int .i64 g.2.2.2.1, .slice g.2.2.2.2.1 g.2.2.2.2.2.1 g.2.2.2.2.2.2.1], .int .i64 (hireE ⟨key, s68, fr, fr + v3, [startLeg s70 ⟨ra, rs, rm, rf⟩]⟩)])) (φ := (fun g => HrOk g.1 g.2.1 g.2.2.2.2.2.2.2 ∧ g.2.2.2.2.2.1 ≤ 1 ∧ (hireE ⟨key, s68, fr, fr + v3, [startLeg s70 ⟨ra, rs, rm, rf⟩]⟩ = 0 → g.2.2.2.2.2.1 = 1 ∧ hireE ⟨g.1, g.2.1, g.2.2.1, g.2.2.2.1, g.2.2.2.2.2.2.2⟩ = 0))) (Y := (fun g => fun wy => SlT lgEnc 9 135 wy g.2.2.2.2.1 g.2.2.2.2.2.1 g.2.2.2.2.2.2.2)) rfl cb62 rfl rfl (fun wx hm => (startOf_litR key s68 fr (fr + v3) s70 ra rm rf rs wx (by omega) (by omega) (by omega) hz_rs).mono fun _ _ ⟨k, d, f, t, A, n, c, l, he, hsl, hok, hn, hn0, hg⟩ => ⟨(k, d, f, t, A, n, c, l), he, ⟨hok, hn, hn0⟩, hg, hsl⟩) (fun _ => SlT.lasts2 rfl) ?_
     rintro ⟨k1, d1, f1, t1, A1, n1, c1, l1⟩ hb1
     dsimp only at hb1 ⊢
     refine wl_nil ?_
     refine nw 18 36863 (fun _ hm => ⟨hm.bl 3, hm.bl 4, hm.bl 5, trivial⟩) fun z => ?_
     refine wt 12 18 40959 rfl z (ov_move rfl) ?_
     refine wt 13 18 49151 rfl z (ov_extract rfl rfl) ?_
     refine wt 14 18 65535 rfl z (ov_extract rfl rfl) ?_
     refine wa1 16 rfl ?_
     refine wl_stores (cs' := [.string k1, .string d1, .int .i64 f1, .int .i64 t1, .slice A1 n1 c1]) 2 rz30 rfl rfl rfl rfl rfl rfl rfl rfl ?_
     refine wl_nil ?_
     refine nw 18 131071 (fun _ hm => ⟨hm.bl 3, hm.bl 4, hm.bl 5, trivial⟩) fun z => ?_
     refine wt 17 18 262143 rfl z (ov_assign rfl) ?_
     refine wa_done (by kernel_rfl) ?_
     exact nx_meet (k1, d1, f1, t1, A1, n1, c1, l1, hireE ⟨key, s68, fr, fr + v3, [startLeg s70 ⟨ra, rs, rm, rf⟩]⟩, g66) hb1 ⟨rfl, rfl, rfl, rfl, rfl, rfl, rfl, trivial⟩ (fun _ hm => hm.pick [3, 4, 5, 2] [] [0] rfl rfl)
    refine wl_buildSlice (e := 9) (cs := [.string ⟨#[118, 49]⟩, .string ⟨#[118, 49]⟩, .string ⟨#[118, 50]⟩, .string ⟨#[118, 51]⟩]) rfl (by kernel_rfl) rfl fun g72 => ?_
    refine wl_nil ?_
    refine nw 18 33655 (fun _ hm => ⟨hm.bl 3, hm.bl 4, hm.bl 5, trivial⟩) fun z => ?_
    refine wa1 3 rfl ?_
    refine wl_got (γ := ByteArray) (val := fun v => .string v) (φ := fun v => v ∈ ([⟨#[97, 110, 110]⟩, ⟨#[97, 110, 110]⟩, ⟨#[98, 111, 98]⟩, ⟨#[99, 105, 100]⟩] : List ByteArray)) rfl cb49 rfl rfl rfl rfl (fun wx hm => (some_any [⟨#[97, 110, 110]⟩, ⟨#[97, 110, 110]⟩, ⟨#[98, 111, 98]⟩, ⟨#[99, 105, 100]⟩] _ _ _ wx B sb _ hm.k (by omega) (by simp) (by simp) (hm.blkI 1 rfl) (hm.neRow 1 rfl rfl))) fun s73 hs73 => ?_
    have zs73 : s73.size ≤ 100 := mem_sz hs73 (by decide)
    refine wl_nil ?_
    refine nw 18 33663 (fun _ hm => ⟨hm.bl 3, hm.bl 4, hm.bl 5, trivial⟩) fun z => ?_
    refine wa1 7 rfl ?_
    refine wl_got (γ := ByteArray) (val := fun v => .string v) (φ := fun v => v ∈ ([⟨#[118, 49]⟩, ⟨#[118, 49]⟩, ⟨#[118, 50]⟩, ⟨#[118, 51]⟩] : List ByteArray)) rfl cb49 rfl rfl rfl rfl (fun wx hm => (some_any [⟨#[118, 49]⟩, ⟨#[118, 49]⟩, ⟨#[118, 50]⟩, ⟨#[118, 51]⟩] _ _ _ wx B sb _ hm.k (by omega) (by simp) (by simp) (hm.blkI 0 rfl) (hm.neRow 0 rfl rfl))) fun s74 hs74 => ?_
    have zs74 : s74.size ≤ 100 := mem_sz hs74 (by decide)
    refine wl_nil ?_
    refine nw 18 33791 (fun _ hm => ⟨hm.bl 3, hm.bl 4, hm.bl 5, trivial⟩) fun z => ?_
    refine wa1 10 rfl ?_
    refine wl_calls (γ := Int × ByteArray × Int × Int) (val := (fun g => .agg #[.int .i64 g.1, .string g.2.1, .int .i64 g.2.2.1, .int .i64 g.2.2.2])) (φ := (fun g => RdOk ⟨g.1, g.2.1, g.2.2.1, g.2.2.2⟩)) (Y := (fun g => fun _ => True)) (m' := m + 200 * i + 1 + 1 + 1 + 10) rfl cb19 rfl rfl rfl rfl (fun wx hm => (greading_any fr wx B sb _ hm.k (by omega) (by omega) (by omega)).mono fun _ _ ⟨r, hok, he, hS, hg⟩ => ⟨(r.at_, r.st, r.meter, r.fuel), he, hok, hS, hg, trivial⟩) (fun _ => Lasts2.true_) ?_
    rintro ⟨ra, rs, rm, rf⟩ hr_ra
    dsimp only at hr_ra ⊢
    have hz_rs : rs.size ≤ 1000000 := hr_ra
    refine wl_nil ?_
    refine nw 18 34815 (fun _ hm => ⟨hm.bl 3, hm.bl 4, hm.bl 5, trivial⟩) fun z => ?_
    refine wa1 11 rfl ?_
    refine wl_callx (γ := ByteArray × ByteArray × Int × Int × Option Addr × Nat × Nat × List Lg) (val := (fun g => .tuple #[.agg #[.string g.1, .string g.2.1, .int .i64 g.2.2.1, .int .i64 g.2.2.2.1, .slice g.2.2.2.2.1 g.2.2.2.2.2.1 g.2.2.2.2.2.2.1], .int .i64 (hireE ⟨key, s73, fr, fr + v3, [startLeg s74 ⟨ra, rs, rm, rf⟩]⟩)])) (φ := (fun g => HrOk g.1 g.2.1 g.2.2.2.2.2.2.2 ∧ g.2.2.2.2.2.1 ≤ 1 ∧ (hireE ⟨key, s73, fr, fr + v3, [startLeg s74 ⟨ra, rs, rm, rf⟩]⟩ = 0 → g.2.2.2.2.2.1 = 1 ∧ hireE ⟨g.1, g.2.1, g.2.2.1, g.2.2.2.1, g.2.2.2.2.2.2.2⟩ = 0))) (Y := (fun g => fun wy => SlT lgEnc 9 135 wy g.2.2.2.2.1 g.2.2.2.2.2.1 g.2.2.2.2.2.2.2)) rfl cb62 rfl rfl (fun wx hm => (startOf_litR key s73 fr (fr + v3) s74 ra rm rf rs wx (by omega) (by omega) (by omega) hz_rs).mono fun _ _ ⟨k, d, f, t, A, n, c, l, he, hsl, hok, hn, hn0, hg⟩ => ⟨(k, d, f, t, A, n, c, l), he, ⟨hok, hn, hn0⟩, hg, hsl⟩) (fun _ => SlT.lasts2 rfl) ?_
    rintro ⟨k1, d1, f1, t1, A1, n1, c1, l1⟩ hb1
    dsimp only at hb1 ⊢
    refine wl_nil ?_
    refine nw 18 36863 (fun _ hm => ⟨hm.bl 3, hm.bl 4, hm.bl 5, trivial⟩) fun z => ?_
    refine wt 12 18 40959 rfl z (ov_move rfl) ?_
    refine wt 13 18 49151 rfl z (ov_extract rfl rfl) ?_
    refine wt 14 18 65535 rfl z (ov_extract rfl rfl) ?_
    refine wa1 16 rfl ?_
    refine wl_stores (cs' := [.string k1, .string d1, .int .i64 f1, .int .i64 t1, .slice A1 n1 c1]) 2 rz30 rfl rfl rfl rfl rfl rfl rfl rfl ?_
    refine wl_nil ?_
    refine nw 18 131071 (fun _ hm => ⟨hm.bl 3, hm.bl 4, hm.bl 5, trivial⟩) fun z => ?_
    refine wt 17 18 262143 rfl z (ov_assign rfl) ?_
    refine wa_done (by kernel_rfl) ?_
    exact nx_meet (k1, d1, f1, t1, A1, n1, c1, l1, hireE ⟨key, s73, fr, fr + v3, [startLeg s74 ⟨ra, rs, rm, rf⟩]⟩, g66) hb1 ⟨rfl, rfl, rfl, rfl, rfl, rfl, rfl, trivial⟩ (fun _ hm => hm.pick [3, 4, 5, 2] [] [0] rfl rfl)
   refine wl_buildSlice (e := 9) (cs := [.string ⟨#[118, 49]⟩, .string ⟨#[118, 49]⟩, .string ⟨#[118, 50]⟩, .string ⟨#[118, 51]⟩]) rfl (by kernel_rfl) rfl fun g76 => ?_
   refine wl_nil ?_
   refine nw 18 33651 (fun _ hm => ⟨hm.bl 2, hm.bl 3, hm.bl 4, trivial⟩) fun z => ?_
   refine wa1 2 rfl ?_
   refine wl_buildSlice (e := 9) (cs := [.string ⟨#[97, 110, 110]⟩, .string ⟨#[97, 110, 110]⟩, .string ⟨#[98, 111, 98]⟩, .string ⟨#[99, 105, 100]⟩]) rfl (by kernel_rfl) rfl fun g77 => ?_
   refine wl_nil ?_
   refine nw 18 33655 (fun _ hm => ⟨hm.bl 3, hm.bl 4, hm.bl 5, trivial⟩) fun z => ?_
   refine wa1 3 rfl ?_
   refine wl_got (γ := ByteArray) (val := fun v => .string v) (φ := fun v => v ∈ ([⟨#[97, 110, 110]⟩, ⟨#[97, 110, 110]⟩, ⟨#[98, 111, 98]⟩, ⟨#[99, 105, 100]⟩] : List ByteArray)) rfl cb49 rfl rfl rfl rfl (fun wx hm => (some_any [⟨#[97, 110, 110]⟩, ⟨#[97, 110, 110]⟩, ⟨#[98, 111, 98]⟩, ⟨#[99, 105, 100]⟩] _ _ _ wx B sb _ hm.k (by omega) (by simp) (by simp) (hm.blkI 0 rfl) (hm.neRow 0 rfl rfl))) fun s78 hs78 => ?_
   have zs78 : s78.size ≤ 100 := mem_sz hs78 (by decide)
   refine wl_nil ?_
   refine nw 18 33663 (fun _ hm => ⟨hm.bl 3, hm.bl 4, hm.bl 5, trivial⟩) fun z => ?_
   refine wa1 7 rfl ?_
   refine wl_got (γ := ByteArray) (val := fun v => .string v) (φ := fun v => v ∈ ([⟨#[118, 49]⟩, ⟨#[118, 49]⟩, ⟨#[118, 50]⟩, ⟨#[118, 51]⟩] : List ByteArray)) rfl cb49 rfl rfl rfl rfl (fun wx hm => (some_any [⟨#[118, 49]⟩, ⟨#[118, 49]⟩, ⟨#[118, 50]⟩, ⟨#[118, 51]⟩] _ _ _ wx B sb _ hm.k (by omega) (by simp) (by simp) (hm.blkI 1 rfl) (hm.neRow 1 rfl rfl))) fun s79 hs79 => ?_
   have zs79 : s79.size ≤ 100 := mem_sz hs79 (by decide)
   refine wl_nil ?_
   refine nw 18 33791 (fun _ hm => ⟨hm.bl 3, hm.bl 4, hm.bl 5, trivial⟩) fun z => ?_
   refine wa1 10 rfl ?_
   refine wl_calls (γ := Int × ByteArray × Int × Int) (val := (fun g => .agg #[.int .i64 g.1, .string g.2.1, .int .i64 g.2.2.1, .int .i64 g.2.2.2])) (φ := (fun g => RdOk ⟨g.1, g.2.1, g.2.2.1, g.2.2.2⟩)) (Y := (fun g => fun _ => True)) (m' := m + 200 * i + 1 + 1 + 1 + 10) rfl cb19 rfl rfl rfl rfl (fun wx hm => (greading_any fr wx B sb _ hm.k (by omega) (by omega) (by omega)).mono fun _ _ ⟨r, hok, he, hS, hg⟩ => ⟨(r.at_, r.st, r.meter, r.fuel), he, hok, hS, hg, trivial⟩) (fun _ => Lasts2.true_) ?_
   rintro ⟨ra, rs, rm, rf⟩ hr_ra
   dsimp only at hr_ra ⊢
   have hz_rs : rs.size ≤ 1000000 := hr_ra
   refine wl_nil ?_
   refine nw 18 34815 (fun _ hm => ⟨hm.bl 3, hm.bl 4, hm.bl 5, trivial⟩) fun z => ?_
   refine wa1 11 rfl ?_
   refine wl_callx (γ := ByteArray × ByteArray × Int × Int × Option Addr × Nat × Nat × List Lg) (val := (fun g => .tuple #[.agg #[.string g.1, .string g.2.1, .int .i64 g.2.2.1, .int .i64 g.2.2.2.1, .slice g.2.2.2.2.1 g.2.2.2.2.2.1 g.2.2.2.2.2.2.1], .int .i64 (hireE ⟨key, s78, fr, fr + v3, [startLeg s79 ⟨ra, rs, rm, rf⟩]⟩)])) (φ := (fun g => HrOk g.1 g.2.1 g.2.2.2.2.2.2.2 ∧ g.2.2.2.2.2.1 ≤ 1 ∧ (hireE ⟨key, s78, fr, fr + v3, [startLeg s79 ⟨ra, rs, rm, rf⟩]⟩ = 0 → g.2.2.2.2.2.1 = 1 ∧ hireE ⟨g.1, g.2.1, g.2.2.1, g.2.2.2.1, g.2.2.2.2.2.2.2⟩ = 0))) (Y := (fun g => fun wy => SlT lgEnc 9 135 wy g.2.2.2.2.1 g.2.2.2.2.2.1 g.2.2.2.2.2.2.2)) rfl cb62 rfl rfl (fun wx hm => (startOf_litR key s78 fr (fr + v3) s79 ra rm rf rs wx (by omega) (by omega) (by omega) hz_rs).mono fun _ _ ⟨k, d, f, t, A, n, c, l, he, hsl, hok, hn, hn0, hg⟩ => ⟨(k, d, f, t, A, n, c, l), he, ⟨hok, hn, hn0⟩, hg, hsl⟩) (fun _ => SlT.lasts2 rfl) ?_
   rintro ⟨k1, d1, f1, t1, A1, n1, c1, l1⟩ hb1
   dsimp only at hb1 ⊢
   refine wl_nil ?_
   refine nw 18 36863 (fun _ hm => ⟨hm.bl 3, hm.bl 4, hm.bl 5, trivial⟩) fun z => ?_
   refine wt 12 18 40959 rfl z (ov_move rfl) ?_
   refine wt 13 18 49151 rfl z (ov_extract rfl rfl) ?_
   refine wt 14 18 65535 rfl z (ov_extract rfl rfl) ?_
   refine wa1 16 rfl ?_
   refine wl_stores (cs' := [.string k1, .string d1, .int .i64 f1, .int .i64 t1, .slice A1 n1 c1]) 2 rz30 rfl rfl rfl rfl rfl rfl rfl rfl ?_
   refine wl_nil ?_
   refine nw 18 131071 (fun _ hm => ⟨hm.bl 3, hm.bl 4, hm.bl 5, trivial⟩) fun z => ?_
   refine wt 17 18 262143 rfl z (ov_assign rfl) ?_
   refine wa_done (by kernel_rfl) ?_
   exact nx_meet (k1, d1, f1, t1, A1, n1, c1, l1, hireE ⟨key, s78, fr, fr + v3, [startLeg s79 ⟨ra, rs, rm, rf⟩]⟩, g66) hb1 ⟨rfl, rfl, rfl, rfl, rfl, rfl, rfl, trivial⟩ (fun _ hm => hm.pick [3, 4, 5, 2] [] [0] rfl rfl)
  rintro ⟨k, d, f, t, A, n, c, l, E, gh⟩ hinv
  replace hinv : HrOk k d l ∧ n ≤ 1 ∧ (E = 0 → n = 1 ∧ hireE ⟨k, d, f, t, l⟩ = 0) := hinv
  dsimp only
  refine gw_seq (sr_ ?_)
  obtain ⟨hok, hn1, hne⟩ := hinv
  refine mv_ rfl (wl_ov (ov_neq rfl rfl) rfl (nn_ ?_))
  refine gw_cond rfl (fun hh => ?_) (fun hh => ?_)
  ·have hE : ¬ (E = 0) := by simpa using hh
   clear hh
   refine gw_exit ?_
   refine nx_then_exit ?_
   refine nx_blk_here ?_
   refine nx_then (gw_region (ad_ rfl rfl (mv_ rfl (wl_nil ?_))))
   exact nx_round (i + 1) (by omega) (by omega) ⟨rfl, rfl, rfl, rfl, (some_int (by omega)), trivial⟩ (fun _ hm => (hm.more rfl (by first | omega | (dsimp only; omega))).pick [2] [] [] rfl rfl)
  have hE : E = 0 := by simpa using hh
  clear hh
  refine gw_skip (nx_then (sr_ ?_))
  obtain ⟨hn, hE0⟩ := hne hE
  refine mv_ rfl (sg_ rfl (nn_ (gw_seq (sr_ (mv_ rfl ?_)))))
  refine wl_buildSlice (e := 3) (cs := [.int .i64 0, .int .i64 0, .int .i64 1, .int .i64 2]) rfl (by kernel_rfl) rfl fun g81 => ?_
  refine wl_got (γ := Int) (val := fun v => .int .i64 v) (φ := fun v => v ∈ ([0, 0, 1, 2] : List Int)) rfl cb11 rfl rfl rfl rfl (fun wx hm => (pick_any [0, 0, 1, 2] _ _ _ wx B sb _ hm.k (by omega) (by simp) (by simp) (hm.blkI 0 rfl) (hm.neRow 0 rfl rfl))) fun v82 hv82 => ?_
  have bv82 : 0 ≤ v82 ∧ v82 ≤ 2 := mem_rng hv82 (by decide)
  have bv820 := bv82.1
  have bv821 := bv82.2
  clear bv82
  refine mv_ rfl (nn_ (gw_block ?_))
  have hq0 : 0 ≤ v82 ∧ v82 ≤ 2 := ⟨bv820, bv821⟩
  refine gw_loop (γ := Nat × Int × ByteArray × ByteArray × Int × Int × Option Addr × Nat × Nat × List Lg) (fun g => (g.1 : Int) ≤ v82 ∧ (0 ≤ g.2.1 ∧ g.2.1 ≤ 5000000 + 500 * (g.1 : Int)) ∧ HrOk g.2.2.1 g.2.2.2.1 g.2.2.2.2.2.2.2.2.2 ∧ 1 ≤ g.2.2.2.2.2.2.2.1 ∧ g.2.2.2.2.2.2.2.1 ≤ 1 + g.1 ∧ hireE ⟨g.2.2.1, g.2.2.2.1, g.2.2.2.2.1, g.2.2.2.2.2.1, g.2.2.2.2.2.2.2.2.2⟩ = 0) (fun g => [(0, .pointer (some ⟨sb, 0, none⟩)), (1, .string key), (2, .int .i64 fr), (6, .pointer (some ⟨g1, 0, none⟩)), (8, .pointer (some ⟨gh, 0, none⟩)), (10, .int .i64 g.2.1), (19, .int .i64 ((i : Nat) : Int)), (48, .int .i64 v82), (49, .int .i64 ((g.1 : Nat) : Int))]) (fun g => fun w => Strm 25 w B sb (m + 200 * i + 1 + 1 + 1 + 10 + 1 + 40 * g.1)) (fun g => [(g81, 3, [.int .i64 0, .int .i64 0, .int .i64 1, .int .i64 2]), (g4, 27, [.int .i64 fr, .int .i64 (fr + v3)]), (g2, 3, [.int .i64 60, .int .i64 100, .int .i64 1440, .int .i64 2000, .int .i64 3000]), (g1, 30, [.string ⟨#[]⟩, .string ⟨#[]⟩, .int .i64 0, .int .i64 0, .slice none 0 0]), (gh, 30, [.string g.2.2.1, .string g.2.2.2.1, .int .i64 g.2.2.2.2.1, .int .i64 g.2.2.2.2.2.1, .slice g.2.2.2.2.2.2.1 g.2.2.2.2.2.2.2.1 g.2.2.2.2.2.2.2.2.1])]) (fun g => []) (fun g => [fun wy => SlT lgEnc 9 135 wy g.2.2.2.2.2.2.1 g.2.2.2.2.2.2.2.1 g.2.2.2.2.2.2.2.2.2]) (fun g => (v82 - (g.1 : Int)).toNat) (0, fr, k, d, f, t, A, n, c, l) ⟨by dsimp only; omega, by dsimp only; omega, hok, by dsimp only; omega, by dsimp only; omega, hE0⟩ ⟨rfl, rfl, rfl, rfl, rfl, rfl, rfl, rfl, rfl, trivial⟩ (fun _ hm => (hm.more rfl (by first | omega | (dsimp only; omega))).pick [0, 1, 2, 3, 4] [] [0] rfl rfl) ?_
  rintro ⟨j, mo, kx, dx, fx, tx, Ax, nx, cx, lx⟩ hinv
  replace hinv : (j : Int) ≤ v82 ∧ (0 ≤ mo ∧ mo ≤ 5000000 + 500 * (j : Int)) ∧ HrOk kx dx lx ∧ 1 ≤ nx ∧ nx ≤ 1 + j ∧ hireE ⟨kx, dx, fx, tx, lx⟩ = 0 := hinv
  dsimp only
  refine sr_ ?_
  obtain ⟨hj0, hj1, hj2, hj3, hj4, hj5⟩ := hinv
  refine wl_ov (ov_lss rfl rfl) rfl (nn_ (gw_seq ?_))
  refine gw_cond rfl (fun hh => ?_) (fun hh => ?_)
  ·have hj : ((j : Nat) : Int) < v82 := by simpa using hh
   clear hh
   refine gw_skip (nx_then (gw_seq (gw_block (sr_ (mv_ rfl (mv_ rfl ?_))))))
   refine wl_buildSlice (e := 3) (cs := [.int .i64 1, .int .i64 30, .int .i64 100, .int .i64 500]) rfl (by kernel_rfl) rfl fun g83 => ?_
   refine wl_got (γ := Int) (val := fun v => .int .i64 v) (φ := fun v => v ∈ ([1, 30, 100, 500] : List Int)) rfl cb11 rfl rfl rfl rfl (fun wx hm => (pick_any [1, 30, 100, 500] _ _ _ wx B sb _ hm.k (by omega) (by simp) (by simp) (hm.blkI 0 rfl) (hm.neRow 0 rfl rfl))) fun v84 hv84 => ?_
   have bv84 : 1 ≤ v84 ∧ v84 ≤ 500 := mem_rng hv84 (by decide)
   have bv840 := bv84.1
   have bv841 := bv84.2
   clear bv84
   refine ad_ rfl rfl (sg_ rfl (nn_ (sr_ (mv_ rfl (mv_ rfl ?_)))))
   obtain ⟨at1, hat1⟩ : ∃ z : Int, z = mo + v84 := ⟨_, rfl⟩
   have hat1b : 0 ≤ at1 ∧ at1 ≤ 5000000 + 500 * ((j : Int) + 1) := by omega
   refine wl_set 10 (v' := .int .i64 at1) rfl (congrArg (Value.int .i64) hat1.symm) ?_
   refine wl_set 55 (v' := .int .i64 at1) rfl (congrArg (Value.int .i64) hat1.symm) ?_
   refine wl_set 57 (v' := .int .i64 at1) rfl (congrArg (Value.int .i64) hat1.symm) ?_
   refine wl_calls (γ := Int × ByteArray × Int × Int) (val := (fun g => .agg #[.int .i64 g.1, .string g.2.1, .int .i64 g.2.2.1, .int .i64 g.2.2.2])) (φ := (fun g => RdOk ⟨g.1, g.2.1, g.2.2.1, g.2.2.2⟩)) (Y := (fun g => fun _ => True)) (m' := m + 200 * i + 1 + 1 + 1 + 10 + 1 + 40 * j + 1 + 10) rfl cb19 rfl rfl rfl rfl (fun wx hm => (greading_any at1 wx B sb _ hm.k (by omega) (by omega) (by omega)).mono fun _ _ ⟨r, hok, he, hS, hg⟩ => ⟨(r.at_, r.st, r.meter, r.fuel), he, hok, hS, hg, trivial⟩) (fun _ => Lasts2.true_) ?_
   rintro ⟨ra, rs, rm, rf⟩ hr_ra
   dsimp only at hr_ra ⊢
   have hz_rs : rs.size ≤ 1000000 := hr_ra
   refine wl_alloc zc48 rfl fun g86 => ?_
   refine wl_stores (cs' := [.int .i64 ra, .string rs, .int .i64 rm, .int .i64 rf]) 0 rz48 rfl rfl rfl rfl rfl rfl rfl rfl ?_
   refine nn_ (sr_ (mv_ rfl (mv_ rfl ?_)))
   refine wl_calls (γ := Int × ByteArray × Int × Int) (val := (fun g => .agg #[.int .i64 g.1, .string g.2.1, .int .i64 g.2.2.1, .int .i64 g.2.2.2])) (φ := (fun g => RdOk ⟨g.1, g.2.1, g.2.2.1, g.2.2.2⟩)) (Y := (fun g => fun _ => True)) (m' := m + 200 * i + 1 + 1 + 1 + 10 + 1 + 40 * j + 1 + 10 + 10) rfl cb19 rfl rfl rfl rfl (fun wx hm => (greading_any at1 wx B sb _ hm.k (by omega) (by omega) (by omega)).mono fun _ _ ⟨r, hok, he, hS, hg⟩ => ⟨(r.at_, r.st, r.meter, r.fuel), he, hok, hS, hg, trivial⟩) (fun _ => Lasts2.true_) ?_
   rintro ⟨qa, qs, qm, qf⟩ hr_qa
   dsimp only at hr_qa ⊢
   have hz_qs : qs.size ≤ 1000000 := hr_qa
   refine wl_alloc zc48 rfl fun g88 => ?_
   refine wl_stores (cs' := [.int .i64 qa, .string qs, .int .i64 qm, .int .i64 qf]) 0 rz48 rfl rfl rfl rfl rfl rfl rfl rfl ?_
   refine nn_ (sr_ (fd_ fo48_1 rfl rfl (lk_ sc9 1 rfl rfl rfl (fd_ fo48_1 rfl rfl ?_))))
   refine wl_store 0 sc9 rfl rfl rfl rfl rfl rfl ?_
   refine nn_ ?_
   refine gw_cut (γ := ByteArray × ByteArray × Int × Int × Option Addr × Nat × Nat × List Lg × Int × Nat) (I := (fun g => HrOk g.1 g.2.1 g.2.2.2.2.2.2.2.1 ∧ g.2.2.2.2.2.1 ≤ nx + 1 ∧ (g.2.2.2.2.2.2.2.2.1 = 0 → g.2.2.2.2.2.1 = nx + 1 ∧ hireE ⟨g.1, g.2.1, g.2.2.1, g.2.2.2.1, g.2.2.2.2.2.2.2.1⟩ = 0))) (S' := (fun g => [(0, .pointer (some ⟨sb, 0, none⟩)), (1, .string key), (2, .int .i64 fr), (6, .pointer (some ⟨g1, 0, none⟩)), (8, .pointer (some ⟨gh, 0, none⟩)), (10, .int .i64 at1), (13, .pointer (some ⟨g.2.2.2.2.2.2.2.2.2, 0, none⟩)), (14, .int .i64 g.2.2.2.2.2.2.2.2.1), (19, .int .i64 ((i : Nat) : Int)), (48, .int .i64 v82), (49, .int .i64 ((j : Nat) : Int))])) (K' := (fun g => fun w => Strm 25 w B sb (m + 200 * i + 1 + 1 + 1 + 10 + 1 + 40 * j + 1 + 10 + 10 + 1))) (L' := (fun g => [(g88, 48, [.int .i64 qa, .string rs, .int .i64 qm, .int .i64 qf]), (g86, 48, [.int .i64 ra, .string rs, .int .i64 rm, .int .i64 rf]), (g83, 3, [.int .i64 1, .int .i64 30, .int .i64 100, .int .i64 500]), (g81, 3, [.int .i64 0, .int .i64 0, .int .i64 1, .int .i64 2]), (g4, 27, [.int .i64 fr, .int .i64 (fr + v3)]), (g2, 3, [.int .i64 60, .int .i64 100, .int .i64 1440, .int .i64 2000, .int .i64 3000]), (g1, 30, [.string ⟨#[]⟩, .string ⟨#[]⟩, .int .i64 0, .int .i64 0, .slice none 0 0]), (gh, 30, [.string kx, .string dx, .int .i64 fx, .int .i64 tx, .slice Ax nx cx]), (g.2.2.2.2.2.2.2.2.2, 30, [.string g.1, .string g.2.1, .int .i64 g.2.2.1, .int .i64 g.2.2.2.1, .slice g.2.2.2.2.1 g.2.2.2.2.2.1 g.2.2.2.2.2.2.1])])) (O' := (fun g => [])) (X' := (fun g => [fun _ => True, fun _ => True, fun wy => SlT lgEnc 9 135 wy Ax nx lx, fun wy => SlT lgEnc 9 135 wy g.2.2.2.2.1 g.2.2.2.2.2.1 g.2.2.2.2.2.2.2.1])) ?_ ?_
   ·refine gd (fun wz => Blk wz g88 48 [.int .i64 qa, .string rs, .int .i64 qm, .int .i64 qf] ∧ Blk wz g86 48 [.int .i64 ra, .string rs, .int .i64 rm, .int .i64 rf] ∧ Blk wz g83 3 [.int .i64 1, .int .i64 30, .int .i64 100, .int .i64 500] ∧ Blk wz g81 3 [.int .i64 0, .int .i64 0, .int .i64 1, .int .i64 2] ∧ Blk wz g4 27 [.int .i64 fr, .int .i64 (fr + v3)] ∧ Blk wz g2 3 [.int .i64 60, .int .i64 100, .int .i64 1440, .int .i64 2000, .int .i64 3000] ∧ Blk wz g1 30 [.string ⟨#[]⟩, .string ⟨#[]⟩, .int .i64 0, .int .i64 0, .slice none 0 0] ∧ Blk wz gh 30 [.string kx, .string dx, .int .i64 fx, .int .i64 tx, .slice Ax nx cx] ∧ (fun _ => True) wz ∧ (fun _ => True) wz ∧ (fun wy => SlT lgEnc 9 135 wy Ax nx lx) wz ∧ True) mixed (fun _ hm => ⟨hm.bl 0, hm.bl 1, hm.bl 2, hm.bl 3, hm.bl 4, hm.bl 5, hm.bl 6, hm.bl 7, hm.fa 0, hm.fa 1, hm.fa 2, trivial⟩) fun z => ?_
    refine wt 0 13 1 rfl z (ov_loads rz30 rfl (fun _ hm => hm.2.2.2.2.2.2.2.1) rfl rfl) ?_
    refine wt 1 13 3 rfl z (ov_loads rz48 rfl (fun _ hm => hm.2.1) rfl rfl) ?_
    refine wt 2 13 7 rfl z (ov_move rfl) ?_
    refine wt 5 13 39 rfl z (ov_loads rz48 rfl (fun _ hm => hm.1) rfl rfl) ?_
    refine wa_all [3, 10] (by kernel_rfl) rfl ⟨⟨_, rfl, ?_⟩, ⟨_, rfl, ?_⟩, trivial⟩
    ·refine wl_buildSlice (e := 9) (cs := [.string ⟨#[118, 49]⟩, .string ⟨#[118, 50]⟩, .string ⟨#[118, 51]⟩, .string ⟨#[118, 52]⟩]) rfl (by kernel_rfl) rfl fun g89 => ?_
     refine wl_nil ?_
     refine nw 13 47 (fun _ hm => ⟨hm.bl 1, hm.bl 2, hm.bl 3, hm.bl 4, hm.bl 5, hm.bl 6, hm.bl 7, hm.bl 8, hm.fa 0, hm.fa 1, hm.fa 2, trivial⟩) fun z => ?_
     refine wa_all [4, 10] (by kernel_rfl) rfl ⟨⟨_, rfl, ?_⟩, ⟨_, rfl, ?_⟩, trivial⟩
     ·refine wl_got (γ := ByteArray) (val := fun v => .string v) (φ := fun v => v ∈ ([⟨#[118, 49]⟩, ⟨#[118, 50]⟩, ⟨#[118, 51]⟩, ⟨#[118, 52]⟩] : List ByteArray)) rfl cb49 rfl rfl rfl rfl (fun wx hm => (some_any [⟨#[118, 49]⟩, ⟨#[118, 50]⟩, ⟨#[118, 51]⟩, ⟨#[118, 52]⟩] _ _ _ wx B sb _ hm.k (by omega) (by simp) (by simp) (hm.blkI 0 rfl) (hm.neRow 0 rfl rfl))) fun s90 hs90 => ?_
      have zs90 : s90.size ≤ 100 := mem_sz hs90 (by decide)
      refine wl_nil ?_
      refine nw 13 63 (fun _ hm => ⟨hm.bl 1, hm.bl 2, hm.bl 3, hm.bl 4, hm.bl 5, hm.bl 6, hm.bl 7, hm.bl 8, hm.fa 0, hm.fa 1, hm.fa 2, trivial⟩) fun z => ?_
      refine wa_all [6, 10] (by kernel_rfl) rfl ⟨⟨_, rfl, ?_⟩, ⟨_, rfl, ?_⟩, trivial⟩
      ·refine wl_callx (γ := ByteArray × ByteArray × Int × Int × Option Addr × Nat × Nat × List Lg × Int) (val := (fun g => .tuple #[.agg #[.string g.1, .string g.2.1, .int .i64 g.2.2.1, .int .i64 g.2.2.2.1, .slice g.2.2.2.2.1 g.2.2.2.2.2.1 g.2.2.2.2.2.2.1], .int .i64 g.2.2.2.2.2.2.2.2])) (φ := (fun g => HrOk g.1 g.2.1 g.2.2.2.2.2.2.2.1 ∧ g.2.2.2.2.2.1 ≤ nx + 1 ∧ (g.2.2.2.2.2.2.2.2 = 0 → g.2.2.2.2.2.1 = nx + 1 ∧ hireE ⟨g.1, g.2.1, g.2.2.1, g.2.2.2.1, g.2.2.2.2.2.2.2.1⟩ = 0))) (Y := (fun g => fun wy => SlT lgEnc 9 135 wy g.2.2.2.2.1 g.2.2.2.2.2.1 g.2.2.2.2.2.2.2.1)) rfl cb63 rfl rfl (fun wx hm => (exchangeOf_litR kx dx fx tx lx Ax nx cx wx (hm.fact 2 rfl) hj2 (by omega) s90 ra rm rf qa qm qf rs rs (by omega) hz_rs hz_rs).mono fun _ _ ⟨E, k, d, f, t, A, n, c, l, he, hsl, hok, hn, hn0, hg⟩ => ⟨(k, d, f, t, A, n, c, l, E), he, ⟨hok, hn, hn0⟩, hg, hsl⟩) (fun _ => SlT.lasts2 rfl) ?_
       rintro ⟨k2, d2, f2, t2, A2, n2, c2, l2, E2⟩ hb2
       dsimp only at hb2 ⊢
       refine wl_nil ?_
       refine nw 13 127 (fun _ hm => ⟨hm.bl 1, hm.bl 2, hm.bl 3, hm.bl 4, hm.bl 5, hm.bl 6, hm.bl 7, hm.bl 8, hm.fa 1, hm.fa 2, hm.fa 3, trivial⟩) fun z => ?_
       refine wt 7 13 255 rfl z (ov_move rfl) ?_
       refine wt 8 13 511 rfl z (ov_extract rfl rfl) ?_
       refine wt 9 13 1023 rfl z (ov_extract rfl rfl) ?_
       refine wa1 10 rfl ?_
       refine wl_alloc zc30 rfl fun g91 => ?_
       refine wl_nil ?_
       refine nw 13 2047 (fun _ hm => ⟨hm.bl 2, hm.bl 3, hm.bl 4, hm.bl 5, hm.bl 6, hm.bl 7, hm.bl 8, hm.bl 9, hm.fa 1, hm.fa 2, hm.fa 3, trivial⟩) fun z => ?_
       refine wa1 11 rfl ?_
       refine wl_stores (cs' := [.string k2, .string d2, .int .i64 f2, .int .i64 t2, .slice A2 n2 c2]) 0 rz30 rfl rfl rfl rfl rfl rfl rfl rfl ?_
       refine wl_nil ?_
       refine nw 13 4095 (fun _ hm => ⟨hm.bl 2, hm.bl 3, hm.bl 4, hm.bl 5, hm.bl 6, hm.bl 7, hm.bl 8, hm.bl 9, hm.fa 1, hm.fa 2, hm.fa 3, trivial⟩) fun z => ?_
       refine wt 12 13 8191 rfl z (ov_assign rfl) ?_
       refine wa_done (by kernel_rfl) ?_
       exact nx_meet (k2, d2, f2, t2, A2, n2, c2, l2, E2, g91) hb2 ⟨rfl, rfl, rfl, rfl, rfl, rfl, rfl, rfl, rfl, rfl, rfl, trivial⟩ (fun _ hm => hm.pick [2, 3, 4, 5, 6, 7, 8, 9, 0] [] [1, 2, 3, 0] rfl rfl)
      refine wl_alloc zc30 rfl fun g92 => ?_
      refine wl_nil ?_
      refine nw 13 1087 (fun _ hm => ⟨hm.bl 2, hm.bl 3, hm.bl 4, hm.bl 5, hm.bl 6, hm.bl 7, hm.bl 8, hm.bl 9, hm.fa 0, hm.fa 1, hm.fa 2, trivial⟩) fun z => ?_
      refine wa1 6 rfl ?_
      refine wl_callx (γ := ByteArray × ByteArray × Int × Int × Option Addr × Nat × Nat × List Lg × Int) (val := (fun g => .tuple #[.agg #[.string g.1, .string g.2.1, .int .i64 g.2.2.1, .int .i64 g.2.2.2.1, .slice g.2.2.2.2.1 g.2.2.2.2.2.1 g.2.2.2.2.2.2.1], .int .i64 g.2.2.2.2.2.2.2.2])) (φ := (fun g => HrOk g.1 g.2.1 g.2.2.2.2.2.2.2.1 ∧ g.2.2.2.2.2.1 ≤ nx + 1 ∧ (g.2.2.2.2.2.2.2.2 = 0 → g.2.2.2.2.2.1 = nx + 1 ∧ hireE ⟨g.1, g.2.1, g.2.2.1, g.2.2.2.1, g.2.2.2.2.2.2.2.1⟩ = 0))) (Y := (fun g => fun wy => SlT lgEnc 9 135 wy g.2.2.2.2.1 g.2.2.2.2.2.1 g.2.2.2.2.2.2.2.1)) rfl cb63 rfl rfl (fun wx hm => (exchangeOf_litR kx dx fx tx lx Ax nx cx wx (hm.fact 2 rfl) hj2 (by omega) s90 ra rm rf qa qm qf rs rs (by omega) hz_rs hz_rs).mono fun _ _ ⟨E, k, d, f, t, A, n, c, l, he, hsl, hok, hn, hn0, hg⟩ => ⟨(k, d, f, t, A, n, c, l, E), he, ⟨hok, hn, hn0⟩, hg, hsl⟩) (fun _ => SlT.lasts2 rfl) ?_
      rintro ⟨k2, d2, f2, t2, A2, n2, c2, l2, E2⟩ hb2
      dsimp only at hb2 ⊢
      refine wl_nil ?_
      refine nw 13 1151 (fun _ hm => ⟨hm.bl 2, hm.bl 3, hm.bl 4, hm.bl 5, hm.bl 6, hm.bl 7, hm.bl 8, hm.bl 9, hm.fa 1, hm.fa 2, hm.fa 3, trivial⟩) fun z => ?_
      refine wt 7 13 1279 rfl z (ov_move rfl) ?_
      refine wt 8 13 1535 rfl z (ov_extract rfl rfl) ?_
      refine wt 9 13 2047 rfl z (ov_extract rfl rfl) ?_
      refine wa1 11 rfl ?_
      refine wl_stores (cs' := [.string k2, .string d2, .int .i64 f2, .int .i64 t2, .slice A2 n2 c2]) 0 rz30 rfl rfl rfl rfl rfl rfl rfl rfl ?_
      refine wl_nil ?_
      refine nw 13 4095 (fun _ hm => ⟨hm.bl 2, hm.bl 3, hm.bl 4, hm.bl 5, hm.bl 6, hm.bl 7, hm.bl 8, hm.bl 9, hm.fa 1, hm.fa 2, hm.fa 3, trivial⟩) fun z => ?_
      refine wt 12 13 8191 rfl z (ov_assign rfl) ?_
      refine wa_done (by kernel_rfl) ?_
      exact nx_meet (k2, d2, f2, t2, A2, n2, c2, l2, E2, g92) hb2 ⟨rfl, rfl, rfl, rfl, rfl, rfl, rfl, rfl, rfl, rfl, rfl, trivial⟩ (fun _ hm => hm.pick [2, 3, 4, 5, 6, 7, 8, 9, 0] [] [1, 2, 3, 0] rfl rfl)
     refine wl_alloc zc30 rfl fun g93 => ?_
     refine wl_nil ?_
     refine nw 13 1071 (fun _ hm => ⟨hm.bl 2, hm.bl 3, hm.bl 4, hm.bl 5, hm.bl 6, hm.bl 7, hm.bl 8, hm.bl 9, hm.fa 0, hm.fa 1, hm.fa 2, trivial⟩) fun z => ?_
     refine wa1 4 rfl ?_
     refine wl_got (γ := ByteArray) (val := fun v => .string v) (φ := fun v => v ∈ ([⟨#[118, 49]⟩, ⟨#[118, 50]⟩, ⟨#[118, 51]⟩, ⟨#[118, 52]⟩] : List ByteArray)) rfl cb49 rfl rfl rfl rfl (fun wx hm => (some_any [⟨#[118, 49]⟩, ⟨#[118, 50]⟩, ⟨#[118, 51]⟩, ⟨#[118, 52]⟩] _ _ _ wx B sb _ hm.k (by omega) (by simp) (by simp) (hm.blkI 1 rfl) (hm.neRow 1 rfl rfl))) fun s94 hs94 => ?_
     have zs94 : s94.size ≤ 100 := mem_sz hs94 (by decide)
     refine wl_nil ?_
     refine nw 13 1087 (fun _ hm => ⟨hm.bl 2, hm.bl 3, hm.bl 4, hm.bl 5, hm.bl 6, hm.bl 7, hm.bl 8, hm.bl 9, hm.fa 0, hm.fa 1, hm.fa 2, trivial⟩) fun z => ?_
     refine wa1 6 rfl ?_
     refine wl_callx (γ := ByteArray × ByteArray × Int × Int × Option Addr × Nat × Nat × List Lg × Int) (val := (fun g => .tuple #[.agg #[.string g.1, .string g.2.1, .int .i64 g.2.2.1, .int .i64 g.2.2.2.1, .slice g.2.2.2.2.1 g.2.2.2.2.2.1 g.2.2.2.2.2.2.1], .int .i64 g.2.2.2.2.2.2.2.2])) (φ := (fun g => HrOk g.1 g.2.1 g.2.2.2.2.2.2.2.1 ∧ g.2.2.2.2.2.1 ≤ nx + 1 ∧ (g.2.2.2.2.2.2.2.2 = 0 → g.2.2.2.2.2.1 = nx + 1 ∧ hireE ⟨g.1, g.2.1, g.2.2.1, g.2.2.2.1, g.2.2.2.2.2.2.2.1⟩ = 0))) (Y := (fun g => fun wy => SlT lgEnc 9 135 wy g.2.2.2.2.1 g.2.2.2.2.2.1 g.2.2.2.2.2.2.2.1)) rfl cb63 rfl rfl (fun wx hm => (exchangeOf_litR kx dx fx tx lx Ax nx cx wx (hm.fact 2 rfl) hj2 (by omega) s94 ra rm rf qa qm qf rs rs (by omega) hz_rs hz_rs).mono fun _ _ ⟨E, k, d, f, t, A, n, c, l, he, hsl, hok, hn, hn0, hg⟩ => ⟨(k, d, f, t, A, n, c, l, E), he, ⟨hok, hn, hn0⟩, hg, hsl⟩) (fun _ => SlT.lasts2 rfl) ?_
     rintro ⟨k2, d2, f2, t2, A2, n2, c2, l2, E2⟩ hb2
     dsimp only at hb2 ⊢
     refine wl_nil ?_
     refine nw 13 1151 (fun _ hm => ⟨hm.bl 2, hm.bl 3, hm.bl 4, hm.bl 5, hm.bl 6, hm.bl 7, hm.bl 8, hm.bl 9, hm.fa 1, hm.fa 2, hm.fa 3, trivial⟩) fun z => ?_
     refine wt 7 13 1279 rfl z (ov_move rfl) ?_
     refine wt 8 13 1535 rfl z (ov_extract rfl rfl) ?_
     refine wt 9 13 2047 rfl z (ov_extract rfl rfl) ?_
     refine wa1 11 rfl ?_
     refine wl_stores (cs' := [.string k2, .string d2, .int .i64 f2, .int .i64 t2, .slice A2 n2 c2]) 0 rz30 rfl rfl rfl rfl rfl rfl rfl rfl ?_
     refine wl_nil ?_
     refine nw 13 4095 (fun _ hm => ⟨hm.bl 2, hm.bl 3, hm.bl 4, hm.bl 5, hm.bl 6, hm.bl 7, hm.bl 8, hm.bl 9, hm.fa 1, hm.fa 2, hm.fa 3, trivial⟩) fun z => ?_
     refine wt 12 13 8191 rfl z (ov_assign rfl) ?_
     refine wa_done (by kernel_rfl) ?_
     exact nx_meet (k2, d2, f2, t2, A2, n2, c2, l2, E2, g93) hb2 ⟨rfl, rfl, rfl, rfl, rfl, rfl, rfl, rfl, rfl, rfl, rfl, trivial⟩ (fun _ hm => hm.pick [2, 3, 4, 5, 6, 7, 8, 9, 0] [] [1, 2, 3, 0] rfl rfl)
    refine wl_alloc zc30 rfl fun g95 => ?_
    refine wl_nil ?_
    refine nw 13 1063 (fun _ hm => ⟨hm.bl 1, hm.bl 2, hm.bl 3, hm.bl 4, hm.bl 5, hm.bl 6, hm.bl 7, hm.bl 8, hm.fa 0, hm.fa 1, hm.fa 2, trivial⟩) fun z => ?_
    refine wa1 3 rfl ?_
    refine wl_buildSlice (e := 9) (cs := [.string ⟨#[118, 49]⟩, .string ⟨#[118, 50]⟩, .string ⟨#[118, 51]⟩, .string ⟨#[118, 52]⟩]) rfl (by kernel_rfl) rfl fun g96 => ?_
    refine wl_nil ?_
    refine nw 13 1071 (fun _ hm => ⟨hm.bl 2, hm.bl 3, hm.bl 4, hm.bl 5, hm.bl 6, hm.bl 7, hm.bl 8, hm.bl 9, hm.fa 0, hm.fa 1, hm.fa 2, trivial⟩) fun z => ?_
    refine wa1 4 rfl ?_
    refine wl_got (γ := ByteArray) (val := fun v => .string v) (φ := fun v => v ∈ ([⟨#[118, 49]⟩, ⟨#[118, 50]⟩, ⟨#[118, 51]⟩, ⟨#[118, 52]⟩] : List ByteArray)) rfl cb49 rfl rfl rfl rfl (fun wx hm => (some_any [⟨#[118, 49]⟩, ⟨#[118, 50]⟩, ⟨#[118, 51]⟩, ⟨#[118, 52]⟩] _ _ _ wx B sb _ hm.k (by omega) (by simp) (by simp) (hm.blkI 0 rfl) (hm.neRow 0 rfl rfl))) fun s97 hs97 => ?_
    have zs97 : s97.size ≤ 100 := mem_sz hs97 (by decide)
    refine wl_nil ?_
    refine nw 13 1087 (fun _ hm => ⟨hm.bl 2, hm.bl 3, hm.bl 4, hm.bl 5, hm.bl 6, hm.bl 7, hm.bl 8, hm.bl 9, hm.fa 0, hm.fa 1, hm.fa 2, trivial⟩) fun z => ?_
    refine wa1 6 rfl ?_
    refine wl_callx (γ := ByteArray × ByteArray × Int × Int × Option Addr × Nat × Nat × List Lg × Int) (val := (fun g => .tuple #[.agg #[.string g.1, .string g.2.1, .int .i64 g.2.2.1, .int .i64 g.2.2.2.1, .slice g.2.2.2.2.1 g.2.2.2.2.2.1 g.2.2.2.2.2.2.1], .int .i64 g.2.2.2.2.2.2.2.2])) (φ := (fun g => HrOk g.1 g.2.1 g.2.2.2.2.2.2.2.1 ∧ g.2.2.2.2.2.1 ≤ nx + 1 ∧ (g.2.2.2.2.2.2.2.2 = 0 → g.2.2.2.2.2.1 = nx + 1 ∧ hireE ⟨g.1, g.2.1, g.2.2.1, g.2.2.2.1, g.2.2.2.2.2.2.2.1⟩ = 0))) (Y := (fun g => fun wy => SlT lgEnc 9 135 wy g.2.2.2.2.1 g.2.2.2.2.2.1 g.2.2.2.2.2.2.2.1)) rfl cb63 rfl rfl (fun wx hm => (exchangeOf_litR kx dx fx tx lx Ax nx cx wx (hm.fact 2 rfl) hj2 (by omega) s97 ra rm rf qa qm qf rs rs (by omega) hz_rs hz_rs).mono fun _ _ ⟨E, k, d, f, t, A, n, c, l, he, hsl, hok, hn, hn0, hg⟩ => ⟨(k, d, f, t, A, n, c, l, E), he, ⟨hok, hn, hn0⟩, hg, hsl⟩) (fun _ => SlT.lasts2 rfl) ?_
    rintro ⟨k2, d2, f2, t2, A2, n2, c2, l2, E2⟩ hb2
    dsimp only at hb2 ⊢
    refine wl_nil ?_
    refine nw 13 1151 (fun _ hm => ⟨hm.bl 2, hm.bl 3, hm.bl 4, hm.bl 5, hm.bl 6, hm.bl 7, hm.bl 8, hm.bl 9, hm.fa 1, hm.fa 2, hm.fa 3, trivial⟩) fun z => ?_
    refine wt 7 13 1279 rfl z (ov_move rfl) ?_
    refine wt 8 13 1535 rfl z (ov_extract rfl rfl) ?_
    refine wt 9 13 2047 rfl z (ov_extract rfl rfl) ?_
    refine wa1 11 rfl ?_
    refine wl_stores (cs' := [.string k2, .string d2, .int .i64 f2, .int .i64 t2, .slice A2 n2 c2]) 1 rz30 rfl rfl rfl rfl rfl rfl rfl rfl ?_
    refine wl_nil ?_
    refine nw 13 4095 (fun _ hm => ⟨hm.bl 2, hm.bl 3, hm.bl 4, hm.bl 5, hm.bl 6, hm.bl 7, hm.bl 8, hm.bl 9, hm.fa 1, hm.fa 2, hm.fa 3, trivial⟩) fun z => ?_
    refine wt 12 13 8191 rfl z (ov_assign rfl) ?_
    refine wa_done (by kernel_rfl) ?_
    exact nx_meet (k2, d2, f2, t2, A2, n2, c2, l2, E2, g95) hb2 ⟨rfl, rfl, rfl, rfl, rfl, rfl, rfl, rfl, rfl, rfl, rfl, trivial⟩ (fun _ hm => hm.pick [2, 3, 4, 5, 6, 7, 8, 9, 1] [] [1, 2, 3, 0] rfl rfl)
   rintro ⟨k2, d2, f2, t2, A2, n2, c2, l2, E2, gi⟩ hinv
   replace hinv : HrOk k2 d2 l2 ∧ n2 ≤ nx + 1 ∧ (E2 = 0 → n2 = nx + 1 ∧ hireE ⟨k2, d2, f2, t2, l2⟩ = 0) := hinv
   dsimp only
   refine sr_ ?_
   obtain ⟨hok2, hn2, hne2⟩ := hinv
   refine mv_ rfl (wl_ov (ov_eql rfl rfl) rfl (nn_ ?_))
   refine gw_cond rfl (fun hh => ?_) (fun hh => ?_)
   ·have hE2 : E2 = 0 := by simpa using hh
    clear hh
    refine gw_region ?_
    refine wl_ov (ov_loads rz30 rfl (fun _ hm => hm.blkI 8 rfl) rfl rfl) rfl ?_
    refine wl_stores (cs' := [.string k2, .string d2, .int .i64 f2, .int .i64 t2, .slice A2 n2 c2]) 7 rz30 rfl rfl rfl rfl rfl rfl rfl rfl ?_
    refine wl_nil (nx_blk_nrm (nx_then (gw_region (ad_ rfl rfl (mv_ rfl (wl_nil ?_))))))
    exact nx_round (j + 1, at1, k2, d2, f2, t2, A2, n2, c2, l2) ⟨by dsimp only; omega, by dsimp only; omega, hok2, by dsimp only; have := (hne2 hE2).1; omega, by dsimp only; omega, (hne2 hE2).2⟩ (by dsimp only; omega) ⟨rfl, rfl, rfl, rfl, rfl, rfl, rfl, rfl, (some_int (by omega)), trivial⟩ (fun _ hm => (hm.more rfl (by first | omega | (dsimp only; omega))).pick [3, 4, 5, 6, 7] [] [3] rfl rfl)
   have hE2 : ¬ (E2 = 0) := by simpa using hh
   clear hh
   refine gw_skip (nx_blk_nrm (nx_then (gw_region (ad_ rfl rfl (mv_ rfl (wl_nil ?_))))))
   exact nx_round (j + 1, at1, kx, dx, fx, tx, Ax, nx, cx, lx) ⟨by dsimp only; omega, by dsimp only; omega, hj2, by dsimp only; omega, by dsimp only; omega, hj5⟩ (by dsimp only; omega) ⟨rfl, rfl, rfl, rfl, rfl, rfl, rfl, rfl, (some_int (by omega)), trivial⟩ (fun _ hm => (hm.more rfl (by first | omega | (dsimp only; omega))).pick [3, 4, 5, 6, 7] [] [2] rfl rfl)
  have hj : ¬ (((j : Nat) : Int) < v82) := by simpa using hh
  clear hh
  refine gw_exit ?_
  refine nx_then_exit (nx_then_exit ?_)
  refine nx_blk_here ?_
  refine nx_then (gw_seq (sr_ (mv_ rfl ?_)))
  refine wl_got (γ := Bool) (val := fun v => .bool v) (φ := fun v => True) rfl cb64 rfl rfl rfl rfl (fun wx hm => ((flip_any _ wx B sb _ hm.k (by omega) (by omega) (by omega)).mono fun _ _ ⟨v, he, hS, hg⟩ => ⟨v, trivial, he, hS, hg⟩)) fun f98 _ => ?_
  refine wl_ov (ov_un_not rfl) rfl (nn_ ?_)
  refine gw_cond rfl (fun hh => ?_) (fun hh => ?_)
  ·have hfl : f98 = false := by simpa using hh
   clear hh
   refine sr_ (mv_ rfl (mv_ rfl ?_))
   refine wl_buildSlice (e := 3) (cs := [.int .i64 1, .int .i64 50, .int .i64 100, .int .i64 1440, .int .i64 1470, .int .i64 1471, .int .i64 1500, .int .i64 3000]) rfl (by kernel_rfl) rfl fun g99 => ?_
   refine wl_got (γ := Int) (val := fun v => .int .i64 v) (φ := fun v => v ∈ ([1, 50, 100, 1440, 1470, 1471, 1500, 3000] : List Int)) rfl cb11 rfl rfl rfl rfl (fun wx hm => (pick_any [1, 50, 100, 1440, 1470, 1471, 1500, 3000] _ _ _ wx B sb _ hm.k (by omega) (by simp) (by simp) (hm.blkI 0 rfl) (hm.neRow 0 rfl rfl))) fun v100 hv100 => ?_
   have bv100 : 1 ≤ v100 ∧ v100 ≤ 3000 := mem_rng hv100 (by decide)
   have bv1000 := bv100.1
   have bv1001 := bv100.2
   clear bv100
   refine ad_ rfl rfl (sg_ rfl (nn_ ?_))
   obtain ⟨at2, hat2⟩ : ∃ z : Int, z = mo + v100 := ⟨_, rfl⟩
   have hat2b : 0 ≤ at2 ∧ at2 ≤ 6000000 := by omega
   refine gw_set 10 (v' := .int .i64 at2) rfl (congrArg (Value.int .i64) hat2.symm) ?_
   refine gw_cut (γ := ByteArray × ByteArray × Int × Int × Option Addr × Nat × Nat × List Lg × Int × Nat) (I := (fun g => HrOk g.1 g.2.1 g.2.2.2.2.2.2.2.1 ∧ g.2.2.2.2.2.1 ≤ nx ∧ (g.2.2.2.2.2.2.2.2.1 = 0 → g.2.2.2.2.2.1 = nx ∧ hireE ⟨g.1, g.2.1, g.2.2.1, g.2.2.2.1, g.2.2.2.2.2.2.2.1⟩ = 0))) (S' := (fun g => [(0, .pointer (some ⟨sb, 0, none⟩)), (1, .string key), (2, .int .i64 fr), (6, .pointer (some ⟨g1, 0, none⟩)), (8, .pointer (some ⟨gh, 0, none⟩)), (15, .pointer (some ⟨g.2.2.2.2.2.2.2.2.2, 0, none⟩)), (16, .int .i64 g.2.2.2.2.2.2.2.2.1), (19, .int .i64 ((i : Nat) : Int))])) (K' := (fun g => fun w => Strm 25 w B sb (m + 200 * i + 1 + 1 + 1 + 10 + 1 + 40 * j + 1 + 1 + 10))) (L' := (fun g => [(g99, 3, [.int .i64 1, .int .i64 50, .int .i64 100, .int .i64 1440, .int .i64 1470, .int .i64 1471, .int .i64 1500, .int .i64 3000]), (g81, 3, [.int .i64 0, .int .i64 0, .int .i64 1, .int .i64 2]), (g4, 27, [.int .i64 fr, .int .i64 (fr + v3)]), (g2, 3, [.int .i64 60, .int .i64 100, .int .i64 1440, .int .i64 2000, .int .i64 3000]), (g1, 30, [.string ⟨#[]⟩, .string ⟨#[]⟩, .int .i64 0, .int .i64 0, .slice none 0 0]), (gh, 30, [.string kx, .string dx, .int .i64 fx, .int .i64 tx, .slice Ax nx cx]), (g.2.2.2.2.2.2.2.2.2, 30, [.string g.1, .string g.2.1, .int .i64 g.2.2.1, .int .i64 g.2.2.2.1, .slice g.2.2.2.2.1 g.2.2.2.2.2.1 g.2.2.2.2.2.2.1])])) (O' := (fun g => [])) (X' := (fun g => [fun wy => SlT lgEnc 9 135 wy Ax nx lx, fun wy => SlT lgEnc 9 135 wy g.2.2.2.2.1 g.2.2.2.2.2.1 g.2.2.2.2.2.2.2.1])) ?_ ?_
   ·refine gd (fun wz => Blk wz g99 3 [.int .i64 1, .int .i64 50, .int .i64 100, .int .i64 1440, .int .i64 1470, .int .i64 1471, .int .i64 1500, .int .i64 3000] ∧ Blk wz g81 3 [.int .i64 0, .int .i64 0, .int .i64 1, .int .i64 2] ∧ Blk wz g4 27 [.int .i64 fr, .int .i64 (fr + v3)] ∧ Blk wz g2 3 [.int .i64 60, .int .i64 100, .int .i64 1440, .int .i64 2000, .int .i64 3000] ∧ Blk wz g1 30 [.string ⟨#[]⟩, .string ⟨#[]⟩, .int .i64 0, .int .i64 0, .slice none 0 0] ∧ Blk wz gh 30 [.string kx, .string dx, .int .i64 fx, .int .i64 tx, .slice Ax nx cx] ∧ (fun wy => SlT lgEnc 9 135 wy Ax nx lx) wz ∧ True) mixed (fun _ hm => ⟨hm.bl 0, hm.bl 1, hm.bl 2, hm.bl 3, hm.bl 4, hm.bl 5, hm.fa 0, trivial⟩) fun z => ?_
    refine wt 0 11 1 rfl z (ov_loads rz30 rfl (fun _ hm => hm.2.2.2.2.2.1) rfl rfl) ?_
    refine wt 1 11 3 rfl z (ov_move rfl) ?_
    refine wt 2 11 7 rfl z (ov_move rfl) ?_
    refine wa_all [3, 8] (by kernel_rfl) rfl ⟨⟨_, rfl, ?_⟩, ⟨_, rfl, ?_⟩, trivial⟩
    ·refine wl_calls (γ := Int × ByteArray × Int × Int) (val := (fun g => .agg #[.int .i64 g.1, .string g.2.1, .int .i64 g.2.2.1, .int .i64 g.2.2.2])) (φ := (fun g => RdOk ⟨g.1, g.2.1, g.2.2.1, g.2.2.2⟩)) (Y := (fun g => fun _ => True)) (m' := m + 200 * i + 1 + 1 + 1 + 10 + 1 + 40 * j + 1 + 1 + 10) rfl cb19 rfl rfl rfl rfl (fun wx hm => (greading_any at2 wx B sb _ hm.k (by omega) (by omega) (by omega)).mono fun _ _ ⟨r, hok, he, hS, hg⟩ => ⟨(r.at_, r.st, r.meter, r.fuel), he, hok, hS, hg, trivial⟩) (fun _ => Lasts2.true_) ?_
     rintro ⟨ra, rs, rm, rf⟩ hr_ra
     dsimp only at hr_ra ⊢
     have hz_rs : rs.size ≤ 1000000 := hr_ra
     refine wl_nil ?_
     refine nw 11 15 (fun _ hm => ⟨hm.bl 0, hm.bl 1, hm.bl 2, hm.bl 3, hm.bl 4, hm.bl 5, hm.fa 1, trivial⟩) fun z => ?_
     refine wa_all [4, 8] (by kernel_rfl) rfl ⟨⟨_, rfl, ?_⟩, ⟨_, rfl, ?_⟩, trivial⟩
     ·refine wl_callx (γ := ByteArray × ByteArray × Int × Int × Option Addr × Nat × Nat × List Lg × Int) (val := (fun g => .tuple #[.agg #[.string g.1, .string g.2.1, .int .i64 g.2.2.1, .int .i64 g.2.2.2.1, .slice g.2.2.2.2.1 g.2.2.2.2.2.1 g.2.2.2.2.2.2.1], .int .i64 g.2.2.2.2.2.2.2.2])) (φ := (fun g => HrOk g.1 g.2.1 g.2.2.2.2.2.2.2.1 ∧ g.2.2.2.2.2.1 ≤ nx ∧ (g.2.2.2.2.2.2.2.2 = 0 → g.2.2.2.2.2.1 = nx ∧ hireE ⟨g.1, g.2.1, g.2.2.1, g.2.2.2.1, g.2.2.2.2.2.2.2.1⟩ = 0))) (Y := (fun g => fun wy => SlT lgEnc 9 135 wy g.2.2.2.2.1 g.2.2.2.2.2.1 g.2.2.2.2.2.2.2.1)) rfl cb65 rfl rfl (fun wx hm => (closeOf_genR kx dx fx tx lx Ax nx cx wx (hm.fact 1 rfl) hj2 (by omega) ⟨ra, rs, rm, rf⟩ hr_ra).mono fun _ _ ⟨E, k, d, f, t, A, n, c, l, he, hsl, hok, hn, hn0, hg⟩ => ⟨(k, d, f, t, A, n, c, l, E), he, ⟨hok, hn, hn0⟩, hg, hsl⟩) (fun _ => SlT.lasts2 rfl) ?_
      rintro ⟨k3, d3, f3, t3, A3, n3, c3, l3, E3⟩ hb3
      dsimp only at hb3 ⊢
      refine wl_nil ?_
      refine nw 11 31 (fun _ hm => ⟨hm.bl 0, hm.bl 1, hm.bl 2, hm.bl 3, hm.bl 4, hm.bl 5, hm.fa 2, trivial⟩) fun z => ?_
      refine wt 5 11 63 rfl z (ov_move rfl) ?_
      refine wt 6 11 127 rfl z (ov_extract rfl rfl) ?_
      refine wt 7 11 255 rfl z (ov_extract rfl rfl) ?_
      refine wa1 8 rfl ?_
      refine wl_alloc zc30 rfl fun g102 => ?_
      refine wl_nil ?_
      refine nw 11 511 (fun _ hm => ⟨hm.bl 1, hm.bl 2, hm.bl 3, hm.bl 4, hm.bl 5, hm.bl 6, hm.fa 2, trivial⟩) fun z => ?_
      refine wa1 9 rfl ?_
      refine wl_stores (cs' := [.string k3, .string d3, .int .i64 f3, .int .i64 t3, .slice A3 n3 c3]) 0 rz30 rfl rfl rfl rfl rfl rfl rfl rfl ?_
      refine wl_nil ?_
      refine nw 11 1023 (fun _ hm => ⟨hm.bl 1, hm.bl 2, hm.bl 3, hm.bl 4, hm.bl 5, hm.bl 6, hm.fa 2, trivial⟩) fun z => ?_
      refine wt 10 11 2047 rfl z (ov_assign rfl) ?_
      refine wa_done (by kernel_rfl) ?_
      exact nx_meet (k3, d3, f3, t3, A3, n3, c3, l3, E3, g102) hb3 ⟨rfl, rfl, rfl, rfl, rfl, rfl, rfl, rfl, trivial⟩ (fun _ hm => hm.pick [1, 2, 3, 4, 5, 6, 0] [] [2, 0] rfl rfl)
     refine wl_alloc zc30 rfl fun g103 => ?_
     refine wl_nil ?_
     refine nw 11 271 (fun _ hm => ⟨hm.bl 1, hm.bl 2, hm.bl 3, hm.bl 4, hm.bl 5, hm.bl 6, hm.fa 1, trivial⟩) fun z => ?_
     refine wa1 4 rfl ?_
     refine wl_callx (γ := ByteArray × ByteArray × Int × Int × Option Addr × Nat × Nat × List Lg × Int) (val := (fun g => .tuple #[.agg #[.string g.1, .string g.2.1, .int .i64 g.2.2.1, .int .i64 g.2.2.2.1, .slice g.2.2.2.2.1 g.2.2.2.2.2.1 g.2.2.2.2.2.2.1], .int .i64 g.2.2.2.2.2.2.2.2])) (φ := (fun g => HrOk g.1 g.2.1 g.2.2.2.2.2.2.2.1 ∧ g.2.2.2.2.2.1 ≤ nx ∧ (g.2.2.2.2.2.2.2.2 = 0 → g.2.2.2.2.2.1 = nx ∧ hireE ⟨g.1, g.2.1, g.2.2.1, g.2.2.2.1, g.2.2.2.2.2.2.2.1⟩ = 0))) (Y := (fun g => fun wy => SlT lgEnc 9 135 wy g.2.2.2.2.1 g.2.2.2.2.2.1 g.2.2.2.2.2.2.2.1)) rfl cb65 rfl rfl (fun wx hm => (closeOf_genR kx dx fx tx lx Ax nx cx wx (hm.fact 1 rfl) hj2 (by omega) ⟨ra, rs, rm, rf⟩ hr_ra).mono fun _ _ ⟨E, k, d, f, t, A, n, c, l, he, hsl, hok, hn, hn0, hg⟩ => ⟨(k, d, f, t, A, n, c, l, E), he, ⟨hok, hn, hn0⟩, hg, hsl⟩) (fun _ => SlT.lasts2 rfl) ?_
     rintro ⟨k3, d3, f3, t3, A3, n3, c3, l3, E3⟩ hb3
     dsimp only at hb3 ⊢
     refine wl_nil ?_
     refine nw 11 287 (fun _ hm => ⟨hm.bl 1, hm.bl 2, hm.bl 3, hm.bl 4, hm.bl 5, hm.bl 6, hm.fa 2, trivial⟩) fun z => ?_
     refine wt 5 11 319 rfl z (ov_move rfl) ?_
     refine wt 6 11 383 rfl z (ov_extract rfl rfl) ?_
     refine wt 7 11 511 rfl z (ov_extract rfl rfl) ?_
     refine wa1 9 rfl ?_
     refine wl_stores (cs' := [.string k3, .string d3, .int .i64 f3, .int .i64 t3, .slice A3 n3 c3]) 0 rz30 rfl rfl rfl rfl rfl rfl rfl rfl ?_
     refine wl_nil ?_
     refine nw 11 1023 (fun _ hm => ⟨hm.bl 1, hm.bl 2, hm.bl 3, hm.bl 4, hm.bl 5, hm.bl 6, hm.fa 2, trivial⟩) fun z => ?_
     refine wt 10 11 2047 rfl z (ov_assign rfl) ?_
     refine wa_done (by kernel_rfl) ?_
     exact nx_meet (k3, d3, f3, t3, A3, n3, c3, l3, E3, g103) hb3 ⟨rfl, rfl, rfl, rfl, rfl, rfl, rfl, rfl, trivial⟩ (fun _ hm => hm.pick [1, 2, 3, 4, 5, 6, 0] [] [2, 0] rfl rfl)
    refine wl_alloc zc30 rfl fun g104 => ?_
    refine wl_nil ?_
    refine nw 11 263 (fun _ hm => ⟨hm.bl 1, hm.bl 2, hm.bl 3, hm.bl 4, hm.bl 5, hm.bl 6, hm.fa 0, trivial⟩) fun z => ?_
    refine wa1 3 rfl ?_
    refine wl_calls (γ := Int × ByteArray × Int × Int) (val := (fun g => .agg #[.int .i64 g.1, .string g.2.1, .int .i64 g.2.2.1, .int .i64 g.2.2.2])) (φ := (fun g => RdOk ⟨g.1, g.2.1, g.2.2.1, g.2.2.2⟩)) (Y := (fun g => fun _ => True)) (m' := m + 200 * i + 1 + 1 + 1 + 10 + 1 + 40 * j + 1 + 1 + 10) rfl cb19 rfl rfl rfl rfl (fun wx hm => (greading_any at2 wx B sb _ hm.k (by omega) (by omega) (by omega)).mono fun _ _ ⟨r, hok, he, hS, hg⟩ => ⟨(r.at_, r.st, r.meter, r.fuel), he, hok, hS, hg, trivial⟩) (fun _ => Lasts2.true_) ?_
    rintro ⟨ra, rs, rm, rf⟩ hr_ra
    dsimp only at hr_ra ⊢
    have hz_rs : rs.size ≤ 1000000 := hr_ra
    refine wl_nil ?_
    refine nw 11 271 (fun _ hm => ⟨hm.bl 1, hm.bl 2, hm.bl 3, hm.bl 4, hm.bl 5, hm.bl 6, hm.fa 1, trivial⟩) fun z => ?_
    refine wa1 4 rfl ?_
    refine wl_callx (γ := ByteArray × ByteArray × Int × Int × Option Addr × Nat × Nat × List Lg × Int) (val := (fun g => .tuple #[.agg #[.string g.1, .string g.2.1, .int .i64 g.2.2.1, .int .i64 g.2.2.2.1, .slice g.2.2.2.2.1 g.2.2.2.2.2.1 g.2.2.2.2.2.2.1], .int .i64 g.2.2.2.2.2.2.2.2])) (φ := (fun g => HrOk g.1 g.2.1 g.2.2.2.2.2.2.2.1 ∧ g.2.2.2.2.2.1 ≤ nx ∧ (g.2.2.2.2.2.2.2.2 = 0 → g.2.2.2.2.2.1 = nx ∧ hireE ⟨g.1, g.2.1, g.2.2.1, g.2.2.2.1, g.2.2.2.2.2.2.2.1⟩ = 0))) (Y := (fun g => fun wy => SlT lgEnc 9 135 wy g.2.2.2.2.1 g.2.2.2.2.2.1 g.2.2.2.2.2.2.2.1)) rfl cb65 rfl rfl (fun wx hm => (closeOf_genR kx dx fx tx lx Ax nx cx wx (hm.fact 1 rfl) hj2 (by omega) ⟨ra, rs, rm, rf⟩ hr_ra).mono fun _ _ ⟨E, k, d, f, t, A, n, c, l, he, hsl, hok, hn, hn0, hg⟩ => ⟨(k, d, f, t, A, n, c, l, E), he, ⟨hok, hn, hn0⟩, hg, hsl⟩) (fun _ => SlT.lasts2 rfl) ?_
    rintro ⟨k3, d3, f3, t3, A3, n3, c3, l3, E3⟩ hb3
    dsimp only at hb3 ⊢
    refine wl_nil ?_
    refine nw 11 287 (fun _ hm => ⟨hm.bl 1, hm.bl 2, hm.bl 3, hm.bl 4, hm.bl 5, hm.bl 6, hm.fa 2, trivial⟩) fun z => ?_
    refine wt 5 11 319 rfl z (ov_move rfl) ?_
    refine wt 6 11 383 rfl z (ov_extract rfl rfl) ?_
    refine wt 7 11 511 rfl z (ov_extract rfl rfl) ?_
    refine wa1 9 rfl ?_
    refine wl_stores (cs' := [.string k3, .string d3, .int .i64 f3, .int .i64 t3, .slice A3 n3 c3]) 0 rz30 rfl rfl rfl rfl rfl rfl rfl rfl ?_
    refine wl_nil ?_
    refine nw 11 1023 (fun _ hm => ⟨hm.bl 1, hm.bl 2, hm.bl 3, hm.bl 4, hm.bl 5, hm.bl 6, hm.fa 2, trivial⟩) fun z => ?_
    refine wt 10 11 2047 rfl z (ov_assign rfl) ?_
    refine wa_done (by kernel_rfl) ?_
    exact nx_meet (k3, d3, f3, t3, A3, n3, c3, l3, E3, g104) hb3 ⟨rfl, rfl, rfl, rfl, rfl, rfl, rfl, rfl, trivial⟩ (fun _ hm => hm.pick [1, 2, 3, 4, 5, 6, 0] [] [2, 0] rfl rfl)
   rintro ⟨k3, d3, f3, t3, A3, n3, c3, l3, E3, gj⟩ hinv
   replace hinv : HrOk k3 d3 l3 ∧ n3 ≤ nx ∧ (E3 = 0 → n3 = nx ∧ hireE ⟨k3, d3, f3, t3, l3⟩ = 0) := hinv
   dsimp only
   refine sr_ ?_
   obtain ⟨hok3, hn3, hne3⟩ := hinv
   refine mv_ rfl (wl_ov (ov_eql rfl rfl) rfl (nn_ ?_))
   refine gw_cond rfl (fun hh => ?_) (fun hh => ?_)
   ·have hE3 : E3 = 0 := by simpa using hh
    clear hh
    refine gw_region ?_
    refine wl_ov (ov_loads rz30 rfl (fun _ hm => hm.blkI 6 rfl) rfl rfl) rfl ?_
    refine wl_stores (cs' := [.string k3, .string d3, .int .i64 f3, .int .i64 t3, .slice A3 n3 c3]) 5 rz30 rfl rfl rfl rfl rfl rfl rfl rfl ?_
    refine nn_ (sr_ ?_)
    refine wl_ov (ov_loads rz30 rfl (fun _ hm => hm.blkI 5 rfl) rfl rfl) rfl ?_
    refine wl_stores (cs' := [.string k3, .string d3, .int .i64 f3, .int .i64 t3, .slice A3 n3 c3]) 4 rz30 rfl rfl rfl rfl rfl rfl rfl rfl ?_
    refine nn_ ?_
    refine gw_ret ?_
    refine nx_blk_ret (nx_then_ret (nx_then_ret (nx_blk_ret (nx_then_ret ?_))))
    obtain ⟨hn4, hE4⟩ := hne3 hE3
    refine nx_retc 4 rfl rz30 rfl rfl rfl fun wx hm => ?_
    exact ⟨k3, d3, f3, t3, A3, n3, c3, l3, rfl, (hm.fact 1 rfl), hok3, by omega, by omega, hE4, hm.k.more (by omega), hm.g⟩
   have hE3 : ¬ (E3 = 0) := by simpa using hh
   clear hh
   refine gw_skip (nx_then (sr_ ?_))
   refine wl_ov (ov_loads rz30 rfl (fun _ hm => hm.blkI 5 rfl) rfl rfl) rfl ?_
   refine wl_stores (cs' := [.string kx, .string dx, .int .i64 fx, .int .i64 tx, .slice Ax nx cx]) 4 rz30 rfl rfl rfl rfl rfl rfl rfl rfl ?_
   refine nn_ ?_
   refine gw_ret ?_
   refine nx_blk_ret (nx_then_ret (nx_then_ret (nx_blk_ret (nx_then_ret ?_))))
   refine nx_retc 4 rfl rz30 rfl rfl rfl fun wx hm => ?_
   exact ⟨kx, dx, fx, tx, Ax, nx, cx, lx, rfl, (hm.fact 0 rfl), hj2, by omega, by omega, hj5, hm.k.more (by omega), hm.g⟩
  have hfl : f98 = true := by simpa using hh
  clear hh
  refine gw_skip (nx_then (sr_ ?_))
  refine wl_ov (ov_loads rz30 rfl (fun _ hm => hm.blkI 4 rfl) rfl rfl) rfl ?_
  refine wl_stores (cs' := [.string kx, .string dx, .int .i64 fx, .int .i64 tx, .slice Ax nx cx]) 3 rz30 rfl rfl rfl rfl rfl rfl rfl rfl ?_
  refine nn_ ?_
  refine gw_ret ?_
  refine nx_blk_ret (nx_then_ret (nx_then_ret (nx_blk_ret (nx_then_ret ?_))))
  refine nx_retc 3 rfl rz30 rfl rfl rfl fun wx hm => ?_
  exact ⟨kx, dx, fx, tx, Ax, nx, cx, lx, rfl, (hm.fact 0 rfl), hj2, by omega, by omega, hj5, hm.k.more (by omega), hm.g⟩
 have hi : ¬ (((i : Nat) : Int) < 6) := by simpa using hh
 clear hh
 refine gw_exit ?_
 refine nx_then_exit (nx_then_exit ?_)
 refine nx_blk_here ?_
 refine nx_then (sr_ (mv_ rfl (mv_ rfl (mv_ rfl (ad_ rfl rfl ?_)))))
 refine wl_ov (ov_build (cs := [.int .i64 fr, .int .i64 (fr + 60)]) rfl (by kernel_rfl)) rfl ?_
 refine mv_ rfl ?_
 refine wl_ov (ov_build (cs := [.int .i64 fr, .string ⟨#[115, 49]⟩, .int .i64 0, .int .i64 0]) rfl (by kernel_rfl)) rfl ?_
 refine wl_callx (γ := ByteArray × ByteArray × Int × Int × Option Addr × Nat × Nat × List Lg) (val := (fun g => .tuple #[.agg #[.string g.1, .string g.2.1, .int .i64 g.2.2.1, .int .i64 g.2.2.2.1, .slice g.2.2.2.2.1 g.2.2.2.2.2.1 g.2.2.2.2.2.2.1], .int .i64 0])) (φ := (fun g => HrOk g.1 g.2.1 g.2.2.2.2.2.2.2 ∧ g.2.2.2.2.2.1 ≤ 1 ∧ (0 = 0 → g.2.2.2.2.2.1 = 1 ∧ hireE ⟨g.1, g.2.1, g.2.2.1, g.2.2.2.1, g.2.2.2.2.2.2.2⟩ = 0))) (Y := (fun g => fun wy => SlT lgEnc 9 135 wy g.2.2.2.2.1 g.2.2.2.2.2.1 g.2.2.2.2.2.2.2)) rfl cb62 rfl rfl (fun wx hm => ((by have h := startOf_litR key ⟨#[97, 110, 110]⟩ fr (fr + 60) ⟨#[118, 49]⟩ fr 0 0 ⟨#[115, 49]⟩ wx (by omega) (by decide) (by decide) (by decide); rw [fall_right hkb hf0 hf1] at h; exact h : Calls _ _ _ wx (HireBackR wx 1 0))).mono fun _ _ ⟨k, d, f, t, A, n, c, l, he, hsl, hok, hn, hn0, hg⟩ => ⟨(k, d, f, t, A, n, c, l), he, ⟨hok, hn, hn0⟩, hg, hsl⟩) (fun _ => SlT.lasts2 rfl) ?_
 rintro ⟨k9, d9, f9, t9, A9, n9, c9, l9⟩ hb9
 dsimp only at hb9 ⊢
 obtain ⟨hn9, hE9⟩ := hb9.2.2 rfl
 refine mv_ rfl (wl_ov (ov_extract rfl rfl) rfl (wl_ov (ov_extract rfl rfl) rfl ?_))
 refine wl_alloc zc30 rfl fun g106 => ?_
 refine wl_stores (cs' := [.string k9, .string d9, .int .i64 f9, .int .i64 t9, .slice A9 n9 c9]) 0 rz30 rfl rfl rfl rfl rfl rfl rfl rfl ?_
 refine sg_ rfl (nn_ (sr_ ?_))
 refine wl_ov (ov_loads rz30 rfl (fun _ hm => hm.blkI 0 rfl) rfl rfl) rfl ?_
 refine wl_stores (cs' := [.string k9, .string d9, .int .i64 f9, .int .i64 t9, .slice A9 n9 c9]) 1 rz30 rfl rfl rfl rfl rfl rfl rfl rfl ?_
 refine nn_ ?_
 refine gw_ret ?_
 refine nx_retc 1 rfl rz30 rfl rfl rfl fun wx hm => ?_
 exact ⟨k9, d9, f9, t9, A9, n9, c9, l9, rfl, (hm.fact 0 rfl), hb9.1, by omega, by omega, hE9, hm.k.more (by omega), hm.g⟩
end Go.Proofs.YtempjmpfdniecaaGreatDoor
namespace Go.Proofs.YtempjmpfdniecaaGreatDoor
open Go.RowKit
def dashS : ByteArray := ⟨#[45]⟩
def mkB (l : List UInt8) : ByteArray := ⟨l.toArray⟩
theorem mkB_sz (l : List UInt8) : (mkB l).size = l.length := sz_mk l
theorem join_one (s sep : ByteArray) : joinS [s] sep = s := by
  refine ba_eq ?_
  unfold joinS
  simp [Lib.join_cons, Lib.joinTail]
inductive FIt where
  | st (x : St)
  | cs (x : Cs)
  | vh (x : Vh)
  | pl (x : Pl)
def FIt.kd : FIt → Int
  | .st _ => 1
  | .cs _ => 2
  | .vh _ => 3
  | .pl _ => 4
end Go.Proofs.YtempjmpfdniecaaGreatDoor
namespace Go.Proofs.YtempjmpfdniecaaGreatDoor
open Go.RowKit
theorem bk_none {c x : UInt8} {l : List UInt8} (h : c ∉ x :: l) : (x == c) = false ∧ c ∉ l := by
  simp only [List.mem_cons, not_or] at h
  exact ⟨by simpa using fun e => h.1 e.symm, h.2⟩
theorem bk_cases (c : UInt8) : ∀ l : List UInt8, (Lib.indexByte l c = -1 ∧ c ∉ l) ∨ ∃ a b, l = a ++ c :: b ∧ c ∉ a
  | [] => .inl ⟨rfl, by simp⟩
  | x :: l => by
    by_cases h : x = c
    · subst h
      exact .inr ⟨[], l, rfl, by simp⟩
    · rcases bk_cases c l with ⟨h1, h2⟩ | ⟨a, b, h1, h2⟩
      · exact .inl ⟨by simp [Lib.indexByte, h, h1], by simp [h2, Ne.symm h]⟩
      · exact .inr ⟨x :: a, b, by rw [h1]; rfl, by simp [h2, Ne.symm h]⟩
theorem bk_ixb {c : UInt8} {b : List UInt8} : ∀ {a : List UInt8}, c ∉ a → Lib.indexByte (a ++ c :: b) c = ((a.length : Nat) : Int)
  | [], _ => by simp [Lib.indexByte]
  | x :: a, h => by
    obtain ⟨h1, h2⟩ := bk_none h
    have ih := bk_ixb (b := b) h2
    have h3 : ¬ ((((a.length : Nat) : Int)) == -1) = true := by simp
    rw [List.cons_append, Lib.indexByte, h1, ih, if_neg (by decide), if_neg h3, List.length_cons]; omega
theorem bk_ix {c : UInt8} {a b : List UInt8} (h : c ∉ a) : Lib.index (a ++ c :: b) [c] = ((a.length : Nat) : Int) := by rw [Lib.index_one]; exact bk_ixb h
theorem bk_no {c : UInt8} {l : List UInt8} (h : c ∉ l) : Lib.index l [c] = -1 := by
  rw [Lib.index_one]
  rcases bk_cases c l with ⟨h1, _⟩ | ⟨a, b, h1, _⟩
  · exact h1
  · exact absurd (by rw [h1]; simp) h
theorem bk_cut {c : UInt8} {a b : List UInt8} (h : c ∉ a) : Lib.cut (a ++ c :: b) [c] = (a, b, true) := by
  unfold Lib.cut
  rw [bk_ix h, if_pos (by omega), Int.toNat_natCast]
  simp
theorem mkB_data (s : ByteArray) : mkB s.data.toList = s := ba_eq (by unfold mkB; simp)
theorem data_mkB (l : List UInt8) : (mkB l).data.toList = l := by unfold mkB; simp
theorem cutS_app {c : UInt8} {a b : List UInt8} (h : c ∉ a) : cutS (mkB (a ++ c :: b)) ⟨#[c]⟩ = (mkB a, mkB b, true) := by
  unfold cutS
  rw [data_mkB, show (⟨#[c]⟩ : ByteArray).data.toList = [c] from rfl, bk_cut h]; rfl
def bkW (c : UInt8) (l : List UInt8) : List (List UInt8) := Lib.splitK [c] 0 (Lib.count l [c]) l
theorem bkW_miss {c : UInt8} {l : List UInt8} (h : c ∉ l) : bkW c l = [l] := by
  unfold bkW
  rw [Lib.count_miss (bk_no h)]; rfl
theorem bkW_hit {c : UInt8} {a b : List UInt8} (h : c ∉ a) : bkW c (a ++ c :: b) = a :: bkW c b := by
  have hd : (a ++ c :: b).drop (a.length + [c].length) = b := by
    rw [show a.length + [c].length = (a ++ [c]).length by simp, show a ++ c :: b = (a ++ [c]) ++ b by simp, List.drop_left]
  unfold bkW
  rw [Lib.count_hit (by simp) (bk_ix (b := b) h), hd, Nat.add_comm, Lib.splitK, bk_ix h, if_neg (by simp), Int.toNat_natCast, hd]
  simp
theorem bkW_join {c : UInt8} : ∀ (r : List (List UInt8)) (x : List UInt8), (∀ y ∈ x :: r, c ∉ y) → bkW c (Lib.join (x :: r) [c]) = x :: r
  | [], x, h => by rw [Lib.join_one]; exact bkW_miss (h x (List.mem_cons_self ..))
  | y :: r, x, h => by
    have e : Lib.join (x :: y :: r) [c] = x ++ c :: Lib.join (y :: r) [c] := by
      rw [Lib.join_cons, Lib.join_cons]; simp [Lib.joinTail]
    rw [e, bkW_hit (h x (List.mem_cons_self ..)), bkW_join r y fun z hz => h z (List.mem_cons_of_mem _ hz)]
theorem words_data (c : UInt8) (s : ByteArray) : (wordsL s ⟨#[c]⟩).map (·.data.toList) = bkW c s.data.toList := Lib.splitB_data _ 0 _ s
theorem map_mkB {l : List ByteArray} : (l.map (·.data.toList)).map mkB = l := by
  rw [List.map_map]
  conv => rhs; rw [← List.map_id l]
  exact List.map_congr_left fun x _ => mkB_data x
theorem words_join {c : UInt8} {ws : List ByteArray} (hne : ws ≠ []) (h : ∀ x ∈ ws, c ∉ x.data.toList) : wordsL (joinS ws ⟨#[c]⟩) ⟨#[c]⟩ = ws := by
  have e : (wordsL (joinS ws ⟨#[c]⟩) ⟨#[c]⟩).map (·.data.toList) = ws.map (·.data.toList) := by
    rw [words_data]
    unfold joinS
    cases ws with
    | nil => exact absurd rfl hne
    | cons x r =>
      rw [List.map_cons]
      exact bkW_join _ _ fun y hy => by
        rcases List.mem_cons.1 hy with rfl | hy
        · exact h x (List.mem_cons_self ..)
        · obtain ⟨z, hz, rfl⟩ := List.mem_map.1 hy
          exact h z (List.mem_cons_of_mem _ hz)
  have e2 := congrArg (List.map mkB) e
  rwa [map_mkB, map_mkB] at e2
theorem pu_snoc (c : UInt8) : ∀ (l : List UInt8) (acc u : Nat), Lib.parseUint10 acc l = .ok u → Lib.parseUint10 acc (l ++ [c]) = Lib.parseUint10 u [c]
  | [], acc, u, h => by
    rw [Lib.parseUint10] at h
    injection h with h
    subst h; rfl
  | x :: l, acc, u, h => by
    rw [Lib.parseUint10] at h
    split at h
    · rename_i h1
      split at h
      · cases h
      · rename_i h2
        split at h
        · cases h
        · rename_i h3
          rw [List.cons_append, Lib.parseUint10, if_pos h1, if_neg h2, if_neg h3]
          exact pu_snoc c l _ u h
    · cases h
theorem dig_nat {n : Nat} (h : n < 10) : (UInt8.ofNat (48 + n)).toNat = 48 + n := by rw [UInt8.toNat_ofNat']; omega
theorem pu_dec : ∀ (n : Nat), n ≤ 1000000000000000000 → Lib.parseUint10 0 (Lib.decDigits n) = .ok n := by
  intro n
  induction n using Nat.strongRecOn with
  | ind n ih =>
    intro hn
    rw [Lib.decDigits]
    by_cases h : n < 10
    · rw [dif_pos h, Lib.parseUint10, dig_nat h, if_pos (by omega), if_neg (by omega), if_neg (by omega), Lib.parseUint10]
      congr 1; omega
    · rw [dif_neg h, pu_snoc _ _ _ _ (ih (n / 10) (by omega) (by omega)), Lib.parseUint10, dig_nat (Nat.mod_lt _ (by decide)), if_pos (by omega), if_neg (by omega), if_neg (by omega), Lib.parseUint10]
      congr 1; omega
theorem pm_dec {n : Nat} (h : n ≤ 1000000000000000000) : Lib.parseMag (Lib.decDigits n) = .ok n := by
  unfold Lib.parseMag
  rw [if_neg (dec_dig n).2]; exact pu_dec n h
theorem atoi_itoa {v : Int} (h : -1000000000000000000 ≤ v ∧ v ≤ 1000000000000000000) : Lib.atoiAll (Lib.itoa v) = .ok v := by
  unfold Lib.itoa
  by_cases h0 : v < 0
  · rw [if_pos h0, Lib.atoiAll_minus, pm_dec (by omega)]
    show (if 9223372036854775808 < v.natAbs then Lib.NumEnd.range else Lib.NumEnd.ok (-(v.natAbs : Int))) = _
    rw [if_neg (by omega)]
    congr 1; omega
  · rw [if_neg h0]
    obtain ⟨h1, h2⟩ := dec_dig v.toNat
    have hp := pm_dec (n := v.toNat) (by omega)
    cases hd : Lib.decDigits v.toNat with
    | nil => exact absurd hd h2
    | cons c r =>
      rw [hd] at h1 hp
      have hc : digB c = true := by rw [List.all_cons, Bool.and_eq_true] at h1; exact h1.1
      unfold digB at hc
      simp only [Bool.and_eq_true, decide_eq_true_eq] at hc
      rw [Lib.atoiAll_plain c r (by omega) (by omega), hp]
      show (if 9223372036854775808 ≤ v.toNat then Lib.NumEnd.range else Lib.NumEnd.ok (v.toNat : Int)) = _
      rw [if_neg (by omega)]
      congr 1; omega
theorem dec_len : ∀ (k n : Nat), n < 10 ^ (k + 1) → (Lib.decDigits n).length ≤ k + 1
  | 0, n, h => by rw [Lib.decDigits, dif_pos (by omega)]; exact Nat.le_refl _
  | k + 1, n, h => by
    rw [Lib.decDigits]
    by_cases h1 : n < 10
    · rw [dif_pos h1]; simp
    · rw [dif_neg h1, List.length_append]
      have := dec_len k (n / 10) (by rw [Nat.pow_succ] at h; omega)
      simp; omega
theorem trim_len {v : Int} (h : -999999999 ≤ v ∧ v ≤ 999999999) : (Lib.trimPrefix (Lib.itoa v) [45]).length ≤ 9 := by
  unfold Lib.itoa
  by_cases h0 : v < 0
  · rw [if_pos h0]
    have e : Lib.trimPrefix (45 :: Lib.decDigits v.natAbs) [45] = Lib.decDigits v.natAbs := by simp [Lib.trimPrefix, Lib.hasPrefix]
    rw [e]; exact dec_len 8 _ (by omega)
  · rw [if_neg h0]
    have e := dec_len 8 v.toNat (by omega)
    have e2 : (Lib.trimPrefix (Lib.decDigits v.toNat) [45]).length ≤ (Lib.decDigits v.toNat).length := by
      unfold Lib.trimPrefix
      split <;> simp
    omega
theorem num_back {v : Int} (h : -999999999 ≤ v ∧ v ≤ 999999999) : numB (itoaS v) = true ∧ numV (itoaS v) = v := by
  have e : (itoaS v).data.toList = Lib.itoa v := by unfold itoaS; simp
  have ha := atoi_itoa (v := v) (by omega)
  have hl := trim_len h
  unfold numB numV
  rw [e, ha]
  exact ⟨by simp [hl], rfl⟩
def lnT (ls : List ByteArray) : List UInt8 := ls.flatMap fun x => x.data.toList ++ [10]
def runL {σ : Type} (step : ByteArray → σ → σ × Bool) : List ByteArray → σ → Option σ
  | [], st => some st
  | c :: r, st => if (step c st).2 = true then runL step r (step c st).1 else none
section
variable {σ : Type} {step : ByteArray → σ → σ × Bool}
theorem lnT_cons (c : ByteArray) (r : List ByteArray) : lnT (c :: r) = c.data.toList ++ 10 :: lnT r := by unfold lnT; simp
theorem lines_run : ∀ (ls : List ByteArray) (st st' : σ) (f : Nat) (at_ : Int), (∀ c ∈ ls, (10 : UInt8) ∉ c.data.toList) → runL step ls st = some st' → (lnT ls).length < f → linesF step f (mkB (lnT ls)) at_ st = (0, true, st')
  | [], st, st', f, at_, _, h, hf => by
    cases h
    exact lns_nil (by rw [mkB_sz]; exact hf) (beq_self_eq_true (⟨#[]⟩ : ByteArray).toList)
  | c :: r, st, st', f, at_, hn, h, hf => by
    unfold runL at h
    split at h
    · rename_i h1
      have hc := cutS_app (b := lnT r) (hn c (List.mem_cons_self ..))
      rw [mkB_data] at hc
      rw [lnT_cons] at hf ⊢
      have he : ((mkB (c.data.toList ++ 10 :: lnT r)).toList == (⟨#[]⟩ : ByteArray).toList) = false := by
        cases he : ((mkB (c.data.toList ++ 10 :: lnT r)).toList == (⟨#[]⟩ : ByteArray).toList) with
        | false => rfl
        | true =>
          have h2 := congrArg (fun z : ByteArray => z.data.toList) (bytes_ext (a := mkB (c.data.toList ++ 10 :: lnT r)) (b := ⟨#[]⟩) (by simpa using he))
          dsimp only at h2
          rw [data_mkB] at h2
          simp at h2
      rw [lns_go (by rw [mkB_sz]; exact hf) he hc h1]
      exact lines_run r _ st' _ _ (fun x hx => hn x (List.mem_cons_of_mem _ hx)) h (by simp at hf; omega)
    · cases h
end
/-- A word: not empty, without spaces and ends of lines. -/
def GoodW (s : ByteArray) : Prop := 1 ≤ s.size ∧ (32 : UInt8) ∉ s.data.toList ∧ (10 : UInt8) ∉ s.data.toList
theorem good_all {p : UInt8 → Bool} {s : ByteArray} (h32 : p 32 = false) (h10 : p 10 = false) (h1 : 1 ≤ s.size) (h : s.data.toList.all p = true) : GoodW s :=
  ⟨h1, fun hm => (by have := List.all_eq_true.1 h _ hm; rw [h32] at this; cases this), fun hm => (by have := List.all_eq_true.1 h _ hm; rw [h10] at this; cases this)⟩
theorem key_good {s : ByteArray} (h : keyB s = true) : GoodW s ∧ s ≠ dashS := by
  unfold keyB at h
  cases hs : s.data.toList with
  | nil => rw [hs] at h; cases h
  | cons c r =>
    have hz : s.size = r.length + 1 := by rw [← dl_size, hs]; rfl
    rw [hs] at h
    unfold keyLB at h
    simp only [Bool.and_eq_true, decide_eq_true_eq] at h
    obtain ⟨⟨h1, h2⟩, h3⟩ := h
    refine ⟨good_all (p := keyCharB) (by decide +kernel) (by decide +kernel) (by omega) ?_, fun e => ?_⟩
    · rw [hs, List.all_cons]
      unfold keyRestB at h2
      rw [h2, Bool.and_true]
      unfold keyCharB
      rw [h1]; rfl
    · rw [e] at hs
      have hc : (45 : UInt8) = c := by
        have h4 : [(45 : UInt8)] = c :: r := hs
        injection h4
      rw [← hc] at h1
      exact absurd h1 (by decide +kernel)
def nmB (c : UInt8) : Bool := digB c || decide (c = 45)
theorem dec_nm (n : Nat) : (Lib.decDigits n).all nmB = true ∧ 1 ≤ (Lib.decDigits n).length := by
  obtain ⟨h1, h2⟩ := dec_dig n
  refine ⟨List.all_eq_true.2 fun x hx => ?_, ?_⟩
  · unfold nmB
    rw [List.all_eq_true.1 h1 x hx]; rfl
  · cases hd : Lib.decDigits n with
    | nil => exact absurd hd h2
    | cons _ _ => simp
theorem itoa_data (v : Int) : (itoaS v).data.toList = Lib.itoa v := by unfold itoaS; simp
theorem itoa_nm (v : Int) : (Lib.itoa v).all nmB = true ∧ 1 ≤ (Lib.itoa v).length := by
  unfold Lib.itoa
  split
  · obtain ⟨h1, h2⟩ := dec_nm v.natAbs
    exact ⟨by rw [List.all_cons, h1]; decide +kernel, by simp⟩
  · exact dec_nm _
theorem itoa_good (v : Int) : GoodW (itoaS v) := good_all (p := nmB) (by decide +kernel) (by decide +kernel) (by rw [← dl_size, itoa_data]; exact (itoa_nm v).2) (by rw [itoa_data]; exact (itoa_nm v).1)
theorem line_nl {c : UInt8} : ∀ (r : List (List UInt8)) (x : List UInt8), c ≠ 32 → (∀ y ∈ x :: r, c ∉ y) → c ∉ Lib.join (x :: r) [32]
  | [], x, _, h => by rw [Lib.join_one]; exact h x (List.mem_cons_self ..)
  | y :: r, x, hc, h => by
    have e : Lib.join (x :: y :: r) [32] = x ++ 32 :: Lib.join (y :: r) [32] := by
      rw [Lib.join_cons, Lib.join_cons]; simp [Lib.joinTail]
    rw [e, List.mem_append, List.mem_cons]
    intro hm
    rcases hm with hm | hm | hm
    · exact h x (List.mem_cons_self ..) hm
    · exact hc hm
    · exact line_nl r y hc (fun z hz => h z (List.mem_cons_of_mem _ hz)) hm
theorem line_wd {ws : List ByteArray} (hne : ws ≠ []) (h : ∀ x ∈ ws, GoodW x) : wdL (joinS ws ⟨#[32]⟩) = ws ∧ wdB (joinS ws ⟨#[32]⟩) = true ∧ (10 : UInt8) ∉ (joinS ws ⟨#[32]⟩).data.toList := by
  have e : wdL (joinS ws ⟨#[32]⟩) = ws := words_join hne fun x hx => (h x hx).2.1
  refine ⟨e, ?_, ?_⟩
  · unfold wdB
    rw [e, Bool.not_eq_true', List.any_eq_false]
    intro x hx hq
    unfold eqP at hq
    have h2 : (⟨#[]⟩ : ByteArray) = x := bytes_ext (by simpa using hq)
    have h3 := (h x hx).1
    rw [← h2] at h3
    exact absurd h3 (by decide)
  · cases ws with
    | nil => exact absurd rfl hne
    | cons x r =>
      show (10 : UInt8) ∉ (Lib.join ((x :: r).map (·.data.toList)) [32])
      rw [List.map_cons]
      refine line_nl _ _ (by decide) fun y hy => ?_
      have hy2 : y ∈ (x :: r).map (fun z : ByteArray => z.data.toList) := hy
      obtain ⟨z, hz, rfl⟩ := List.mem_map.1 hy2
      exact (h z hz).2.2
theorem ln_nl (s : ByteArray) : (s ++ (⟨#[10]⟩ : ByteArray)).data.toList = s.data.toList ++ [10] := by simp
theorem lnT_map {α : Type} {f : α → ByteArray} {g : α → List UInt8} : ∀ {l : List α}, (∀ x ∈ l, (f x).data.toList ++ [10] = g x) → lnT (l.map f) = l.flatMap g
  | [], _ => rfl
  | x :: r, h => by
    rw [List.map_cons, lnT_cons, List.flatMap_cons, ← h x (List.mem_cons_self ..), lnT_map fun y hy => h y (List.mem_cons_of_mem _ hy)]; simp
end Go.Proofs.YtempjmpfdniecaaGreatDoor
namespace Go.Proofs.YtempjmpfdniecaaGreatDoor
open Go.RowKit
def RdK (r : Rd) : Prop := GoodW r.st ∧ (0 ≤ r.at_ ∧ r.at_ ≤ 5761439) ∧ (0 ≤ r.meter ∧ r.meter ≤ 999999) ∧ (0 ≤ r.fuel ∧ r.fuel ≤ 8)
def LgK (g : Lg) : Prop := GoodW g.veh ∧ RdK g.out ∧ (g.inn = noRd ∨ RdK g.inn)
def HrK (h : Hr) : Prop := GoodW h.key ∧ GoodW h.driver ∧ (0 ≤ h.fr ∧ h.fr ≤ 5761439) ∧ (0 ≤ h.to_ ∧ h.to_ ≤ 5761439) ∧ ∀ g ∈ h.legs, LgK g
theorem readingE_K {r : Rd} (h : readingE r = 0) : RdK r := by
  unfold readingE at h
  obtain ⟨h1, h⟩ := firstE_hd h
  obtain ⟨h2, h⟩ := firstE_hd h
  obtain ⟨h3, _⟩ := firstE_hd h
  have k1 := momentE_ok h1
  have k2 := whenE_no (by decide) h2
  have k3 := whenE_no (by decide) h3
  simp only [Bool.or_eq_false_iff, Bool.not_eq_false'] at k2 k3
  have k4 := inB_iff.1 k3.1
  have k5 := inB_iff.1 k3.2
  exact ⟨(key_good k2).1, k1, by omega, by omega⟩
theorem legInE_K {b : Bool} {g : Lg} (h : legInE b g = 0) : g.inn = noRd ∨ RdK g.inn := by
  unfold legInE at h
  split at h
  · rename_i ha
    obtain ⟨h1, _⟩ := firstE_hd h
    have k := whenE_no (by decide) h1
    unfold rdOut at k
    simp only [Bool.not_eq_false', Bool.and_eq_true, beq_iff_eq] at k
    obtain ⟨⟨⟨k1, k2⟩, k3⟩, k4⟩ := k
    have e : g.inn.st = ⟨#[]⟩ := bytes_ext (by simpa using k2)
    refine .inl ?_
    obtain ⟨v, o, a, s, m, f⟩ := g
    dsimp only at k1 e k3 k4 ⊢
    subst k1; subst e; subst k3; subst k4
    rfl
  · obtain ⟨h1, _⟩ := firstE_hd h
    exact .inr (readingE_K h1)
theorem legE_K {fr : Int} {p : Option Lg} {b : Bool} {g : Lg} (h : legE fr p b g = 0) : LgK g := by
  unfold legE at h
  obtain ⟨h1, h⟩ := firstE_hd h
  obtain ⟨h2, h⟩ := firstE_hd h
  obtain ⟨_, h⟩ := firstE_hd h
  obtain ⟨h4, _⟩ := firstE_hd h
  have k1 := whenE_no (by decide) h1
  simp only [Bool.not_eq_false'] at k1
  exact ⟨(key_good k1).1, readingE_K h2, legInE_K h4⟩
theorem legsE_K {fr : Int} {l : List Lg} : ∀ (n : Nat), n ≤ l.length → legsE fr l n = 0 → ∀ i g, l.length - n ≤ i → l[i]? = some g → LgK g
  | 0, _, _, i, g, hi, hg => by
    have := (List.getElem?_eq_some_iff.1 hg).1
    omega
  | n + 1, hn, h, i, g, hi, hg => by
    unfold legsE at h
    split at h
    · rename_i hx
      rw [List.getElem?_eq_none_iff] at hx
      omega
    · rename_i x hx
      split at h
      · rename_i h0
        by_cases hi2 : i = l.length - (n + 1)
        · subst hi2
          rw [hx] at hg
          cases hg
          exact legE_K h0
        · exact legsE_K n (by omega) h i g (by omega) hg
      · rename_i h0; exact absurd h h0
theorem hrK_of {h : Hr} (h0 : hireE h = 0) : HrK h := by
  unfold hireE at h0
  obtain ⟨h1, h0⟩ := firstE_hd h0
  obtain ⟨h2, h0⟩ := firstE_hd h0
  obtain ⟨h3, _⟩ := firstE_hd h0
  have k1 := whenE_no (by decide) h1
  simp only [Bool.or_eq_false_iff, Bool.not_eq_false'] at k1
  have k2 : 0 ≤ h.fr ∧ h.fr < h.to_ ∧ h.to_ ≤ 5761439 := by
    unfold timeE at h2
    split at h2
    · cases h2
    · omega
  split at h3
  · cases h3
  · split at h3
    · cases h3
    · refine ⟨(key_good k1.1).1, (key_good k1.2).1, by omega, by omega, fun g hg => ?_⟩
      obtain ⟨i, hi⟩ := List.getElem?_of_mem hg
      exact legsE_K _ (Nat.le_refl _) h3 i g (by omega) hi
theorem rd_num {r : Rd} (h : RdK r) : ((numB (itoaS r.at_) = true ∧ numV (itoaS r.at_) = r.at_) ∧ (numB (itoaS r.meter) = true ∧ numV (itoaS r.meter) = r.meter)) ∧ (numB (itoaS r.fuel) = true ∧ numV (itoaS r.fuel) = r.fuel) := by
  obtain ⟨_, h1, h2, h3⟩ := h
  exact ⟨⟨num_back (by omega), num_back (by omega)⟩, num_back (by omega)⟩
def legPs (g : Lg) : List ByteArray := if g.inn.at_ = -1 then hirLegP g else hirLegP g ++ hirRdP g.inn
def legC (g : Lg) : ByteArray := joinS (legPs g) ⟨#[32]⟩
theorem hw_good : GoodW hireW ∧ GoodW legW := by
  unfold GoodW hireW legW
  decide +kernel
theorem legP_good {g : Lg} (hv : GoodW g.veh) (ho : GoodW g.out.st) : ∀ y ∈ hirLegP g, GoodW y := fun y hy => by
  simp only [hirLegP, List.mem_cons, List.not_mem_nil, or_false] at hy
  rcases hy with rfl | rfl | rfl | rfl | rfl | rfl
  · exact hw_good.2
  · exact hv
  · exact itoa_good _
  · exact ho
  · exact itoa_good _
  · exact itoa_good _
theorem rdP_good {r : Rd} (h : GoodW r.st) : ∀ y ∈ hirRdP r, GoodW y := fun y hy => by
  simp only [hirRdP, List.mem_cons, List.not_mem_nil, or_false] at hy
  rcases hy with rfl | rfl | rfl | rfl
  · exact itoa_good _
  · exact h
  · exact itoa_good _
  · exact itoa_good _
theorem leg_it {g : Lg} (h : LgK g) : hLeg (wdL (legC g)) = some g ∧ wdB (legC g) = true ∧ (10 : UInt8) ∉ (legC g).data.toList ∧ (legC g).data.toList ++ [10] = (hirLeg g).data.toList := by
  obtain ⟨hv, ho, hi⟩ := h
  have no := rd_num ho
  rcases hi with hi | hi
  · have e : g.inn.at_ = -1 := by rw [hi]; rfl
    have hp : legPs g = hirLegP g := if_pos e
    obtain ⟨w1, w2, w3⟩ := line_wd (ws := hirLegP g) (by simp [hirLegP]) (legP_good hv ho.1)
    unfold legC
    rw [hp]
    refine ⟨?_, w2, w3, ?_⟩
    · rw [w1]
      have hq : hLeg [legW, g.veh, itoaS g.out.at_, g.out.st, itoaS g.out.meter, itoaS g.out.fuel] = some ⟨g.veh, rdW (itoaS g.out.at_) g.out.st (itoaS g.out.meter) (itoaS g.out.fuel), noRd⟩ := if_pos (by rw [show eqS legW legW = true by decide +kernel, List.all_cons, List.all_cons, List.all_cons, no.1.1.1, no.1.2.1, no.2.1]; rfl)
      refine hq.trans ?_
      unfold rdW
      rw [no.1.1.2, no.1.2.2, no.2.2, ← hi]
    · rw [hirLeg_no e, ln_nl]; rfl
  · have e : ¬ g.inn.at_ = -1 := by have := hi.2.1; omega
    have hp : legPs g = hirLegP g ++ hirRdP g.inn := if_neg e
    have ni := rd_num hi
    obtain ⟨w1, w2, w3⟩ := line_wd (ws := hirLegP g ++ hirRdP g.inn) (by simp [hirLegP]) fun y hy => by
      rcases List.mem_append.1 hy with hy | hy
      · exact legP_good hv ho.1 y hy
      · exact rdP_good hi.1 y hy
    unfold legC
    rw [hp]
    refine ⟨?_, w2, w3, ?_⟩
    · rw [w1]
      have hq : hLeg [legW, g.veh, itoaS g.out.at_, g.out.st, itoaS g.out.meter, itoaS g.out.fuel, itoaS g.inn.at_, g.inn.st, itoaS g.inn.meter, itoaS g.inn.fuel] = some ⟨g.veh, rdW (itoaS g.out.at_) g.out.st (itoaS g.out.meter) (itoaS g.out.fuel), rdW (itoaS g.inn.at_) g.inn.st (itoaS g.inn.meter) (itoaS g.inn.fuel)⟩ := if_pos (by rw [show eqS legW legW = true by decide +kernel]; simp only [List.all_cons, List.all_nil, no.1.1.1, no.1.2.1, no.2.1, ni.1.1.1, ni.1.2.1, ni.2.1]; rfl)
      refine hq.trans ?_
      unfold rdW
      rw [no.1.1.2, no.1.2.2, no.2.2, ni.1.1.2, ni.1.2.2, ni.2.2]
    · rw [hirLeg_in e]
      unfold hirLegJ hirRdJ hirLegP hirRdP joinS
      simp [Lib.join_cons, Lib.joinTail]
theorem hd_it {k d : ByteArray} {f t : Int} {l : List Lg} (hk : GoodW k) (hd : GoodW d) (hf : 0 ≤ f ∧ f ≤ 5761439) (ht : 0 ≤ t ∧ t ≤ 5761439) : hHd (wdL (joinS (hirHdP ⟨k, d, f, t, l⟩) ⟨#[32]⟩)) = some ⟨k, d, f, t, []⟩ ∧ wdB (joinS (hirHdP ⟨k, d, f, t, l⟩) ⟨#[32]⟩) = true ∧ (10 : UInt8) ∉ (joinS (hirHdP ⟨k, d, f, t, l⟩) ⟨#[32]⟩).data.toList := by
  have nf := num_back (v := f) (by omega)
  have nt := num_back (v := t) (by omega)
  obtain ⟨w1, w2, w3⟩ := line_wd (ws := hirHdP ⟨k, d, f, t, l⟩) (by simp [hirHdP]) fun y hy => by
    simp only [hirHdP, List.mem_cons, List.not_mem_nil, or_false] at hy
    rcases hy with rfl | rfl | rfl | rfl | rfl
    · exact hw_good.1
    · exact hk
    · exact hd
    · exact itoa_good _
    · exact itoa_good _
  refine ⟨?_, w2, w3⟩
  rw [w1]
  have hq : hHd [hireW, k, d, itoaS f, itoaS t] = some ⟨k, d, numV (itoaS f), numV (itoaS t), []⟩ := if_pos (by rw [show eqS hireW hireW = true by decide +kernel, List.all_cons, List.all_cons, nf.1, nt.1]; rfl)
  refine hq.trans ?_
  rw [nf.2, nt.2]
theorem run_legs : ∀ (l : List Lg) (h : Hr), (∀ g ∈ l, LgK g) → runL hStep (l.map legC) (some h) = some (some ⟨h.key, h.driver, h.fr, h.to_, h.legs ++ l⟩)
  | [], h, _ => by simp [runL]
  | g :: l, h, hk => by
    obtain ⟨h1, h2, _⟩ := leg_it (hk g (List.mem_cons_self ..))
    have hs : hStep (legC g) (some h) = (some (hPush h g), true) := hStep_yes (by rw [hNew_leg (by rw [h2]; rfl), h1]; rfl)
    rw [List.map_cons]
    unfold runL
    rw [hs, if_pos rfl]
    refine (run_legs l _ fun y hy => hk y (List.mem_cons_of_mem _ hy)).trans ?_
    unfold hPush
    simp
/-- A hire that is written is read as it was. -/
theorem hire_back {h : Hr} (h0 : hireE h = 0) : hrR (hirTx h h.legs) = (0, true, some h) := by
  obtain ⟨k, d, f, t, l⟩ := h
  obtain ⟨hk, hd, hf, ht, hl⟩ := hrK_of h0
  dsimp only at hk hd hf ht hl ⊢
  obtain ⟨i1, i2, i3⟩ := hd_it (l := l) hk hd hf ht
  have e : lnT (joinS (hirHdP ⟨k, d, f, t, l⟩) ⟨#[32]⟩ :: l.map legC) = hirTxL ⟨k, d, f, t, l⟩ l := by
    rw [lnT_cons, lnT_map fun x hx => (leg_it (hl x hx)).2.2.2]
    unfold hirTxL hirHd
    rw [ln_nl]; simp
  show hrR (mkB (hirTxL ⟨k, d, f, t, l⟩ l)) = _
  rw [← e]
  unfold hrR linesR
  refine lines_run _ _ _ _ _ (fun c hc => ?_) ?_ (by rw [mkB_sz]; omega)
  · rcases List.mem_cons.1 hc with rfl | hc
    · exact i3
    · obtain ⟨x, hx, rfl⟩ := List.mem_map.1 hc
      exact (leg_it (hl x hx)).2.2.1
  · have hs : hStep (joinS (hirHdP ⟨k, d, f, t, l⟩) ⟨#[32]⟩) none = (some ⟨k, d, f, t, []⟩, true) := hStep_yes (by rw [hNew_hd (by rw [i2]; rfl), i1])
    unfold runL
    rw [hs, if_pos rfl]
    exact (run_legs l ⟨k, d, f, t, []⟩ hl).trans rfl
theorem hr_back {h : Hr} (h0 : hireE h = 0) (hz : (hirTx h h.legs).size ≤ 200000) : hrE (hirTx h h.legs) = 0 ∧ hrH (hirTx h h.legs) = h := by
  have hR := hire_back h0
  have h1 := hr_right (t := hirTx h h.legs) (by omega) (by rw [hR]) (x := h) (by rw [hR]) h0
  exact ⟨h1.1, h1.2.2⟩
end Go.Proofs.YtempjmpfdniecaaGreatDoor
namespace Go.Proofs.YtempjmpfdniecaaGreatDoor
open Go.RowKit
def sumBy {α : Type} (f : α → Int) : List α → Int
  | [] => 0
  | x :: r => f x + sumBy f r
theorem sumBy_append {α : Type} (f : α → Int) : ∀ a b : List α, sumBy f (a ++ b) = sumBy f a + sumBy f b
  | [], b => by simp [sumBy]
  | x :: r, b => by rw [List.cons_append]; simp only [sumBy]; rw [sumBy_append f r b]; omega
theorem sumBy_take {α : Type} (f : α → Int) {l : List α} {k : Nat} {x : α} (h : l[k]? = some x) : sumBy f (l.take (k + 1)) = sumBy f (l.take k) + f x := by
  rw [List.take_add_one, h, sumBy_append]
  simp [sumBy]
theorem sumBy_bound {α : Type} {f : α → Int} {a b : Int} : ∀ {l : List α}, (∀ x ∈ l, a ≤ f x ∧ f x ≤ b) → a * l.length ≤ sumBy f l ∧ sumBy f l ≤ b * l.length
  | [], _ => by simp [sumBy]
  | x :: r, h => by
    have h1 := h x (List.mem_cons_self ..)
    have h2 := sumBy_bound (l := r) (fun y hy => h y (List.mem_cons_of_mem _ hy))
    simp only [sumBy, List.length_cons]
    have e1 : a * ((r.length + 1 : Nat) : Int) = a * (r.length : Int) + a := by rw [Int.natCast_add, Int.mul_add]; simp
    have e2 : b * ((r.length + 1 : Nat) : Int) = b * (r.length : Int) + b := by rw [Int.natCast_add, Int.mul_add]; simp
    omega
def LgNum (g : Lg) : Prop := (0 ≤ g.out.meter ∧ g.out.meter ≤ 999999) ∧ (0 ≤ g.inn.meter ∧ g.inn.meter ≤ 999999) ∧ (0 ≤ g.out.fuel ∧ g.out.fuel ≤ 8) ∧ (0 ≤ g.inn.fuel ∧ g.inn.fuel ≤ 8)
def kmOf (g : Lg) : Int := if g.inn.meter - g.out.meter < 0 then g.inn.meter - g.out.meter + 1000000 else g.inn.meter - g.out.meter
theorem kmOf_bound {g : Lg} (h : LgNum g) : 0 ≤ kmOf g ∧ kmOf g ≤ 1000000 := by
  unfold LgNum at h; unfold kmOf; split <;> omega
set_option maxRecDepth 100000 in
set_option maxHeartbeats 1000000 in
theorem km_any (key driver : ByteArray) (fr to_ : Int) (l : List Lg) (A : Option Addr) (n c : Nat) (w : World) (hl : SlT lgEnc 9 135 w A n l) (hnum : ∀ g ∈ l, LgNum g) (hn : n ≤ 1000) :
    Calls Tryz.prog 92 #[.agg #[.string key, .string driver, .int .i64 fr, .int .i64 to_, .slice A n c]] w (GotE w (sumBy kmOf l)) := by
  have hlen := hl.len
  have Hnum := Lib.hid hnum
  clear hnum
  go_enter Tryz.func92, Tryz.ntmps92
  go_wp2_with fail
  go_loopw [3, 10] (fun s i wr => ∃ k : Nat, k ≤ n ∧ i = .int .i64 k ∧ s = .int .i64 (sumBy kmOf (l.take k)) ∧ w.grownBy wr none) (fun _ i _ => n - (intOf i).toNat)
  case atStart => exact ⟨0, Nat.zero_le _, rfl, rfl, grow_alloc (World.grownBy.refl _ _) _⟩
  case round =>
    obtain ⟨k, hk, rfl, rfl, hgr⟩ := hrel
    by_cases hlt : k < n
    · have hlr := hl.grow0 hgr
      obtain ⟨b, off, rfl, hbl, hrg⟩ := hlr.get (by omega)
      obtain ⟨g, hg⟩ : ∃ g, l[k]? = some g := ⟨_, List.getElem?_eq_getElem (by omega)⟩
      have hs1 := sumBy_take kmOf hg
      have hb1 := sumBy_bound (l := l.take k) (f := kmOf) (fun x hx => kmOf_bound (Hnum.out x (List.mem_of_mem_take hx)))
      have hb2 : (l.take k).length = k := by simp; omega
      rw [hb2] at hb1
      obtain ⟨S, hS⟩ : ∃ S, S = sumBy kmOf (l.take k) := ⟨_, rfl⟩
      have hgn := Hnum.out g (List.mem_of_getElem? hg)
      have hkb := kmOf_bound hgn
      obtain ⟨veh, ⟨a1, s1, m1, f1⟩, ⟨a2, s2, m2, f2⟩⟩ := g
      have hr0 := hrg k _ hg
      have hr1 : wr.rangeAt b (off + k * 9) [.string veh, .int .i64 a1, .string s1, .int .i64 m1, .int .i64 f1, .int .i64 a2, .string s2, .int .i64 m2, .int .i64 f2] := hr0
      have hm1 : 0 ≤ m1 ∧ m1 ≤ 999999 := hgn.1
      have hm2 : 0 ≤ m2 ∧ m2 ≤ 999999 := hgn.2.1
      have hm10 := hm1.1
      have hm11 := hm1.2
      have hm20 := hm2.1
      have hm21 := hm2.2
      rw [← hS] at hs1 hb1 ⊢
      have hS0 : 0 ≤ S := by have := hb1.1; omega
      have hS1 : S ≤ 1000000 * k := hb1.2
      have Hs1 := Lib.hid hs1
      clear hr0 hrg hg hs1 hb1 hb2 hS hgn hkb hm1 hm2
      by_cases hneg : m2 - m1 < 0
      · have HK := Lib.hid (show sumBy kmOf (l.take (k + 1)) = S + (m2 - m1 + 1000000) by rw [Hs1.out]; unfold kmOf; rw [if_pos hneg])
        go_wp2_with (with_reducible refine wpList_load_rng rfl 135 (.tmp 12) rfl b (off + k * 9) rfl _ _ hr1 Tryz.underlying135 rfl 9 info_lg rfl ?_)
        go_roundw
        case rel => exact ⟨k + 1, by omega, by go_num, by rw [HK.out], grow_alloc hgr _⟩
        case measure => simp [intOf]; omega
      · have HK := Lib.hid (show sumBy kmOf (l.take (k + 1)) = S + (m2 - m1) by rw [Hs1.out]; unfold kmOf; rw [if_neg hneg])
        go_wp2_with (with_reducible refine wpList_load_rng rfl 135 (.tmp 12) rfl b (off + k * 9) rfl _ _ hr1 Tryz.underlying135 rfl 9 info_lg rfl ?_)
        go_roundw
        case rel => exact ⟨k + 1, by omega, by go_num, by rw [HK.out], grow_alloc hgr _⟩
        case measure => simp [intOf]; omega
    · go_wp2_with fail
      go_ret
      exact ⟨ret_int (by rw [List.take_of_length_le (by omega)]), hgr⟩
end Go.Proofs.YtempjmpfdniecaaGreatDoor
namespace Go.Proofs.YtempjmpfdniecaaGreatDoor
open Go.RowKit
theorem Blk.below {w w' : World} {g base : Nat} {t : TypeId} {cs : List Value} (h : Blk w g t cs) (hb : Below base w w') (hg : g < base) : Blk w' g t cs := (hb.block g hg).trans h
theorem SlT.below {α : Type} {enc : α → List Value} {k : Nat} {T : TypeId} {w w' : World} {A : Option Addr} {n : Nat} {l : List α} (h : SlT enc k T w A n l) (hb : Below w.heap.size w w') : SlT enc k T w' A n l := h.kept fun b hlt _ => hb.block b hlt
end Go.Proofs.YtempjmpfdniecaaGreatDoor
namespace Go.Proofs.YtempjmpfdniecaaGreatDoor
open Go.RowKit
theorem legs_all {fr : Int} {l : List Lg} (h : legsE fr l l.length = 0) : ∀ k g, l[k]? = some g → legE fr (prevOf l k) (decide (k + 1 = l.length)) g = 0 := by
  have hz : ∀ k, k ≤ l.length → legsE fr l (l.length - k) = 0 := by
    intro k
    induction k with
    | zero => intro _; exact h
    | succ k ih =>
      intro hk
      have h0 := ih (by omega)
      obtain ⟨g, hg⟩ : ∃ g, l[k]? = some g := ⟨_, List.getElem?_eq_getElem (by omega)⟩
      rw [legs_at hg] at h0
      by_cases he : legE fr (prevOf l k) (decide (k + 1 = l.length)) g = 0
      · rw [if_pos he] at h0; exact h0
      · rw [if_neg he] at h0; exact absurd h0 he
  intro k g hg
  have hk := (List.getElem?_eq_some_iff.1 hg).1
  have h0 := hz k (by omega)
  rw [legs_at hg] at h0
  by_cases he : legE fr (prevOf l k) (decide (k + 1 = l.length)) g = 0
  · exact he
  · rw [if_neg he] at h0; exact h0
theorem firstE_all : ∀ {l : List Int}, firstE l = 0 → ∀ e ∈ l, e = 0
  | [], _, _, h => by cases h
  | x :: r, h, e, he => by
    simp only [firstE] at h
    by_cases hx : x = 0
    · rw [if_pos hx] at h
      rcases List.mem_cons.1 he with rfl | he
      · exact hx
      · exact firstE_all h e he
    · rw [if_neg hx] at h; exact absurd h hx
theorem hireE_ok {key driver : ByteArray} {fr to_ : Int} {l : List Lg} (h : hireE ⟨key, driver, fr, to_, l⟩ = 0) : timeE fr to_ = 0 ∧ 0 < l.length ∧ l.length ≤ 20 ∧ legsE fr l l.length = 0 := by
  have hl := hireE_legs h
  have hl1 : 0 < l.length := hl.1
  have hl2 : l.length ≤ 20 := hl.2
  have ha := firstE_all h
  have h3 := ha _ (List.mem_cons_of_mem _ (List.mem_cons_of_mem _ (List.mem_singleton.2 rfl)))
  refine ⟨ha _ (List.mem_cons_of_mem _ (List.mem_cons_self ..)), hl1, hl2, ?_⟩
  rw [if_neg (show ¬ l.length = 0 by omega), if_neg (show ¬ 20 < l.length by omega)] at h3
  exact h3
theorem readingE_ok {r : Rd} (h : readingE r = 0) : (0 ≤ r.at_ ∧ r.at_ ≤ 5761439) ∧ (0 ≤ r.meter ∧ r.meter ≤ 999999) ∧ (0 ≤ r.fuel ∧ r.fuel ≤ 8) := by
  have ha := firstE_all h
  have h1 := momentE_ok (ha _ (List.mem_cons_self ..))
  have h3 := ha _ (List.mem_cons_of_mem _ (List.mem_cons_of_mem _ (List.mem_singleton.2 rfl)))
  unfold whenE at h3
  cases hm : inB r.meter 0 999999
  · rw [hm] at h3; cases h3
  · cases hf : inB r.fuel 0 8
    · rw [hm, hf] at h3; cases h3
    · exact ⟨h1, inB_iff.1 hm, inB_iff.1 hf⟩
/-- The numbers of a right hire that has ended. -/
theorem closed_num {key driver : ByteArray} {fr to_ : Int} {l : List Lg} (h : hireE ⟨key, driver, fr, to_, l⟩ = 0) (ho : openB l = false) : ∀ g ∈ l, LgNum g ∧ 0 ≤ g.inn.at_ ∧ g.inn.at_ ≤ 5761439 := by
  have hk := hireE_ok h
  have hall := legs_all hk.2.2.2
  intro g hg
  obtain ⟨k, hkl, hk2⟩ := List.getElem_of_mem hg
  have hgk : l[k]? = some g := by rw [List.getElem?_eq_getElem hkl, hk2]
  have hle := firstE_all (hall k g hgk)
  have h2 := readingE_ok (hle _ (List.mem_cons_of_mem _ (List.mem_cons_self ..)))
  have h4 := hle _ (List.mem_cons_of_mem _ (List.mem_cons_of_mem _ (List.mem_cons_of_mem _ (List.mem_singleton.2 rfl))))
  unfold legInE at h4
  by_cases hin : g.inn.at_ = -1
  · rw [if_pos hin] at h4
    have h5 := firstE_all h4 _ (List.mem_cons_of_mem _ (List.mem_singleton.2 rfl))
    exfalso
    by_cases hlast : k + 1 = l.length
    · have : l[l.length - 1]? = some g := by rw [show l.length - 1 = k by omega]; exact hgk
      unfold openB at ho
      rw [this] at ho
      simp [hin] at ho
    · simp [hlast, whenE] at h5
  · rw [if_neg hin] at h4
    have h6 := readingE_ok (firstE_all h4 _ (List.mem_cons_self ..))
    exact ⟨⟨h2.2.1, h6.2.1, h2.2.2, h6.2.2⟩, h6.1.1, h6.1.2⟩
end Go.Proofs.YtempjmpfdniecaaGreatDoor
