/- Several texts as one: Sn Ix Sr Gg Gy Srt Clr Cq Gz Rs Rn Wn Wo -/
import Derived.Test.YtjecbkgjabnmoaaGreatDoorPb
import Derived.Test.YtjecbkgjabnmoaaGreatDoorPa
import Derived.OneCell
import Derived.Laws.Concat
set_option maxRecDepth 100000
set_option maxHeartbeats 4000000
namespace Go.Proofs.YtjecbkgjabnmoaaGreatDoor
open Go.RowKit
theorem ar138 : arrSz Tryz.prog 138 = some (7, 2) := by kernel_rfl
def Bd (x : Int) : Prop := -3000 ≤ x ∧ x ≤ 3000
def StB (s : St) : Prop := s.hs.length = 14 ∧ s.key.size ≤ 10 ∧ ∀ h ∈ s.hs, -3000 ≤ h ∧ h ≤ 3000
theorem stB_ok {s : St} (h : StB s) : StOk s := ⟨h.1, by have := h.2.1; omega, fun x hx => by have := h.2.2 x hx; omega⟩
theorem bd_all {h0 h1 h2 h3 h4 h5 h6 h7 h8 h9 h10 h11 h12 h13 : Int} (h : Bd h0 ∧ Bd h1 ∧ Bd h2 ∧ Bd h3 ∧ Bd h4 ∧ Bd h5 ∧ Bd h6 ∧ Bd h7 ∧ Bd h8 ∧ Bd h9 ∧ Bd h10 ∧ Bd h11 ∧ Bd h12 ∧ Bd h13) : ∀ x ∈ [h0, h1, h2, h3, h4, h5, h6, h7, h8, h9, h10, h11, h12, h13], -3000 ≤ x ∧ x ≤ 3000 := fun x hx => by
  simp only [List.mem_cons, List.not_mem_nil, or_false] at hx
  obtain ⟨b0, b1, b2, b3, b4, b5, b6, b7, b8, b9, b10, b11, b12, b13⟩ := h
  rcases hx with rfl | rfl | rfl | rfl | rfl | rfl | rfl | rfl | rfl | rfl | rfl | rfl | rfl | rfl <;> assumption
theorem stB_snoc {l : List St} {x : St} (h : ∀ y ∈ l, StB y) (hx : StB x) : ∀ y ∈ l ++ [x], StB y := fun y hy => by
  rcases List.mem_append.1 hy with hy | hy
  · exact h y hy
  · rw [List.mem_singleton.1 hy]; exact hx
theorem gstations_any (w : World) (B sb m : Nat) (hS : Strm 25 w B sb m) (hm : m ≤ 100000000) :
  Calls Tryz.prog 108 #[.pointer (some ⟨sb, 0, none⟩)] w (fun e w' => ∃ (A : Option Addr) (n c : Nat) (l : List St), e = .returned (.slice A n c) ∧ w'.ownsRow w.heap.size 140 15 (.slice A n c) n (l.flatMap stEnc) ∧ l.length = n ∧ (∀ x ∈ l, StB x) ∧ n ≤ 3 ∧ Strm 25 w' B sb (m + 100) ∧ w.grownBy w' (some sb)) := by
 refine gw_enter ⟨47, w, (some sb), []⟩ Tryz.func108 rfl Tryz.ntmps108 rfl (memS (X := []) hS allF_nil allL_nil) ?_
 refine sr_ ?_
 refine wl_nilOwn 140 15 ?_
 refine sg_ rfl (nn_ (sr_ (sg_ rfl (nn_ (gw_seq (sr_ ?_))))))
 refine wl_buildSlice (e := 9) (cs := [.string ⟨#[115, 49]⟩, .string ⟨#[115, 50]⟩, .string ⟨#[115, 51]⟩]) rfl (by kernel_rfl) rfl fun g1 => ?_
 refine wl_ov (ov_len es81 rfl) rfl ?_
 refine wl_set 10 (v' := .int .i64 3) rfl rfl ?_
 refine mv_ rfl (nn_ (gw_block ?_))
 refine gw_loop (γ := Nat × Nat × Value × List St × List Value) (fun g => g.1 ≤ 3 ∧ g.2.1 ≤ g.1 ∧ g.2.2.2.1.length = g.2.1 ∧ (∀ x ∈ g.2.2.2.1, StB x) ∧ g.2.2.2.2 = g.2.2.2.1.flatMap stEnc) (fun g => [(0, .pointer (some ⟨sb, 0, none⟩)), (2, .slice none 0 0), (3, g.2.2.1), (9, .slice (some ⟨g1, 0, none⟩) 3 3), (10, .int .i64 3), (11, .int .i64 ((g.1 : Nat) : Int))]) (fun g => fun w => Strm 25 w B sb (m + 30 * g.1)) (fun g => [(g1, 9, [.string ⟨#[115, 49]⟩, .string ⟨#[115, 50]⟩, .string ⟨#[115, 51]⟩])]) (fun g => [⟨g.2.2.1, 140, 15, g.2.1, g.2.2.2.2⟩]) (fun g => []) (fun g => 3 - g.1) (0, 0, .slice none 0 0, [], []) ⟨Nat.zero_le _, Nat.le_refl _, rfl, (fun _ h => by cases h), rfl⟩ ⟨rfl, rfl, rfl, rfl, rfl, rfl, trivial⟩ (fun _ hm => (hm.more rfl (by first | omega | (dsimp only; omega))).pick [0] [0] [] rfl rfl) ?_
 rintro ⟨i, k, v, l, xs⟩ hinv
 replace hinv : i ≤ 3 ∧ k ≤ i ∧ l.length = k ∧ (∀ x ∈ l, StB x) ∧ xs = l.flatMap stEnc := hinv
 dsimp only
 refine sr_ ?_
 obtain ⟨hi0, hki, hl, hok, rfl⟩ := hinv
 refine wl_ov (ov_lss rfl rfl) rfl (nn_ (gw_seq ?_))
 refine gw_cond rfl (fun hh => ?_) (fun hh => ?_)
 ·have hi : ((i : Nat) : Int) < 3 := by simpa using hh
  clear hh
  refine gw_skip (nx_then (gw_seq (gw_block (sr_ ?_))))
  obtain ⟨nm, hx⟩ : ∃ x, ([⟨#[115, 49]⟩, ⟨#[115, 50]⟩, ⟨#[115, 51]⟩] : List ByteArray)[i]? = some x := ⟨_, List.getElem?_eq_getElem (by simp; omega)⟩
  have hnm : nm.size ≤ 100 := mem_sz (List.mem_of_getElem? hx) (by decide)
  have hnm2 : nm.size ≤ 10 := by
   have := List.mem_of_getElem? hx
   simp only [List.mem_cons, List.not_mem_nil, or_false] at this
   rcases this with rfl | rfl | rfl <;> decide
  refine wl_ov (ov_index (j := i) es81 rfl rfl (by omega)) rfl ?_
  refine wl_ov (ov_elem1 (k := 0) (v := .string nm) sc9 rfl (fun _ hm => (SlT.ofBlk (l := [⟨#[115, 49]⟩, ⟨#[115, 50]⟩, ⟨#[115, 51]⟩]) sg_len (hm.blkI 0 rfl))) hx rfl rfl) rfl ?_
  refine sg_ rfl (nn_ (gw_seq (sr_ (mv_ rfl ?_))))
  refine wl_got (γ := Bool) (val := fun v => .bool v) (φ := fun v => True) rfl cb53 rfl rfl rfl rfl (fun wx hm => ((flip_any _ wx B sb _ hm.k (by omega) (by omega) (by omega)).mono fun _ _ ⟨v, he, hS, hg⟩ => ⟨v, trivial, he, hS, hg⟩)) fun f2 _ => ?_
  refine nn_ ?_
  refine gw_cond rfl (fun hh => ?_) (fun hh => ?_)
  ·have hf : f2 = true := by simpa using hh
   clear hh
   refine gw_exit ?_
   refine nx_then_exit ?_
   refine nx_blk_here ?_
   refine nx_then (gw_region (ad_ rfl rfl (mv_ rfl (wl_nil ?_))))
   exact nx_round (i + 1, k, v, l, l.flatMap stEnc) ⟨by dsimp only; omega, by dsimp only; omega, hl, hok, rfl⟩ (by dsimp only; omega) ⟨rfl, rfl, rfl, rfl, rfl, (some_int (by omega)), trivial⟩ (fun _ hm => (hm.more rfl (by first | omega | (dsimp only; omega))).pick [0] [0] [] rfl rfl)
  have hf : f2 = false := by simpa using hh
  clear hh
  refine gw_skip (nx_then (sr_ (mv_ rfl ?_)))
  refine wl_ov (ov_build (cs := [.string nm, .int .i64 0, .int .i64 0, .int .i64 0, .int .i64 0, .int .i64 0, .int .i64 0, .int .i64 0, .int .i64 0, .int .i64 0, .int .i64 0, .int .i64 0, .int .i64 0, .int .i64 0, .int .i64 0]) rfl (by kernel_rfl)) rfl ?_
  refine wl_alloc zc140 rfl fun g3 => ?_
  refine wl_stores (cs' := [.string nm, .int .i64 0, .int .i64 0, .int .i64 0, .int .i64 0, .int .i64 0, .int .i64 0, .int .i64 0, .int .i64 0, .int .i64 0, .int .i64 0, .int .i64 0, .int .i64 0, .int .i64 0, .int .i64 0]) 0 rz140 rfl rfl rfl rfl rfl rfl rfl rfl ?_
  refine nn_ (gw_seq (sr_ (mv_ rfl (nn_ (gw_block ?_)))))
  refine gw_loop (γ := Nat × Int × Int × Int × Int × Int × Int × Int × Int × Int × Int × Int × Int × Int × Int) (fun g => g.1 ≤ 7 ∧ Bd g.2.1 ∧ Bd g.2.2.1 ∧ Bd g.2.2.2.1 ∧ Bd g.2.2.2.2.1 ∧ Bd g.2.2.2.2.2.1 ∧ Bd g.2.2.2.2.2.2.1 ∧ Bd g.2.2.2.2.2.2.2.1 ∧ Bd g.2.2.2.2.2.2.2.2.1 ∧ Bd g.2.2.2.2.2.2.2.2.2.1 ∧ Bd g.2.2.2.2.2.2.2.2.2.2.1 ∧ Bd g.2.2.2.2.2.2.2.2.2.2.2.1 ∧ Bd g.2.2.2.2.2.2.2.2.2.2.2.2.1 ∧ Bd g.2.2.2.2.2.2.2.2.2.2.2.2.2.1 ∧ Bd g.2.2.2.2.2.2.2.2.2.2.2.2.2.2) (fun g => [(0, .pointer (some ⟨sb, 0, none⟩)), (2, .slice none 0 0), (3, v), (6, .pointer (some ⟨g3, 0, none⟩)), (9, .slice (some ⟨g1, 0, none⟩) 3 3), (10, .int .i64 3), (11, .int .i64 ((i : Nat) : Int)), (19, .int .i64 ((g.1 : Nat) : Int))]) (fun g => fun w => Strm 25 w B sb (m + 30 * i + 1 + 3 * g.1)) (fun g => [(g3, 140, [.string nm, .int .i64 g.2.1, .int .i64 g.2.2.1, .int .i64 g.2.2.2.1, .int .i64 g.2.2.2.2.1, .int .i64 g.2.2.2.2.2.1, .int .i64 g.2.2.2.2.2.2.1, .int .i64 g.2.2.2.2.2.2.2.1, .int .i64 g.2.2.2.2.2.2.2.2.1, .int .i64 g.2.2.2.2.2.2.2.2.2.1, .int .i64 g.2.2.2.2.2.2.2.2.2.2.1, .int .i64 g.2.2.2.2.2.2.2.2.2.2.2.1, .int .i64 g.2.2.2.2.2.2.2.2.2.2.2.2.1, .int .i64 g.2.2.2.2.2.2.2.2.2.2.2.2.2.1, .int .i64 g.2.2.2.2.2.2.2.2.2.2.2.2.2.2]), (g1, 9, [.string ⟨#[115, 49]⟩, .string ⟨#[115, 50]⟩, .string ⟨#[115, 51]⟩])]) (fun g => [⟨v, 140, 15, k, l.flatMap stEnc⟩]) (fun g => []) (fun g => 7 - g.1) (0, 0, 0, 0, 0, 0, 0, 0, 0, 0, 0, 0, 0, 0, 0) ⟨Nat.zero_le _, (⟨by decide, by decide⟩ : Bd 0), (⟨by decide, by decide⟩ : Bd 0), (⟨by decide, by decide⟩ : Bd 0), (⟨by decide, by decide⟩ : Bd 0), (⟨by decide, by decide⟩ : Bd 0), (⟨by decide, by decide⟩ : Bd 0), (⟨by decide, by decide⟩ : Bd 0), (⟨by decide, by decide⟩ : Bd 0), (⟨by decide, by decide⟩ : Bd 0), (⟨by decide, by decide⟩ : Bd 0), (⟨by decide, by decide⟩ : Bd 0), (⟨by decide, by decide⟩ : Bd 0), (⟨by decide, by decide⟩ : Bd 0), (⟨by decide, by decide⟩ : Bd 0)⟩ ⟨rfl, rfl, rfl, rfl, rfl, rfl, rfl, rfl, trivial⟩ (fun _ hm => (hm.more rfl (by first | omega | (dsimp only; omega))).pick [0, 1] [0] [] rfl rfl) ?_
  rintro ⟨j, h0, h1, h2, h3, h4, h5, h6, h7, h8, h9, h10, h11, h12, h13⟩ hinv
  replace hinv : j ≤ 7 ∧ Bd h0 ∧ Bd h1 ∧ Bd h2 ∧ Bd h3 ∧ Bd h4 ∧ Bd h5 ∧ Bd h6 ∧ Bd h7 ∧ Bd h8 ∧ Bd h9 ∧ Bd h10 ∧ Bd h11 ∧ Bd h12 ∧ Bd h13 := hinv
  dsimp only
  refine sr_ ?_
  obtain ⟨hj0, b0, b1, b2, b3, b4, b5, b6, b7, b8, b9, b10, b11, b12, b13⟩ := hinv
  refine wl_ov (ov_lss rfl rfl) rfl (nn_ (gw_seq ?_))
  refine gw_cond rfl (fun hh => ?_) (fun hh => ?_)
  ·have hj : ((j : Nat) : Int) < 7 := by simpa using hh
   clear hh
   refine gw_skip (nx_then (gw_seq (gw_block (sr_ ?_))))
   have hjc : j = 0 ∨ j = 1 ∨ j = 2 ∨ j = 3 ∨ j = 4 ∨ j = 5 ∨ j = 6 := by omega
   rcases hjc with hjc | hjc | hjc | hjc | hjc | hjc | hjc
   ·subst hjc
    refine mv_ rfl ?_
    refine wl_set 21 (v' := .int .i64 0) rfl rfl ?_
    refine sg_ rfl (nn_ (sr_ (mv_ rfl ?_)))
    refine wl_buildSlice (e := 3) (cs := [.int .i64 0, .int .i64 0, .int .i64 480, .int .i64 600, .int .i64 1440]) rfl (by kernel_rfl) rfl fun g4 => ?_
    refine wl_got (γ := Int) (val := fun v => .int .i64 v) (φ := fun v => v ∈ ([0, 0, 480, 600, 1440] : List Int)) rfl cb14 rfl rfl rfl rfl (fun wx hm => (pick_any [0, 0, 480, 600, 1440] _ _ _ wx B sb _ hm.k (by omega) (by simp) (by simp) (hm.blkI 0 rfl) (hm.neRow 0 rfl rfl))) fun v5 hv5 => ?_
    have bv5 : 0 ≤ v5 ∧ v5 ≤ 1440 := mem_rng hv5 (by decide)
    have bv50 := bv5.1
    have bv51 := bv5.2
    clear bv5
    refine sg_ rfl (nn_ (sr_ (mv_ rfl (mv_ rfl (mv_ rfl (mv_ rfl ?_))))))
    refine wl_got (γ := Int) (val := fun v => .int .i64 v) (φ := fun v => v5 ≤ v ∧ (v ≤ 1440 ∨ v = v5)) rfl cb28 rfl rfl rfl rfl (fun wx hm => (range_any _ _ wx B sb _ hm.k (by omega) (by omega) (by omega) (by omega) (by omega))) fun v6 hv6 => ?_
    refine wl_ov (ov_build (cs := [.int .i64 v5, .int .i64 v6]) rfl (by kernel_rfl)) rfl ?_
    refine fd_ fo140_1 rfl rfl ?_
    refine wl_ov (ov_indexP (j := 0) ar138 rfl rfl (by decide) rfl) rfl ?_
    refine wl_stores (cs' := [.string nm, .int .i64 v5, .int .i64 v6, .int .i64 h2, .int .i64 h3, .int .i64 h4, .int .i64 h5, .int .i64 h6, .int .i64 h7, .int .i64 h8, .int .i64 h9, .int .i64 h10, .int .i64 h11, .int .i64 h12, .int .i64 h13]) 1 rz53 rfl rfl rfl rfl rfl rfl rfl rfl ?_
    refine nn_ (sr_ (mv_ rfl ?_))
    refine wl_got (γ := Bool) (val := fun v => .bool v) (φ := fun v => True) rfl cb53 rfl rfl rfl rfl (fun wx hm => ((flip_any _ wx B sb _ hm.k (by omega) (by omega) (by omega)).mono fun _ _ ⟨v, he, hS, hg⟩ => ⟨v, trivial, he, hS, hg⟩)) fun f7 _ => ?_
    refine nn_ ?_
    refine gw_cond rfl (fun hh => ?_) (fun hh => ?_)
    ·have hf4 : f7 = true := by simpa using hh
     clear hh
     refine gw_region (mv_ rfl (mv_ rfl (fd_ fo140_1 rfl rfl ?_)))
     refine wl_ov (ov_indexP (j := 0) ar138 rfl rfl (by decide) rfl) rfl ?_
     refine fd_ fo53_1 rfl rfl ?_
     refine wl_store 1 sc3 rfl rfl rfl rfl rfl rfl ?_
     refine wl_nil (nx_blk_nrm (nx_then (gw_region (ad_ rfl rfl ?_))))
     refine wl_set 40 (v' := .int .i64 1) rfl rfl ?_
     refine mv_ rfl (wl_nil ?_)
     exact nx_round (1, v5, v5, h2, h3, h4, h5, h6, h7, h8, h9, h10, h11, h12, h13) ⟨by dsimp only; omega, (by unfold Bd; dsimp only; omega), (by unfold Bd; dsimp only; omega), b2, b3, b4, b5, b6, b7, b8, b9, b10, b11, b12, b13⟩ (by dsimp only; omega) ⟨rfl, rfl, rfl, rfl, rfl, rfl, rfl, rfl, trivial⟩ (fun _ hm => (hm.more rfl (by first | omega | (dsimp only; omega))).pick [1, 2] [0] [] rfl rfl)
    have hf4 : f7 = false := by simpa using hh
    clear hh
    refine gw_skip (nx_blk_nrm (nx_then (gw_region (ad_ rfl rfl ?_))))
    refine wl_set 40 (v' := .int .i64 1) rfl rfl ?_
    refine mv_ rfl (wl_nil ?_)
    exact nx_round (1, v5, v6, h2, h3, h4, h5, h6, h7, h8, h9, h10, h11, h12, h13) ⟨by dsimp only; omega, (by unfold Bd; dsimp only; omega), (by unfold Bd; dsimp only; omega), b2, b3, b4, b5, b6, b7, b8, b9, b10, b11, b12, b13⟩ (by dsimp only; omega) ⟨rfl, rfl, rfl, rfl, rfl, rfl, rfl, rfl, trivial⟩ (fun _ hm => (hm.more rfl (by first | omega | (dsimp only; omega))).pick [1, 2] [0] [] rfl rfl)
   ·subst hjc
    refine mv_ rfl ?_
    refine wl_set 21 (v' := .int .i64 1) rfl rfl ?_
    refine sg_ rfl (nn_ (sr_ (mv_ rfl ?_)))
    refine wl_buildSlice (e := 3) (cs := [.int .i64 0, .int .i64 0, .int .i64 480, .int .i64 600, .int .i64 1440]) rfl (by kernel_rfl) rfl fun g8 => ?_
    refine wl_got (γ := Int) (val := fun v => .int .i64 v) (φ := fun v => v ∈ ([0, 0, 480, 600, 1440] : List Int)) rfl cb14 rfl rfl rfl rfl (fun wx hm => (pick_any [0, 0, 480, 600, 1440] _ _ _ wx B sb _ hm.k (by omega) (by simp) (by simp) (hm.blkI 0 rfl) (hm.neRow 0 rfl rfl))) fun v9 hv9 => ?_
    have bv9 : 0 ≤ v9 ∧ v9 ≤ 1440 := mem_rng hv9 (by decide)
    have bv90 := bv9.1
    have bv91 := bv9.2
    clear bv9
    refine sg_ rfl (nn_ (sr_ (mv_ rfl (mv_ rfl (mv_ rfl (mv_ rfl ?_))))))
    refine wl_got (γ := Int) (val := fun v => .int .i64 v) (φ := fun v => v9 ≤ v ∧ (v ≤ 1440 ∨ v = v9)) rfl cb28 rfl rfl rfl rfl (fun wx hm => (range_any _ _ wx B sb _ hm.k (by omega) (by omega) (by omega) (by omega) (by omega))) fun v10 hv10 => ?_
    refine wl_ov (ov_build (cs := [.int .i64 v9, .int .i64 v10]) rfl (by kernel_rfl)) rfl ?_
    refine fd_ fo140_1 rfl rfl ?_
    refine wl_ov (ov_indexP (j := 1) ar138 rfl rfl (by decide) rfl) rfl ?_
    refine wl_stores (cs' := [.string nm, .int .i64 h0, .int .i64 h1, .int .i64 v9, .int .i64 v10, .int .i64 h4, .int .i64 h5, .int .i64 h6, .int .i64 h7, .int .i64 h8, .int .i64 h9, .int .i64 h10, .int .i64 h11, .int .i64 h12, .int .i64 h13]) 1 rz53 rfl rfl rfl rfl rfl rfl rfl rfl ?_
    refine nn_ (sr_ (mv_ rfl ?_))
    refine wl_got (γ := Bool) (val := fun v => .bool v) (φ := fun v => True) rfl cb53 rfl rfl rfl rfl (fun wx hm => ((flip_any _ wx B sb _ hm.k (by omega) (by omega) (by omega)).mono fun _ _ ⟨v, he, hS, hg⟩ => ⟨v, trivial, he, hS, hg⟩)) fun f11 _ => ?_
    refine nn_ ?_
    refine gw_cond rfl (fun hh => ?_) (fun hh => ?_)
    ·have hf4 : f11 = true := by simpa using hh
     clear hh
     refine gw_region (mv_ rfl (mv_ rfl (fd_ fo140_1 rfl rfl ?_)))
     refine wl_ov (ov_indexP (j := 1) ar138 rfl rfl (by decide) rfl) rfl ?_
     refine fd_ fo53_1 rfl rfl ?_
     refine wl_store 1 sc3 rfl rfl rfl rfl rfl rfl ?_
     refine wl_nil (nx_blk_nrm (nx_then (gw_region (ad_ rfl rfl ?_))))
     refine wl_set 40 (v' := .int .i64 2) rfl rfl ?_
     refine mv_ rfl (wl_nil ?_)
     exact nx_round (2, h0, h1, v9, v9, h4, h5, h6, h7, h8, h9, h10, h11, h12, h13) ⟨by dsimp only; omega, b0, b1, (by unfold Bd; dsimp only; omega), (by unfold Bd; dsimp only; omega), b4, b5, b6, b7, b8, b9, b10, b11, b12, b13⟩ (by dsimp only; omega) ⟨rfl, rfl, rfl, rfl, rfl, rfl, rfl, rfl, trivial⟩ (fun _ hm => (hm.more rfl (by first | omega | (dsimp only; omega))).pick [1, 2] [0] [] rfl rfl)
    have hf4 : f11 = false := by simpa using hh
    clear hh
    refine gw_skip (nx_blk_nrm (nx_then (gw_region (ad_ rfl rfl ?_))))
    refine wl_set 40 (v' := .int .i64 2) rfl rfl ?_
    refine mv_ rfl (wl_nil ?_)
    exact nx_round (2, h0, h1, v9, v10, h4, h5, h6, h7, h8, h9, h10, h11, h12, h13) ⟨by dsimp only; omega, b0, b1, (by unfold Bd; dsimp only; omega), (by unfold Bd; dsimp only; omega), b4, b5, b6, b7, b8, b9, b10, b11, b12, b13⟩ (by dsimp only; omega) ⟨rfl, rfl, rfl, rfl, rfl, rfl, rfl, rfl, trivial⟩ (fun _ hm => (hm.more rfl (by first | omega | (dsimp only; omega))).pick [1, 2] [0] [] rfl rfl)
   ·subst hjc
    refine mv_ rfl ?_
    refine wl_set 21 (v' := .int .i64 2) rfl rfl ?_
    refine sg_ rfl (nn_ (sr_ (mv_ rfl ?_)))
    refine wl_buildSlice (e := 3) (cs := [.int .i64 0, .int .i64 0, .int .i64 480, .int .i64 600, .int .i64 1440]) rfl (by kernel_rfl) rfl fun g12 => ?_
    refine wl_got (γ := Int) (val := fun v => .int .i64 v) (φ := fun v => v ∈ ([0, 0, 480, 600, 1440] : List Int)) rfl cb14 rfl rfl rfl rfl (fun wx hm => (pick_any [0, 0, 480, 600, 1440] _ _ _ wx B sb _ hm.k (by omega) (by simp) (by simp) (hm.blkI 0 rfl) (hm.neRow 0 rfl rfl))) fun v13 hv13 => ?_
    have bv13 : 0 ≤ v13 ∧ v13 ≤ 1440 := mem_rng hv13 (by decide)
    have bv130 := bv13.1
    have bv131 := bv13.2
    clear bv13
    refine sg_ rfl (nn_ (sr_ (mv_ rfl (mv_ rfl (mv_ rfl (mv_ rfl ?_))))))
    refine wl_got (γ := Int) (val := fun v => .int .i64 v) (φ := fun v => v13 ≤ v ∧ (v ≤ 1440 ∨ v = v13)) rfl cb28 rfl rfl rfl rfl (fun wx hm => (range_any _ _ wx B sb _ hm.k (by omega) (by omega) (by omega) (by omega) (by omega))) fun v14 hv14 => ?_
    refine wl_ov (ov_build (cs := [.int .i64 v13, .int .i64 v14]) rfl (by kernel_rfl)) rfl ?_
    refine fd_ fo140_1 rfl rfl ?_
    refine wl_ov (ov_indexP (j := 2) ar138 rfl rfl (by decide) rfl) rfl ?_
    refine wl_stores (cs' := [.string nm, .int .i64 h0, .int .i64 h1, .int .i64 h2, .int .i64 h3, .int .i64 v13, .int .i64 v14, .int .i64 h6, .int .i64 h7, .int .i64 h8, .int .i64 h9, .int .i64 h10, .int .i64 h11, .int .i64 h12, .int .i64 h13]) 1 rz53 rfl rfl rfl rfl rfl rfl rfl rfl ?_
    refine nn_ (sr_ (mv_ rfl ?_))
    refine wl_got (γ := Bool) (val := fun v => .bool v) (φ := fun v => True) rfl cb53 rfl rfl rfl rfl (fun wx hm => ((flip_any _ wx B sb _ hm.k (by omega) (by omega) (by omega)).mono fun _ _ ⟨v, he, hS, hg⟩ => ⟨v, trivial, he, hS, hg⟩)) fun f15 _ => ?_
    refine nn_ ?_
    refine gw_cond rfl (fun hh => ?_) (fun hh => ?_)
    ·have hf4 : f15 = true := by simpa using hh
     clear hh
     refine gw_region (mv_ rfl (mv_ rfl (fd_ fo140_1 rfl rfl ?_)))
     refine wl_ov (ov_indexP (j := 2) ar138 rfl rfl (by decide) rfl) rfl ?_
     refine fd_ fo53_1 rfl rfl ?_
     refine wl_store 1 sc3 rfl rfl rfl rfl rfl rfl ?_
     refine wl_nil (nx_blk_nrm (nx_then (gw_region (ad_ rfl rfl ?_))))
     refine wl_set 40 (v' := .int .i64 3) rfl rfl ?_
     refine mv_ rfl (wl_nil ?_)
     exact nx_round (3, h0, h1, h2, h3, v13, v13, h6, h7, h8, h9, h10, h11, h12, h13) ⟨by dsimp only; omega, b0, b1, b2, b3, (by unfold Bd; dsimp only; omega), (by unfold Bd; dsimp only; omega), b6, b7, b8, b9, b10, b11, b12, b13⟩ (by dsimp only; omega) ⟨rfl, rfl, rfl, rfl, rfl, rfl, rfl, rfl, trivial⟩ (fun _ hm => (hm.more rfl (by first | omega | (dsimp only; omega))).pick [1, 2] [0] [] rfl rfl)
    have hf4 : f15 = false := by simpa using hh
    clear hh
    refine gw_skip (nx_blk_nrm (nx_then (gw_region (ad_ rfl rfl ?_))))
    refine wl_set 40 (v' := .int .i64 3) rfl rfl ?_
    refine mv_ rfl (wl_nil ?_)
    exact nx_round (3, h0, h1, h2, h3, v13, v14, h6, h7, h8, h9, h10, h11, h12, h13) ⟨by dsimp only; omega, b0, b1, b2, b3, (by unfold Bd; dsimp only; omega), (by unfold Bd; dsimp only; omega), b6, b7, b8, b9, b10, b11, b12, b13⟩ (by dsimp only; omega) ⟨rfl, rfl, rfl, rfl, rfl, rfl, rfl, rfl, trivial⟩ (fun _ hm => (hm.more rfl (by first | omega | (dsimp only; omega))).pick [1, 2] [0] [] rfl rfl)
   ·subst hjc
    refine mv_ rfl ?_
    refine wl_set 21 (v' := .int .i64 3) rfl rfl ?_
    refine sg_ rfl (nn_ (sr_ (mv_ rfl ?_)))
    refine wl_buildSlice (e := 3) (cs := [.int .i64 0, .int .i64 0, .int .i64 480, .int .i64 600, .int .i64 1440]) rfl (by kernel_rfl) rfl fun g16 => ?_
    refine wl_got (γ := Int) (val := fun v => .int .i64 v) (φ := fun v => v ∈ ([0, 0, 480, 600, 1440] : List Int)) rfl cb14 rfl rfl rfl rfl (fun wx hm => (pick_any [0, 0, 480, 600, 1440] _ _ _ wx B sb _ hm.k (by omega) (by simp) (by simp) (hm.blkI 0 rfl) (hm.neRow 0 rfl rfl))) fun v17 hv17 => ?_
    have bv17 : 0 ≤ v17 ∧ v17 ≤ 1440 := mem_rng hv17 (by decide)
    have bv170 := bv17.1
    have bv171 := bv17.2
    clear bv17
    refine sg_ rfl (nn_ (sr_ (mv_ rfl (mv_ rfl (mv_ rfl (mv_ rfl ?_))))))
    refine wl_got (γ := Int) (val := fun v => .int .i64 v) (φ := fun v => v17 ≤ v ∧ (v ≤ 1440 ∨ v = v17)) rfl cb28 rfl rfl rfl rfl (fun wx hm => (range_any _ _ wx B sb _ hm.k (by omega) (by omega) (by omega) (by omega) (by omega))) fun v18 hv18 => ?_
    refine wl_ov (ov_build (cs := [.int .i64 v17, .int .i64 v18]) rfl (by kernel_rfl)) rfl ?_
    refine fd_ fo140_1 rfl rfl ?_
    refine wl_ov (ov_indexP (j := 3) ar138 rfl rfl (by decide) rfl) rfl ?_
    refine wl_stores (cs' := [.string nm, .int .i64 h0, .int .i64 h1, .int .i64 h2, .int .i64 h3, .int .i64 h4, .int .i64 h5, .int .i64 v17, .int .i64 v18, .int .i64 h8, .int .i64 h9, .int .i64 h10, .int .i64 h11, .int .i64 h12, .int .i64 h13]) 1 rz53 rfl rfl rfl rfl rfl rfl rfl rfl ?_
    refine nn_ (sr_ (mv_ rfl ?_))
    refine wl_got (γ := Bool) (val := fun v => .bool v) (φ := fun v => True) rfl cb53 rfl rfl rfl rfl (fun wx hm => ((flip_any _ wx B sb _ hm.k (by omega) (by omega) (by omega)).mono fun _ _ ⟨v, he, hS, hg⟩ => ⟨v, trivial, he, hS, hg⟩)) fun f19 _ => ?_
    refine nn_ ?_
    refine gw_cond rfl (fun hh => ?_) (fun hh => ?_)
    ·have hf4 : f19 = true := by simpa using hh
     clear hh
     refine gw_region (mv_ rfl (mv_ rfl (fd_ fo140_1 rfl rfl ?_)))
     refine wl_ov (ov_indexP (j := 3) ar138 rfl rfl (by decide) rfl) rfl ?_
     refine fd_ fo53_1 rfl rfl ?_
     refine wl_store 1 sc3 rfl rfl rfl rfl rfl rfl ?_
     refine wl_nil (nx_blk_nrm (nx_then (gw_region (ad_ rfl rfl ?_))))
     refine wl_set 40 (v' := .int .i64 4) rfl rfl ?_
     refine mv_ rfl (wl_nil ?_)
     exact nx_round (4, h0, h1, h2, h3, h4, h5, v17, v17, h8, h9, h10, h11, h12, h13) ⟨by dsimp only; omega, b0, b1, b2, b3, b4, b5, (by unfold Bd; dsimp only; omega), (by unfold Bd; dsimp only; omega), b8, b9, b10, b11, b12, b13⟩ (by dsimp only; omega) ⟨rfl, rfl, rfl, rfl, rfl, rfl, rfl, rfl, trivial⟩ (fun _ hm => (hm.more rfl (by first | omega | (dsimp only; omega))).pick [1, 2] [0] [] rfl rfl)
    have hf4 : f19 = false := by simpa using hh
    clear hh
    refine gw_skip (nx_blk_nrm (nx_then (gw_region (ad_ rfl rfl ?_))))
    refine wl_set 40 (v' := .int .i64 4) rfl rfl ?_
    refine mv_ rfl (wl_nil ?_)
    exact nx_round (4, h0, h1, h2, h3, h4, h5, v17, v18, h8, h9, h10, h11, h12, h13) ⟨by dsimp only; omega, b0, b1, b2, b3, b4, b5, (by unfold Bd; dsimp only; omega), (by unfold Bd; dsimp only; omega), b8, b9, b10, b11, b12, b13⟩ (by dsimp only; omega) ⟨rfl, rfl, rfl, rfl, rfl, rfl, rfl, rfl, trivial⟩ (fun _ hm => (hm.more rfl (by first | omega | (dsimp only; omega))).pick [1, 2] [0] [] rfl rfl)
   ·subst hjc
    refine mv_ rfl ?_
    refine wl_set 21 (v' := .int .i64 4) rfl rfl ?_
    refine sg_ rfl (nn_ (sr_ (mv_ rfl ?_)))
    refine wl_buildSlice (e := 3) (cs := [.int .i64 0, .int .i64 0, .int .i64 480, .int .i64 600, .int .i64 1440]) rfl (by kernel_rfl) rfl fun g20 => ?_
    refine wl_got (γ := Int) (val := fun v => .int .i64 v) (φ := fun v => v ∈ ([0, 0, 480, 600, 1440] : List Int)) rfl cb14 rfl rfl rfl rfl (fun wx hm => (pick_any [0, 0, 480, 600, 1440] _ _ _ wx B sb _ hm.k (by omega) (by simp) (by simp) (hm.blkI 0 rfl) (hm.neRow 0 rfl rfl))) fun v21 hv21 => ?_
    have bv21 : 0 ≤ v21 ∧ v21 ≤ 1440 := mem_rng hv21 (by decide)
    have bv210 := bv21.1
    have bv211 := bv21.2
    clear bv21
    refine sg_ rfl (nn_ (sr_ (mv_ rfl (mv_ rfl (mv_ rfl (mv_ rfl ?_))))))
    refine wl_got (γ := Int) (val := fun v => .int .i64 v) (φ := fun v => v21 ≤ v ∧ (v ≤ 1440 ∨ v = v21)) rfl cb28 rfl rfl rfl rfl (fun wx hm => (range_any _ _ wx B sb _ hm.k (by omega) (by omega) (by omega) (by omega) (by omega))) fun v22 hv22 => ?_
    refine wl_ov (ov_build (cs := [.int .i64 v21, .int .i64 v22]) rfl (by kernel_rfl)) rfl ?_
    refine fd_ fo140_1 rfl rfl ?_
    refine wl_ov (ov_indexP (j := 4) ar138 rfl rfl (by decide) rfl) rfl ?_
    refine wl_stores (cs' := [.string nm, .int .i64 h0, .int .i64 h1, .int .i64 h2, .int .i64 h3, .int .i64 h4, .int .i64 h5, .int .i64 h6, .int .i64 h7, .int .i64 v21, .int .i64 v22, .int .i64 h10, .int .i64 h11, .int .i64 h12, .int .i64 h13]) 1 rz53 rfl rfl rfl rfl rfl rfl rfl rfl ?_
    refine nn_ (sr_ (mv_ rfl ?_))
    refine wl_got (γ := Bool) (val := fun v => .bool v) (φ := fun v => True) rfl cb53 rfl rfl rfl rfl (fun wx hm => ((flip_any _ wx B sb _ hm.k (by omega) (by omega) (by omega)).mono fun _ _ ⟨v, he, hS, hg⟩ => ⟨v, trivial, he, hS, hg⟩)) fun f23 _ => ?_
    refine nn_ ?_
    refine gw_cond rfl (fun hh => ?_) (fun hh => ?_)
    ·have hf4 : f23 = true := by simpa using hh
     clear hh
     refine gw_region (mv_ rfl (mv_ rfl (fd_ fo140_1 rfl rfl ?_)))
     refine wl_ov (ov_indexP (j := 4) ar138 rfl rfl (by decide) rfl) rfl ?_
     refine fd_ fo53_1 rfl rfl ?_
     refine wl_store 1 sc3 rfl rfl rfl rfl rfl rfl ?_
     refine wl_nil (nx_blk_nrm (nx_then (gw_region (ad_ rfl rfl ?_))))
     refine wl_set 40 (v' := .int .i64 5) rfl rfl ?_
     refine mv_ rfl (wl_nil ?_)
     exact nx_round (5, h0, h1, h2, h3, h4, h5, h6, h7, v21, v21, h10, h11, h12, h13) ⟨by dsimp only; omega, b0, b1, b2, b3, b4, b5, b6, b7, (by unfold Bd; dsimp only; omega), (by unfold Bd; dsimp only; omega), b10, b11, b12, b13⟩ (by dsimp only; omega) ⟨rfl, rfl, rfl, rfl, rfl, rfl, rfl, rfl, trivial⟩ (fun _ hm => (hm.more rfl (by first | omega | (dsimp only; omega))).pick [1, 2] [0] [] rfl rfl)
    have hf4 : f23 = false := by simpa using hh
    clear hh
    refine gw_skip (nx_blk_nrm (nx_then (gw_region (ad_ rfl rfl ?_))))
    refine wl_set 40 (v' := .int .i64 5) rfl rfl ?_
    refine mv_ rfl (wl_nil ?_)
    exact nx_round (5, h0, h1, h2, h3, h4, h5, h6, h7, v21, v22, h10, h11, h12, h13) ⟨by dsimp only; omega, b0, b1, b2, b3, b4, b5, b6, b7, (by unfold Bd; dsimp only; omega), (by unfold Bd; dsimp only; omega), b10, b11, b12, b13⟩ (by dsimp only; omega) ⟨rfl, rfl, rfl, rfl, rfl, rfl, rfl, rfl, trivial⟩ (fun _ hm => (hm.more rfl (by first | omega | (dsimp only; omega))).pick [1, 2] [0] [] rfl rfl)
   ·subst hjc
    refine mv_ rfl ?_
    refine wl_set 21 (v' := .int .i64 5) rfl rfl ?_
    refine sg_ rfl (nn_ (sr_ (mv_ rfl ?_)))
    refine wl_buildSlice (e := 3) (cs := [.int .i64 0, .int .i64 0, .int .i64 480, .int .i64 600, .int .i64 1440]) rfl (by kernel_rfl) rfl fun g24 => ?_
    refine wl_got (γ := Int) (val := fun v => .int .i64 v) (φ := fun v => v ∈ ([0, 0, 480, 600, 1440] : List Int)) rfl cb14 rfl rfl rfl rfl (fun wx hm => (pick_any [0, 0, 480, 600, 1440] _ _ _ wx B sb _ hm.k (by omega) (by simp) (by simp) (hm.blkI 0 rfl) (hm.neRow 0 rfl rfl))) fun v25 hv25 => ?_
    have bv25 : 0 ≤ v25 ∧ v25 ≤ 1440 := mem_rng hv25 (by decide)
    have bv250 := bv25.1
    have bv251 := bv25.2
    clear bv25
    refine sg_ rfl (nn_ (sr_ (mv_ rfl (mv_ rfl (mv_ rfl (mv_ rfl ?_))))))
    refine wl_got (γ := Int) (val := fun v => .int .i64 v) (φ := fun v => v25 ≤ v ∧ (v ≤ 1440 ∨ v = v25)) rfl cb28 rfl rfl rfl rfl (fun wx hm => (range_any _ _ wx B sb _ hm.k (by omega) (by omega) (by omega) (by omega) (by omega))) fun v26 hv26 => ?_
    refine wl_ov (ov_build (cs := [.int .i64 v25, .int .i64 v26]) rfl (by kernel_rfl)) rfl ?_
    refine fd_ fo140_1 rfl rfl ?_
    refine wl_ov (ov_indexP (j := 5) ar138 rfl rfl (by decide) rfl) rfl ?_
    refine wl_stores (cs' := [.string nm, .int .i64 h0, .int .i64 h1, .int .i64 h2, .int .i64 h3, .int .i64 h4, .int .i64 h5, .int .i64 h6, .int .i64 h7, .int .i64 h8, .int .i64 h9, .int .i64 v25, .int .i64 v26, .int .i64 h12, .int .i64 h13]) 1 rz53 rfl rfl rfl rfl rfl rfl rfl rfl ?_
    refine nn_ (sr_ (mv_ rfl ?_))
    refine wl_got (γ := Bool) (val := fun v => .bool v) (φ := fun v => True) rfl cb53 rfl rfl rfl rfl (fun wx hm => ((flip_any _ wx B sb _ hm.k (by omega) (by omega) (by omega)).mono fun _ _ ⟨v, he, hS, hg⟩ => ⟨v, trivial, he, hS, hg⟩)) fun f27 _ => ?_
    refine nn_ ?_
    refine gw_cond rfl (fun hh => ?_) (fun hh => ?_)
    ·have hf4 : f27 = true := by simpa using hh
     clear hh
     refine gw_region (mv_ rfl (mv_ rfl (fd_ fo140_1 rfl rfl ?_)))
     refine wl_ov (ov_indexP (j := 5) ar138 rfl rfl (by decide) rfl) rfl ?_
     refine fd_ fo53_1 rfl rfl ?_
     refine wl_store 1 sc3 rfl rfl rfl rfl rfl rfl ?_
     refine wl_nil (nx_blk_nrm (nx_then (gw_region (ad_ rfl rfl ?_))))
     refine wl_set 40 (v' := .int .i64 6) rfl rfl ?_
     refine mv_ rfl (wl_nil ?_)
     exact nx_round (6, h0, h1, h2, h3, h4, h5, h6, h7, h8, h9, v25, v25, h12, h13) ⟨by dsimp only; omega, b0, b1, b2, b3, b4, b5, b6, b7, b8, b9, (by unfold Bd; dsimp only; omega), (by unfold Bd; dsimp only; omega), b12, b13⟩ (by dsimp only; omega) ⟨rfl, rfl, rfl, rfl, rfl, rfl, rfl, rfl, trivial⟩ (fun _ hm => (hm.more rfl (by first | omega | (dsimp only; omega))).pick [1, 2] [0] [] rfl rfl)
    have hf4 : f27 = false := by simpa using hh
    clear hh
    refine gw_skip (nx_blk_nrm (nx_then (gw_region (ad_ rfl rfl ?_))))
    refine wl_set 40 (v' := .int .i64 6) rfl rfl ?_
    refine mv_ rfl (wl_nil ?_)
    exact nx_round (6, h0, h1, h2, h3, h4, h5, h6, h7, h8, h9, v25, v26, h12, h13) ⟨by dsimp only; omega, b0, b1, b2, b3, b4, b5, b6, b7, b8, b9, (by unfold Bd; dsimp only; omega), (by unfold Bd; dsimp only; omega), b12, b13⟩ (by dsimp only; omega) ⟨rfl, rfl, rfl, rfl, rfl, rfl, rfl, rfl, trivial⟩ (fun _ hm => (hm.more rfl (by first | omega | (dsimp only; omega))).pick [1, 2] [0] [] rfl rfl)
   subst hjc
   refine mv_ rfl ?_
   refine wl_set 21 (v' := .int .i64 6) rfl rfl ?_
   refine sg_ rfl (nn_ (sr_ (mv_ rfl ?_)))
   refine wl_buildSlice (e := 3) (cs := [.int .i64 0, .int .i64 0, .int .i64 480, .int .i64 600, .int .i64 1440]) rfl (by kernel_rfl) rfl fun g28 => ?_
   refine wl_got (γ := Int) (val := fun v => .int .i64 v) (φ := fun v => v ∈ ([0, 0, 480, 600, 1440] : List Int)) rfl cb14 rfl rfl rfl rfl (fun wx hm => (pick_any [0, 0, 480, 600, 1440] _ _ _ wx B sb _ hm.k (by omega) (by simp) (by simp) (hm.blkI 0 rfl) (hm.neRow 0 rfl rfl))) fun v29 hv29 => ?_
   have bv29 : 0 ≤ v29 ∧ v29 ≤ 1440 := mem_rng hv29 (by decide)
   have bv290 := bv29.1
   have bv291 := bv29.2
   clear bv29
   refine sg_ rfl (nn_ (sr_ (mv_ rfl (mv_ rfl (mv_ rfl (mv_ rfl ?_))))))
   refine wl_got (γ := Int) (val := fun v => .int .i64 v) (φ := fun v => v29 ≤ v ∧ (v ≤ 1440 ∨ v = v29)) rfl cb28 rfl rfl rfl rfl (fun wx hm => (range_any _ _ wx B sb _ hm.k (by omega) (by omega) (by omega) (by omega) (by omega))) fun v30 hv30 => ?_
   refine wl_ov (ov_build (cs := [.int .i64 v29, .int .i64 v30]) rfl (by kernel_rfl)) rfl ?_
   refine fd_ fo140_1 rfl rfl ?_
   refine wl_ov (ov_indexP (j := 6) ar138 rfl rfl (by decide) rfl) rfl ?_
   refine wl_stores (cs' := [.string nm, .int .i64 h0, .int .i64 h1, .int .i64 h2, .int .i64 h3, .int .i64 h4, .int .i64 h5, .int .i64 h6, .int .i64 h7, .int .i64 h8, .int .i64 h9, .int .i64 h10, .int .i64 h11, .int .i64 v29, .int .i64 v30]) 1 rz53 rfl rfl rfl rfl rfl rfl rfl rfl ?_
   refine nn_ (sr_ (mv_ rfl ?_))
   refine wl_got (γ := Bool) (val := fun v => .bool v) (φ := fun v => True) rfl cb53 rfl rfl rfl rfl (fun wx hm => ((flip_any _ wx B sb _ hm.k (by omega) (by omega) (by omega)).mono fun _ _ ⟨v, he, hS, hg⟩ => ⟨v, trivial, he, hS, hg⟩)) fun f31 _ => ?_
   refine nn_ ?_
   refine gw_cond rfl (fun hh => ?_) (fun hh => ?_)
   ·have hf4 : f31 = true := by simpa using hh
    clear hh
    refine gw_region (mv_ rfl (mv_ rfl (fd_ fo140_1 rfl rfl ?_)))
    refine wl_ov (ov_indexP (j := 6) ar138 rfl rfl (by decide) rfl) rfl ?_
    refine fd_ fo53_1 rfl rfl ?_
    refine wl_store 1 sc3 rfl rfl rfl rfl rfl rfl ?_
    refine wl_nil (nx_blk_nrm (nx_then (gw_region (ad_ rfl rfl ?_))))
    refine wl_set 40 (v' := .int .i64 7) rfl rfl ?_
    refine mv_ rfl (wl_nil ?_)
    exact nx_round (7, h0, h1, h2, h3, h4, h5, h6, h7, h8, h9, h10, h11, v29, v29) ⟨by dsimp only; omega, b0, b1, b2, b3, b4, b5, b6, b7, b8, b9, b10, b11, (by unfold Bd; dsimp only; omega), (by unfold Bd; dsimp only; omega)⟩ (by dsimp only; omega) ⟨rfl, rfl, rfl, rfl, rfl, rfl, rfl, rfl, trivial⟩ (fun _ hm => (hm.more rfl (by first | omega | (dsimp only; omega))).pick [1, 2] [0] [] rfl rfl)
   have hf4 : f31 = false := by simpa using hh
   clear hh
   refine gw_skip (nx_blk_nrm (nx_then (gw_region (ad_ rfl rfl ?_))))
   refine wl_set 40 (v' := .int .i64 7) rfl rfl ?_
   refine mv_ rfl (wl_nil ?_)
   exact nx_round (7, h0, h1, h2, h3, h4, h5, h6, h7, h8, h9, h10, h11, v29, v30) ⟨by dsimp only; omega, b0, b1, b2, b3, b4, b5, b6, b7, b8, b9, b10, b11, (by unfold Bd; dsimp only; omega), (by unfold Bd; dsimp only; omega)⟩ (by dsimp only; omega) ⟨rfl, rfl, rfl, rfl, rfl, rfl, rfl, rfl, trivial⟩ (fun _ hm => (hm.more rfl (by first | omega | (dsimp only; omega))).pick [1, 2] [0] [] rfl rfl)
  have hj : ¬ (((j : Nat) : Int) < 7) := by simpa using hh
  clear hh
  refine gw_exit ?_
  refine nx_then_exit (nx_then_exit ?_)
  refine nx_blk_here ?_
  refine nx_then (gw_region ?_)
  have hall : ∀ x ∈ [h0, h1, h2, h3, h4, h5, h6, h7, h8, h9, h10, h11, h12, h13], -3000 ≤ x ∧ x ≤ 3000 := bd_all ⟨b0, b1, b2, b3, b4, b5, b6, b7, b8, b9, b10, b11, b12, b13⟩
  refine mv_ rfl ?_
  refine wl_ov (ov_loads rz140 rfl (fun _ hm => hm.blkI 0 rfl) rfl rfl) rfl ?_
  refine wl_buildSlice (e := 140) (cs := [.string nm, .int .i64 h0, .int .i64 h1, .int .i64 h2, .int .i64 h3, .int .i64 h4, .int .i64 h5, .int .i64 h6, .int .i64 h7, .int .i64 h8, .int .i64 h9, .int .i64 h10, .int .i64 h11, .int .i64 h12, .int .i64 h13]) rfl (by kernel_rfl) rfl fun g32 => ?_
  refine wl_append (news := [.string nm, .int .i64 h0, .int .i64 h1, .int .i64 h2, .int .i64 h3, .int .i64 h4, .int .i64 h5, .int .i64 h6, .int .i64 h7, .int .i64 h8, .int .i64 h9, .int .i64 h10, .int .i64 h11, .int .i64 h12, .int .i64 h13]) 0 0 ap26 rfl rfl rfl rfl rfl rfl rfl (by omega) (by unfold maxLen; omega) rfl rfl fun v2 hv2 => ?_
  refine sg_ rfl (wl_nil (nx_blk_nrm (nx_then (gw_region (ad_ rfl rfl (mv_ rfl (wl_nil ?_)))))))
  exact nx_round (i + 1, k + 1, v2, l ++ [⟨nm, [h0, h1, h2, h3, h4, h5, h6, h7, h8, h9, h10, h11, h12, h13]⟩], l.flatMap stEnc ++ ([.string nm, .int .i64 h0, .int .i64 h1, .int .i64 h2, .int .i64 h3, .int .i64 h4, .int .i64 h5, .int .i64 h6, .int .i64 h7, .int .i64 h8, .int .i64 h9, .int .i64 h10, .int .i64 h11, .int .i64 h12, .int .i64 h13] : List Value)) ⟨by dsimp only; omega, by dsimp only; omega, by simp [hl], stB_snoc hok ⟨rfl, hnm2, hall⟩, by simp [stEnc, stCells]⟩ (by dsimp only; omega) ⟨rfl, rfl, rfl, rfl, rfl, (some_int (by omega)), trivial⟩ (fun _ hm => (hm.more rfl (by first | omega | (dsimp only; omega))).pick [2] [0] [] rfl rfl)
 have hi : ¬ (((i : Nat) : Int) < 3) := by simpa using hh
 clear hh
 refine gw_exit ?_
 refine nx_then_exit (nx_then_exit ?_)
 refine nx_blk_here ?_
 refine nx_then (sr_ ?_)
 refine wl_look (R := ∃ A cc, v = .slice A k cc) (fun wx hm => own_slice (hm.ownI 0 rfl)) ?_
 rintro ⟨A, c, rfl⟩
 refine mv_ rfl (sg_ rfl (nn_ ?_))
 refine gw_ret ?_
 refine nx_ret1 rfl rfl fun wx hm => ?_
 exact ⟨A, k, c, l, rfl, hm.ownI 0 rfl, hl, hok, by omega, hm.k.more (by omega), hm.g⟩
end Go.Proofs.YtjecbkgjabnmoaaGreatDoor
namespace Go.Proofs.YtjecbkgjabnmoaaGreatDoor
open Go.RowKit
def rowArr (P : Program) (t : TypeId) : Option (Nat × TypeId × Nat) :=
  match P.underlying t with
  | some (.array n e) => match P.underlying e with
    | some d => if d.isRow then (P.info? e).map fun i => (n, e, i.size) else none
    | none => none
  | _ => none
section
variable {P : Program} {nn : Nat} {S : List (Nat × Value)} {Z : World → Prop} {d : Nat} {ty : TypeId} {pos : String} {aft : Array Edge}
theorem ov_indexA {t e : TypeId} {x y : Operand} {len sz i : Nat} {cs vs : List Value} (ht : rowArr P t = some (len, e, sz)) (hx : rd S x = some (.agg cs.toArray)) (hy : rd S y = some (.int .i64 (i : Int))) (hlt : i < len) (hv : (cs.drop (i * sz)).take sz = vs) :
    OV P nn S Z ⟨some d, .index t x y, ty, pos, aft, none⟩ (.agg vs.toArray) := fun a w ha hm => by
  unfold rowArr at ht
  split at ht
  · rename_i n e' hu
    split at ht
    · rename_i dd he
      split at ht
      · rename_i hrow
        cases hq : P.info? e' with
        | none => simp [hq] at ht
        | some inf =>
          simp only [hq, Option.map_some, Option.some.injEq, Prod.mk.injEq] at ht
          obtain ⟨rfl, rfl, hs⟩ := ht
          have hagg : (isAgg e').run P w = .ok true w := by
            unfold isAgg
            rw [Sem.run_bind, run_underlying he w]
            cases dd <;> simp_all [TypeDesc.isRow]
          have hb : 0 ≤ (i : Int) ∧ (i : Int) < (n : Int) := ⟨by omega, by omega⟩
          have hr : (Instr.index t (.agg cs.toArray) (.int .i64 (i : Int))).run P w = .ok (.agg vs.toArray) w := by
            subst hv
            simp [Instr.index, asIntOf, run_underlying hu, sizeOf, typeInfo, hq, hs, part, hagg]
            omega
          simp [execOp, ha.eval hx, ha.eval hy, hr, Result.andThen]
      · cases ht
    · cases ht
  · cases ht
end
end Go.Proofs.YtjecbkgjabnmoaaGreatDoor
namespace Go.Proofs.YtjecbkgjabnmoaaGreatDoor
open Go.RowKit
theorem hours7 (u0 u1 u2 u3 u4 u5 u6 u7 u8 u9 u10 u11 u12 u13 : Int) : hoursBad [u0, u1, u2, u3, u4, u5, u6, u7, u8, u9, u10, u11, u12, u13] = (winBad u0 u1 || (winBad u2 u3 || (winBad u4 u5 || (winBad u6 u7 || (winBad u8 u9 || (winBad u10 u11 || (winBad u12 u13 || false))))))) := rfl
def prevSt (l : List St) (k : Nat) : ByteArray := match prevOf l k with
  | none => ⟨#[]⟩
  | some q => q.key
theorem prevSt_succ {l : List St} {k : Nat} {x : St} (h : l[k]? = some x) : prevSt l (k + 1) = x.key := by
  unfold prevSt prevOf; rw [if_neg (by omega), Nat.add_sub_cancel, h]
theorem prevSt_le {l : List St} {k : Nat} {key : ByteArray} (h : keyB key = true) : leB key (prevSt l k) = prevB (prevOf l k) (fun q => leB key q.key) := by
  unfold prevSt prevB
  cases prevOf l k with
  | none => exact key_low h
  | some q => rfl
theorem stationsFault_any (l : List St) (A : Option Addr) (n c : Nat) (w : World) (hl : SlT stEnc 15 140 w A n l) (hok : ∀ x ∈ l, StOk x) (hn : n ≤ 1000000) :
  Calls Tryz.prog 84 #[.slice A n c] w (GotE w (stationsE l)) := by
 refine gw_enter ⟨47, w, none, []⟩ Tryz.func84 rfl Tryz.ntmps84 rfl (mem0 (X := [SlOld stEnc 15 140 w.heap.size none A n l]) (allF_cons hl.old allF_nil) (allL_cons SlOld.lasts allL_nil)) ?_
 refine sr_ ?_
 have hlen := hl.len
 refine sg_ rfl (nn_ (gw_seq (sr_ (mv_ rfl (wl_ov (ov_len es26 rfl) rfl ?_)))))
 refine wl_ov (ov_gtr rfl rfl) rfl ?_
 refine nn_ ?_
 refine gw_cond rfl (fun hh => ?_) (fun hh => ?_)
 ·have h1 : 50 < ((n : Nat) : Int) := by simpa using hh
  clear hh
  refine sr_ (sg_ rfl (nn_ ?_))
  refine gw_ret ?_
  refine nx_then_ret ?_
  refine nx_ret1 rfl rfl fun wx hm => ?_
  exact ⟨ret_int (by unfold stationsE; rw [if_pos (by omega)]), hm.g⟩
 have h1 : ¬ (50 < ((n : Nat) : Int)) := by simpa using hh
 clear hh
 refine gw_skip (nx_then (sr_ ?_))
 have hse : stationsE l = scanE stationE none l := by unfold stationsE; rw [if_neg (by omega)]
 refine sg_ rfl (nn_ (gw_seq (sr_ (mv_ rfl (wl_ov (ov_len es26 rfl) rfl (mv_ rfl (nn_ (gw_block ?_))))))))
 refine gw_loop (γ := Nat) (fun (k : Nat) => k ≤ n ∧ scanE stationE none l = scanE stationE (prevOf l k) (l.drop k)) (fun (k : Nat) => [(3, .string (prevSt l k)), (11, .slice A n c), (12, .int .i64 ((n : Nat) : Int)), (13, .int .i64 ((k : Nat) : Int))]) (fun (k : Nat) => fun _ => True) (fun (k : Nat) => []) (fun (k : Nat) => []) (fun (k : Nat) => [SlOld stEnc 15 140 w.heap.size none A n l]) (fun (k : Nat) => n - k) 0 ⟨Nat.zero_le _, rfl⟩ ⟨rfl, rfl, rfl, rfl, trivial⟩ (fun _ hm => hm.pick [] [] [0] rfl rfl) ?_
 intro k hinv
 replace hinv : k ≤ n ∧ scanE stationE none l = scanE stationE (prevOf l k) (l.drop k) := hinv
 refine sr_ (wl_ov (ov_lss rfl rfl) rfl (nn_ (gw_seq ?_)))
 refine gw_cond rfl (fun hh => ?_) (fun hh => ?_)
 ·have hk : ((k : Nat) : Int) < ((n : Nat) : Int) := by simpa using hh
  clear hh
  refine gw_skip (nx_then (gw_seq (gw_block (sr_ ?_))))
  obtain ⟨b, off, hA, _, _⟩ := hl.get (by omega)
  subst hA
  obtain ⟨x, hx⟩ : ∃ x, l[k]? = some x := ⟨_, List.getElem?_eq_getElem (by omega)⟩
  have hat := scanE_at stationE l k _ hx
  have hso := hok _ (List.mem_of_getElem? hx)
  obtain ⟨key, hs⟩ := x
  obtain ⟨u0, u1, u2, u3, u4, u5, u6, u7, u8, u9, u10, u11, u12, u13, rfl⟩ := list14 hs hso.1
  have hk1 : key.size ≤ 1000000 := hso.2.1
  have hsb := hso.2.2
  refine wl_ov (ov_index (j := k) es26 rfl rfl (by omega)) rfl ?_
  refine wl_ov (ov_elem (vs := [.string key, .int .i64 u0, .int .i64 u1, .int .i64 u2, .int .i64 u3, .int .i64 u4, .int .i64 u5, .int .i64 u6, .int .i64 u7, .int .i64 u8, .int .i64 u9, .int .i64 u10, .int .i64 u11, .int .i64 u12, .int .i64 u13]) rz140 rfl (fun _ hm => (hm.fact 0 rfl).1) hx rfl rfl) rfl ?_
  refine wl_alloc zc140 rfl fun g1 => ?_
  refine wl_stores (cs' := [.string key, .int .i64 u0, .int .i64 u1, .int .i64 u2, .int .i64 u3, .int .i64 u4, .int .i64 u5, .int .i64 u6, .int .i64 u7, .int .i64 u8, .int .i64 u9, .int .i64 u10, .int .i64 u11, .int .i64 u12, .int .i64 u13]) 0 rz140 rfl rfl rfl rfl rfl rfl rfl rfl ?_
  refine nn_ (gw_seq (gw_block (sr_ (fd_ fo140_0 rfl rfl (lk_ sc9 0 rfl rfl rfl ?_)))))
  refine wl_callv rfl cb86 rfl rfl (fun wx hm => (key_any _ wx (by omega))) ?_
  refine wl_ov (ov_un_not rfl) rfl (sg_ rfl (nn_ ?_))
  refine gw_cond rfl (fun hh => ?_) (fun hh => ?_)
  ·have h2 : (keyB key) = false := by simpa using hh
   clear hh
   refine sr_ (sg_ rfl (nn_ ?_))
   refine gw_ret ?_
   refine nx_blk_ret (nx_then_ret (nx_blk_ret (nx_then_ret (nx_then_ret (nx_blk_ret (nx_then_ret ?_))))))
   have hE : stationE (prevOf l k) ⟨key, [u0, u1, u2, u3, u4, u5, u6, u7, u8, u9, u10, u11, u12, u13]⟩ = 5 := by unfold stationE; rw [if_pos (by simpa using h2)]
   refine nx_ret1 rfl rfl fun wx hm => ?_
   exact ⟨ret_int (by rw [hse, hinv.2, hat, if_neg (by rw [hE]; decide), hE]), hm.g⟩
  have h2 : (keyB key) = true := by simpa using hh
  clear hh
  refine sr_ (fd_ fo140_0 rfl rfl (lk_ sc9 0 rfl rfl rfl (mv_ rfl ?_)))
  refine wl_ov (ov_sleq rfl rfl) rfl ?_
  refine sg_ rfl (nn_ ?_)
  refine gw_cond rfl (fun hh => ?_) (fun hh => ?_)
  ·have h9 : (Op.bytesLess key.toList (prevSt l k).toList || key.toList == (prevSt l k).toList) = true := by simpa using hh
   clear hh
   refine sr_ ?_
   have hky : keyB key = true := by simpa using h2
   have hO : prevB (prevOf l k) (fun q => leB key q.key) = true := (prevSt_le hky).symm.trans h9
   refine sg_ rfl (nn_ ?_)
   refine gw_ret ?_
   refine nx_blk_ret (nx_then_ret (nx_blk_ret (nx_then_ret (nx_then_ret (nx_blk_ret (nx_then_ret ?_))))))
   have hE : stationE (prevOf l k) ⟨key, [u0, u1, u2, u3, u4, u5, u6, u7, u8, u9, u10, u11, u12, u13]⟩ = 7 := by unfold stationE; rw [if_neg (by rw [hky]; decide), if_pos hO]
   refine nx_ret1 rfl rfl fun wx hm => ?_
   exact ⟨ret_int (by rw [hse, hinv.2, hat, if_neg (by rw [hE]; decide), hE]), hm.g⟩
  have h9 : (Op.bytesLess key.toList (prevSt l k).toList || key.toList == (prevSt l k).toList) = false := by simpa using hh
  clear hh
  refine gw_skip (nx_blk_nrm (nx_then (sr_ ?_)))
  have hky : keyB key = true := by simpa using h2
  have hO : prevB (prevOf l k) (fun q => leB key q.key) = false := (prevSt_le hky).symm.trans h9
  have hE0 : stationE (prevOf l k) ⟨key, [u0, u1, u2, u3, u4, u5, u6, u7, u8, u9, u10, u11, u12, u13]⟩ = if hoursBad [u0, u1, u2, u3, u4, u5, u6, u7, u8, u9, u10, u11, u12, u13] = true then 1 else 0 := by unfold stationE; rw [if_neg (by rw [hky]; decide), if_neg (by rw [hO]; decide)]
  rw [hours7] at hE0
  refine fd_ fo140_0 rfl rfl (lk_ sc9 0 rfl rfl rfl (sg_ rfl (nn_ (sr_ (fd_ fo140_1 rfl rfl ?_)))))
  refine wl_ov (ov_loads rz138 rfl (fun _ hm => hm.blkI 0 rfl) rfl rfl) rfl ?_
  refine mv_ rfl (nn_ (gw_block ?_))
  refine gw_rounds 8 ?_
  refine gr_next ?_
  refine sr_ (wl_ov (ov_lss rfl rfl) rfl ?_)
  refine wl_set 32 (v' := .bool true) rfl (congrArg Value.bool (by decide)) ?_
  refine nn_ (gw_seq (ct_ rfl (gw_skip (nx_then (gw_seq (gw_block (sr_ ?_)))))))
  refine wl_ov (ov_indexA (e := 53) (len := 7) (sz := 2) (i := 0) (cs := [.int .i64 u0, .int .i64 u1, .int .i64 u2, .int .i64 u3, .int .i64 u4, .int .i64 u5, .int .i64 u6, .int .i64 u7, .int .i64 u8, .int .i64 u9, .int .i64 u10, .int .i64 u11, .int .i64 u12, .int .i64 u13]) (vs := [.int .i64 u0, .int .i64 u1]) (by kernel_rfl) rfl rfl (by decide) rfl) rfl ?_
  refine wl_alloc zc53 rfl fun g2 => ?_
  refine wl_stores (cs' := [.int .i64 u0, .int .i64 u1]) 0 rz53 rfl rfl rfl rfl rfl rfl rfl rfl ?_
  refine nn_ (sr_ (fd_ fo53_0 rfl rfl (lk_ sc3 0 rfl rfl rfl (fd_ fo53_1 rfl rfl (lk_ sc3 0 rfl rfl rfl ?_)))))
  refine wl_callw rfl cb93 rfl rfl (fun wx hm => (rin_any _ _ _ wx)) ?_
  refine wl_ov (ov_un_not rfl) rfl (mv_ rfl ?_)
  rcases Bool.eq_false_or_eq_true (!(inB u0 0 u1)) with hg0 | hg0
  ·refine wl_set 40 rfl (congrArg Value.bool hg0) ?_
   have hw0 : winBad u0 u1 = true := by unfold winBad; simp [hg0]
   refine goff rfl rfl rfl (goff rfl rfl rfl (goff rfl rfl rfl (pt_ rfl rfl (nn_ (ct_ rfl (sr_ (sg_ rfl (nn_ ?_))))))))
   refine gw_ret ?_
   refine nx_blk_ret (nx_then_ret (nx_then_ret (nx_blk_ret (nx_blk_ret (nx_then_ret (nx_then_ret (nx_blk_ret (nx_then_ret ?_))))))))
   have hE : stationE (prevOf l k) ⟨key, [u0, u1, u2, u3, u4, u5, u6, u7, u8, u9, u10, u11, u12, u13]⟩ = 1 := by rw [hE0]; simp [hw0]
   refine nx_ret1 rfl rfl fun wx hm => ?_
   exact ⟨ret_int (by rw [hse, hinv.2, hat, if_neg (by rw [hE]; decide), hE]), hm.g⟩
  refine wl_set 40 rfl (congrArg Value.bool hg0) ?_
  refine wl_guard_on rfl rfl rfl (fd_ fo53_1 rfl rfl (wl_guard_on rfl rfl rfl (lk_ sc3 0 rfl rfl rfl (wl_guard_on rfl rfl rfl ?_))))
  refine wl_ov (ov_gtr rfl rfl) rfl ?_
  refine pf_ rfl rfl (nn_ ?_)
  refine gw_cond rfl (fun hh => ?_) (fun hh => ?_)
  ·have hh0 : 1440 < u1 := by simpa using hh
   clear hh
   refine sr_ ?_
   have hw0 : winBad u0 u1 = true := by unfold winBad; simp [hg0, hh0]
   refine sg_ rfl (nn_ ?_)
   refine gw_ret ?_
   refine nx_blk_ret (nx_then_ret (nx_then_ret (nx_blk_ret (nx_blk_ret (nx_then_ret (nx_then_ret (nx_blk_ret (nx_then_ret ?_))))))))
   have hE : stationE (prevOf l k) ⟨key, [u0, u1, u2, u3, u4, u5, u6, u7, u8, u9, u10, u11, u12, u13]⟩ = 1 := by rw [hE0]; simp [hw0]
   refine nx_ret1 rfl rfl fun wx hm => ?_
   exact ⟨ret_int (by rw [hse, hinv.2, hat, if_neg (by rw [hE]; decide), hE]), hm.g⟩
  have hh0 : ¬ (1440 < u1) := by simpa using hh
  clear hh
  refine gw_skip (nx_blk_nrm (nx_then (gw_region ?_)))
  have hw0 : winBad u0 u1 = false := by unfold winBad; simp at hg0; simp [hg0]; omega
  refine ad_ rfl rfl ?_
  refine wl_set 45 (v' := .int .i64 1) rfl rfl ?_
  refine mv_ rfl (wl_nil ?_)
  refine nx_next ?_
  refine gr_next ?_
  refine sr_ (wl_ov (ov_lss rfl rfl) rfl ?_)
  refine wl_set 32 (v' := .bool true) rfl (congrArg Value.bool (by decide)) ?_
  refine nn_ (gw_seq (ct_ rfl (gw_skip (nx_then (gw_seq (gw_block (sr_ ?_)))))))
  refine wl_ov (ov_indexA (e := 53) (len := 7) (sz := 2) (i := 1) (cs := [.int .i64 u0, .int .i64 u1, .int .i64 u2, .int .i64 u3, .int .i64 u4, .int .i64 u5, .int .i64 u6, .int .i64 u7, .int .i64 u8, .int .i64 u9, .int .i64 u10, .int .i64 u11, .int .i64 u12, .int .i64 u13]) (vs := [.int .i64 u2, .int .i64 u3]) (by kernel_rfl) rfl rfl (by decide) rfl) rfl ?_
  refine wl_alloc zc53 rfl fun g3 => ?_
  refine wl_stores (cs' := [.int .i64 u2, .int .i64 u3]) 0 rz53 rfl rfl rfl rfl rfl rfl rfl rfl ?_
  refine nn_ (sr_ (fd_ fo53_0 rfl rfl (lk_ sc3 0 rfl rfl rfl (fd_ fo53_1 rfl rfl (lk_ sc3 0 rfl rfl rfl ?_)))))
  refine wl_callw rfl cb93 rfl rfl (fun wx hm => (rin_any _ _ _ wx)) ?_
  refine wl_ov (ov_un_not rfl) rfl (mv_ rfl ?_)
  rcases Bool.eq_false_or_eq_true (!(inB u2 0 u3)) with hg1 | hg1
  ·refine wl_set 40 rfl (congrArg Value.bool hg1) ?_
   have hw1 : winBad u2 u3 = true := by unfold winBad; simp [hg1]
   refine goff rfl rfl rfl (goff rfl rfl rfl (goff rfl rfl rfl (pt_ rfl rfl (nn_ (ct_ rfl (sr_ (sg_ rfl (nn_ ?_))))))))
   refine gw_ret ?_
   refine nx_blk_ret (nx_then_ret (nx_then_ret (nx_blk_ret (nx_blk_ret (nx_then_ret (nx_then_ret (nx_blk_ret (nx_then_ret ?_))))))))
   have hE : stationE (prevOf l k) ⟨key, [u0, u1, u2, u3, u4, u5, u6, u7, u8, u9, u10, u11, u12, u13]⟩ = 1 := by rw [hE0]; simp [hw0, hw1]
   refine nx_ret1 rfl rfl fun wx hm => ?_
   exact ⟨ret_int (by rw [hse, hinv.2, hat, if_neg (by rw [hE]; decide), hE]), hm.g⟩
  refine wl_set 40 rfl (congrArg Value.bool hg1) ?_
  refine wl_guard_on rfl rfl rfl (fd_ fo53_1 rfl rfl (wl_guard_on rfl rfl rfl (lk_ sc3 0 rfl rfl rfl (wl_guard_on rfl rfl rfl ?_))))
  refine wl_ov (ov_gtr rfl rfl) rfl ?_
  refine pf_ rfl rfl (nn_ ?_)
  refine gw_cond rfl (fun hh => ?_) (fun hh => ?_)
  ·have hh1 : 1440 < u3 := by simpa using hh
   clear hh
   refine sr_ ?_
   have hw1 : winBad u2 u3 = true := by unfold winBad; simp [hg1, hh1]
   refine sg_ rfl (nn_ ?_)
   refine gw_ret ?_
   refine nx_blk_ret (nx_then_ret (nx_then_ret (nx_blk_ret (nx_blk_ret (nx_then_ret (nx_then_ret (nx_blk_ret (nx_then_ret ?_))))))))
   have hE : stationE (prevOf l k) ⟨key, [u0, u1, u2, u3, u4, u5, u6, u7, u8, u9, u10, u11, u12, u13]⟩ = 1 := by rw [hE0]; simp [hw0, hw1]
   refine nx_ret1 rfl rfl fun wx hm => ?_
   exact ⟨ret_int (by rw [hse, hinv.2, hat, if_neg (by rw [hE]; decide), hE]), hm.g⟩
  have hh1 : ¬ (1440 < u3) := by simpa using hh
  clear hh
  refine gw_skip (nx_blk_nrm (nx_then (gw_region ?_)))
  have hw1 : winBad u2 u3 = false := by unfold winBad; simp at hg1; simp [hg1]; omega
  refine ad_ rfl rfl ?_
  refine wl_set 45 (v' := .int .i64 2) rfl rfl ?_
  refine mv_ rfl (wl_nil ?_)
  refine nx_next ?_
  refine gr_next ?_
  refine sr_ (wl_ov (ov_lss rfl rfl) rfl ?_)
  refine wl_set 32 (v' := .bool true) rfl (congrArg Value.bool (by decide)) ?_
  refine nn_ (gw_seq (ct_ rfl (gw_skip (nx_then (gw_seq (gw_block (sr_ ?_)))))))
  refine wl_ov (ov_indexA (e := 53) (len := 7) (sz := 2) (i := 2) (cs := [.int .i64 u0, .int .i64 u1, .int .i64 u2, .int .i64 u3, .int .i64 u4, .int .i64 u5, .int .i64 u6, .int .i64 u7, .int .i64 u8, .int .i64 u9, .int .i64 u10, .int .i64 u11, .int .i64 u12, .int .i64 u13]) (vs := [.int .i64 u4, .int .i64 u5]) (by kernel_rfl) rfl rfl (by decide) rfl) rfl ?_
  refine wl_alloc zc53 rfl fun g4 => ?_
  refine wl_stores (cs' := [.int .i64 u4, .int .i64 u5]) 0 rz53 rfl rfl rfl rfl rfl rfl rfl rfl ?_
  refine nn_ (sr_ (fd_ fo53_0 rfl rfl (lk_ sc3 0 rfl rfl rfl (fd_ fo53_1 rfl rfl (lk_ sc3 0 rfl rfl rfl ?_)))))
  refine wl_callw rfl cb93 rfl rfl (fun wx hm => (rin_any _ _ _ wx)) ?_
  refine wl_ov (ov_un_not rfl) rfl (mv_ rfl ?_)
  rcases Bool.eq_false_or_eq_true (!(inB u4 0 u5)) with hg2 | hg2
  ·refine wl_set 40 rfl (congrArg Value.bool hg2) ?_
   have hw2 : winBad u4 u5 = true := by unfold winBad; simp [hg2]
   refine goff rfl rfl rfl (goff rfl rfl rfl (goff rfl rfl rfl (pt_ rfl rfl (nn_ (ct_ rfl (sr_ (sg_ rfl (nn_ ?_))))))))
   refine gw_ret ?_
   refine nx_blk_ret (nx_then_ret (nx_then_ret (nx_blk_ret (nx_blk_ret (nx_then_ret (nx_then_ret (nx_blk_ret (nx_then_ret ?_))))))))
   have hE : stationE (prevOf l k) ⟨key, [u0, u1, u2, u3, u4, u5, u6, u7, u8, u9, u10, u11, u12, u13]⟩ = 1 := by rw [hE0]; simp [hw0, hw1, hw2]
   refine nx_ret1 rfl rfl fun wx hm => ?_
   exact ⟨ret_int (by rw [hse, hinv.2, hat, if_neg (by rw [hE]; decide), hE]), hm.g⟩
  refine wl_set 40 rfl (congrArg Value.bool hg2) ?_
  refine wl_guard_on rfl rfl rfl (fd_ fo53_1 rfl rfl (wl_guard_on rfl rfl rfl (lk_ sc3 0 rfl rfl rfl (wl_guard_on rfl rfl rfl ?_))))
  refine wl_ov (ov_gtr rfl rfl) rfl ?_
  refine pf_ rfl rfl (nn_ ?_)
  refine gw_cond rfl (fun hh => ?_) (fun hh => ?_)
  ·have hh2 : 1440 < u5 := by simpa using hh
   clear hh
   refine sr_ ?_
   have hw2 : winBad u4 u5 = true := by unfold winBad; simp [hg2, hh2]
   refine sg_ rfl (nn_ ?_)
   refine gw_ret ?_
   refine nx_blk_ret (nx_then_ret (nx_then_ret (nx_blk_ret (nx_blk_ret (nx_then_ret (nx_then_ret (nx_blk_ret (nx_then_ret ?_))))))))
   have hE : stationE (prevOf l k) ⟨key, [u0, u1, u2, u3, u4, u5, u6, u7, u8, u9, u10, u11, u12, u13]⟩ = 1 := by rw [hE0]; simp [hw0, hw1, hw2]
   refine nx_ret1 rfl rfl fun wx hm => ?_
   exact ⟨ret_int (by rw [hse, hinv.2, hat, if_neg (by rw [hE]; decide), hE]), hm.g⟩
  have hh2 : ¬ (1440 < u5) := by simpa using hh
  clear hh
  refine gw_skip (nx_blk_nrm (nx_then (gw_region ?_)))
  have hw2 : winBad u4 u5 = false := by unfold winBad; simp at hg2; simp [hg2]; omega
  refine ad_ rfl rfl ?_
  refine wl_set 45 (v' := .int .i64 3) rfl rfl ?_
  refine mv_ rfl (wl_nil ?_)
  refine nx_next ?_
  refine gr_next ?_
  refine sr_ (wl_ov (ov_lss rfl rfl) rfl ?_)
  refine wl_set 32 (v' := .bool true) rfl (congrArg Value.bool (by decide)) ?_
  refine nn_ (gw_seq (ct_ rfl (gw_skip (nx_then (gw_seq (gw_block (sr_ ?_)))))))
  refine wl_ov (ov_indexA (e := 53) (len := 7) (sz := 2) (i := 3) (cs := [.int .i64 u0, .int .i64 u1, .int .i64 u2, .int .i64 u3, .int .i64 u4, .int .i64 u5, .int .i64 u6, .int .i64 u7, .int .i64 u8, .int .i64 u9, .int .i64 u10, .int .i64 u11, .int .i64 u12, .int .i64 u13]) (vs := [.int .i64 u6, .int .i64 u7]) (by kernel_rfl) rfl rfl (by decide) rfl) rfl ?_
  refine wl_alloc zc53 rfl fun g5 => ?_
  refine wl_stores (cs' := [.int .i64 u6, .int .i64 u7]) 0 rz53 rfl rfl rfl rfl rfl rfl rfl rfl ?_
  refine nn_ (sr_ (fd_ fo53_0 rfl rfl (lk_ sc3 0 rfl rfl rfl (fd_ fo53_1 rfl rfl (lk_ sc3 0 rfl rfl rfl ?_)))))
  refine wl_callw rfl cb93 rfl rfl (fun wx hm => (rin_any _ _ _ wx)) ?_
  refine wl_ov (ov_un_not rfl) rfl (mv_ rfl ?_)
  rcases Bool.eq_false_or_eq_true (!(inB u6 0 u7)) with hg3 | hg3
  ·refine wl_set 40 rfl (congrArg Value.bool hg3) ?_
   have hw3 : winBad u6 u7 = true := by unfold winBad; simp [hg3]
   refine goff rfl rfl rfl (goff rfl rfl rfl (goff rfl rfl rfl (pt_ rfl rfl (nn_ (ct_ rfl (sr_ (sg_ rfl (nn_ ?_))))))))
   refine gw_ret ?_
   refine nx_blk_ret (nx_then_ret (nx_then_ret (nx_blk_ret (nx_blk_ret (nx_then_ret (nx_then_ret (nx_blk_ret (nx_then_ret ?_))))))))
   have hE : stationE (prevOf l k) ⟨key, [u0, u1, u2, u3, u4, u5, u6, u7, u8, u9, u10, u11, u12, u13]⟩ = 1 := by rw [hE0]; simp [hw0, hw1, hw2, hw3]
   refine nx_ret1 rfl rfl fun wx hm => ?_
   exact ⟨ret_int (by rw [hse, hinv.2, hat, if_neg (by rw [hE]; decide), hE]), hm.g⟩
  refine wl_set 40 rfl (congrArg Value.bool hg3) ?_
  refine wl_guard_on rfl rfl rfl (fd_ fo53_1 rfl rfl (wl_guard_on rfl rfl rfl (lk_ sc3 0 rfl rfl rfl (wl_guard_on rfl rfl rfl ?_))))
  refine wl_ov (ov_gtr rfl rfl) rfl ?_
  refine pf_ rfl rfl (nn_ ?_)
  refine gw_cond rfl (fun hh => ?_) (fun hh => ?_)
  ·have hh3 : 1440 < u7 := by simpa using hh
   clear hh
   refine sr_ ?_
   have hw3 : winBad u6 u7 = true := by unfold winBad; simp [hg3, hh3]
   refine sg_ rfl (nn_ ?_)
   refine gw_ret ?_
   refine nx_blk_ret (nx_then_ret (nx_then_ret (nx_blk_ret (nx_blk_ret (nx_then_ret (nx_then_ret (nx_blk_ret (nx_then_ret ?_))))))))
   have hE : stationE (prevOf l k) ⟨key, [u0, u1, u2, u3, u4, u5, u6, u7, u8, u9, u10, u11, u12, u13]⟩ = 1 := by rw [hE0]; simp [hw0, hw1, hw2, hw3]
   refine nx_ret1 rfl rfl fun wx hm => ?_
   exact ⟨ret_int (by rw [hse, hinv.2, hat, if_neg (by rw [hE]; decide), hE]), hm.g⟩
  have hh3 : ¬ (1440 < u7) := by simpa using hh
  clear hh
  refine gw_skip (nx_blk_nrm (nx_then (gw_region ?_)))
  have hw3 : winBad u6 u7 = false := by unfold winBad; simp at hg3; simp [hg3]; omega
  refine ad_ rfl rfl ?_
  refine wl_set 45 (v' := .int .i64 4) rfl rfl ?_
  refine mv_ rfl (wl_nil ?_)
  refine nx_next ?_
  refine gr_next ?_
  refine sr_ (wl_ov (ov_lss rfl rfl) rfl ?_)
  refine wl_set 32 (v' := .bool true) rfl (congrArg Value.bool (by decide)) ?_
  refine nn_ (gw_seq (ct_ rfl (gw_skip (nx_then (gw_seq (gw_block (sr_ ?_)))))))
  refine wl_ov (ov_indexA (e := 53) (len := 7) (sz := 2) (i := 4) (cs := [.int .i64 u0, .int .i64 u1, .int .i64 u2, .int .i64 u3, .int .i64 u4, .int .i64 u5, .int .i64 u6, .int .i64 u7, .int .i64 u8, .int .i64 u9, .int .i64 u10, .int .i64 u11, .int .i64 u12, .int .i64 u13]) (vs := [.int .i64 u8, .int .i64 u9]) (by kernel_rfl) rfl rfl (by decide) rfl) rfl ?_
  refine wl_alloc zc53 rfl fun g6 => ?_
  refine wl_stores (cs' := [.int .i64 u8, .int .i64 u9]) 0 rz53 rfl rfl rfl rfl rfl rfl rfl rfl ?_
  refine nn_ (sr_ (fd_ fo53_0 rfl rfl (lk_ sc3 0 rfl rfl rfl (fd_ fo53_1 rfl rfl (lk_ sc3 0 rfl rfl rfl ?_)))))
  refine wl_callw rfl cb93 rfl rfl (fun wx hm => (rin_any _ _ _ wx)) ?_
  refine wl_ov (ov_un_not rfl) rfl (mv_ rfl ?_)
  rcases Bool.eq_false_or_eq_true (!(inB u8 0 u9)) with hg4 | hg4
  ·refine wl_set 40 rfl (congrArg Value.bool hg4) ?_
   have hw4 : winBad u8 u9 = true := by unfold winBad; simp [hg4]
   refine goff rfl rfl rfl (goff rfl rfl rfl (goff rfl rfl rfl (pt_ rfl rfl (nn_ (ct_ rfl (sr_ (sg_ rfl (nn_ ?_))))))))
   refine gw_ret ?_
   refine nx_blk_ret (nx_then_ret (nx_then_ret (nx_blk_ret (nx_blk_ret (nx_then_ret (nx_then_ret (nx_blk_ret (nx_then_ret ?_))))))))
   have hE : stationE (prevOf l k) ⟨key, [u0, u1, u2, u3, u4, u5, u6, u7, u8, u9, u10, u11, u12, u13]⟩ = 1 := by rw [hE0]; simp [hw0, hw1, hw2, hw3, hw4]
   refine nx_ret1 rfl rfl fun wx hm => ?_
   exact ⟨ret_int (by rw [hse, hinv.2, hat, if_neg (by rw [hE]; decide), hE]), hm.g⟩
  refine wl_set 40 rfl (congrArg Value.bool hg4) ?_
  refine wl_guard_on rfl rfl rfl (fd_ fo53_1 rfl rfl (wl_guard_on rfl rfl rfl (lk_ sc3 0 rfl rfl rfl (wl_guard_on rfl rfl rfl ?_))))
  refine wl_ov (ov_gtr rfl rfl) rfl ?_
  refine pf_ rfl rfl (nn_ ?_)
  refine gw_cond rfl (fun hh => ?_) (fun hh => ?_)
  ·have hh4 : 1440 < u9 := by simpa using hh
   clear hh
   refine sr_ ?_
   have hw4 : winBad u8 u9 = true := by unfold winBad; simp [hg4, hh4]
   refine sg_ rfl (nn_ ?_)
   refine gw_ret ?_
   refine nx_blk_ret (nx_then_ret (nx_then_ret (nx_blk_ret (nx_blk_ret (nx_then_ret (nx_then_ret (nx_blk_ret (nx_then_ret ?_))))))))
   have hE : stationE (prevOf l k) ⟨key, [u0, u1, u2, u3, u4, u5, u6, u7, u8, u9, u10, u11, u12, u13]⟩ = 1 := by rw [hE0]; simp [hw0, hw1, hw2, hw3, hw4]
   refine nx_ret1 rfl rfl fun wx hm => ?_
   exact ⟨ret_int (by rw [hse, hinv.2, hat, if_neg (by rw [hE]; decide), hE]), hm.g⟩
  have hh4 : ¬ (1440 < u9) := by simpa using hh
  clear hh
  refine gw_skip (nx_blk_nrm (nx_then (gw_region ?_)))
  have hw4 : winBad u8 u9 = false := by unfold winBad; simp at hg4; simp [hg4]; omega
  refine ad_ rfl rfl ?_
  refine wl_set 45 (v' := .int .i64 5) rfl rfl ?_
  refine mv_ rfl (wl_nil ?_)
  refine nx_next ?_
  refine gr_next ?_
  refine sr_ (wl_ov (ov_lss rfl rfl) rfl ?_)
  refine wl_set 32 (v' := .bool true) rfl (congrArg Value.bool (by decide)) ?_
  refine nn_ (gw_seq (ct_ rfl (gw_skip (nx_then (gw_seq (gw_block (sr_ ?_)))))))
  refine wl_ov (ov_indexA (e := 53) (len := 7) (sz := 2) (i := 5) (cs := [.int .i64 u0, .int .i64 u1, .int .i64 u2, .int .i64 u3, .int .i64 u4, .int .i64 u5, .int .i64 u6, .int .i64 u7, .int .i64 u8, .int .i64 u9, .int .i64 u10, .int .i64 u11, .int .i64 u12, .int .i64 u13]) (vs := [.int .i64 u10, .int .i64 u11]) (by kernel_rfl) rfl rfl (by decide) rfl) rfl ?_
  refine wl_alloc zc53 rfl fun g7 => ?_
  refine wl_stores (cs' := [.int .i64 u10, .int .i64 u11]) 0 rz53 rfl rfl rfl rfl rfl rfl rfl rfl ?_
  refine nn_ (sr_ (fd_ fo53_0 rfl rfl (lk_ sc3 0 rfl rfl rfl (fd_ fo53_1 rfl rfl (lk_ sc3 0 rfl rfl rfl ?_)))))
  refine wl_callw rfl cb93 rfl rfl (fun wx hm => (rin_any _ _ _ wx)) ?_
  refine wl_ov (ov_un_not rfl) rfl (mv_ rfl ?_)
  rcases Bool.eq_false_or_eq_true (!(inB u10 0 u11)) with hg5 | hg5
  ·refine wl_set 40 rfl (congrArg Value.bool hg5) ?_
   have hw5 : winBad u10 u11 = true := by unfold winBad; simp [hg5]
   refine goff rfl rfl rfl (goff rfl rfl rfl (goff rfl rfl rfl (pt_ rfl rfl (nn_ (ct_ rfl (sr_ (sg_ rfl (nn_ ?_))))))))
   refine gw_ret ?_
   refine nx_blk_ret (nx_then_ret (nx_then_ret (nx_blk_ret (nx_blk_ret (nx_then_ret (nx_then_ret (nx_blk_ret (nx_then_ret ?_))))))))
   have hE : stationE (prevOf l k) ⟨key, [u0, u1, u2, u3, u4, u5, u6, u7, u8, u9, u10, u11, u12, u13]⟩ = 1 := by rw [hE0]; simp [hw0, hw1, hw2, hw3, hw4, hw5]
   refine nx_ret1 rfl rfl fun wx hm => ?_
   exact ⟨ret_int (by rw [hse, hinv.2, hat, if_neg (by rw [hE]; decide), hE]), hm.g⟩
  refine wl_set 40 rfl (congrArg Value.bool hg5) ?_
  refine wl_guard_on rfl rfl rfl (fd_ fo53_1 rfl rfl (wl_guard_on rfl rfl rfl (lk_ sc3 0 rfl rfl rfl (wl_guard_on rfl rfl rfl ?_))))
  refine wl_ov (ov_gtr rfl rfl) rfl ?_
  refine pf_ rfl rfl (nn_ ?_)
  refine gw_cond rfl (fun hh => ?_) (fun hh => ?_)
  ·have hh5 : 1440 < u11 := by simpa using hh
   clear hh
   refine sr_ ?_
   have hw5 : winBad u10 u11 = true := by unfold winBad; simp [hg5, hh5]
   refine sg_ rfl (nn_ ?_)
   refine gw_ret ?_
   refine nx_blk_ret (nx_then_ret (nx_then_ret (nx_blk_ret (nx_blk_ret (nx_then_ret (nx_then_ret (nx_blk_ret (nx_then_ret ?_))))))))
   have hE : stationE (prevOf l k) ⟨key, [u0, u1, u2, u3, u4, u5, u6, u7, u8, u9, u10, u11, u12, u13]⟩ = 1 := by rw [hE0]; simp [hw0, hw1, hw2, hw3, hw4, hw5]
   refine nx_ret1 rfl rfl fun wx hm => ?_
   exact ⟨ret_int (by rw [hse, hinv.2, hat, if_neg (by rw [hE]; decide), hE]), hm.g⟩
  have hh5 : ¬ (1440 < u11) := by simpa using hh
  clear hh
  refine gw_skip (nx_blk_nrm (nx_then (gw_region ?_)))
  have hw5 : winBad u10 u11 = false := by unfold winBad; simp at hg5; simp [hg5]; omega
  refine ad_ rfl rfl ?_
  refine wl_set 45 (v' := .int .i64 6) rfl rfl ?_
  refine mv_ rfl (wl_nil ?_)
  refine nx_next ?_
  refine gr_next ?_
  refine sr_ (wl_ov (ov_lss rfl rfl) rfl ?_)
  refine wl_set 32 (v' := .bool true) rfl (congrArg Value.bool (by decide)) ?_
  refine nn_ (gw_seq (ct_ rfl (gw_skip (nx_then (gw_seq (gw_block (sr_ ?_)))))))
  refine wl_ov (ov_indexA (e := 53) (len := 7) (sz := 2) (i := 6) (cs := [.int .i64 u0, .int .i64 u1, .int .i64 u2, .int .i64 u3, .int .i64 u4, .int .i64 u5, .int .i64 u6, .int .i64 u7, .int .i64 u8, .int .i64 u9, .int .i64 u10, .int .i64 u11, .int .i64 u12, .int .i64 u13]) (vs := [.int .i64 u12, .int .i64 u13]) (by kernel_rfl) rfl rfl (by decide) rfl) rfl ?_
  refine wl_alloc zc53 rfl fun g8 => ?_
  refine wl_stores (cs' := [.int .i64 u12, .int .i64 u13]) 0 rz53 rfl rfl rfl rfl rfl rfl rfl rfl ?_
  refine nn_ (sr_ (fd_ fo53_0 rfl rfl (lk_ sc3 0 rfl rfl rfl (fd_ fo53_1 rfl rfl (lk_ sc3 0 rfl rfl rfl ?_)))))
  refine wl_callw rfl cb93 rfl rfl (fun wx hm => (rin_any _ _ _ wx)) ?_
  refine wl_ov (ov_un_not rfl) rfl (mv_ rfl ?_)
  rcases Bool.eq_false_or_eq_true (!(inB u12 0 u13)) with hg6 | hg6
  ·refine wl_set 40 rfl (congrArg Value.bool hg6) ?_
   have hw6 : winBad u12 u13 = true := by unfold winBad; simp [hg6]
   refine goff rfl rfl rfl (goff rfl rfl rfl (goff rfl rfl rfl (pt_ rfl rfl (nn_ (ct_ rfl (sr_ (sg_ rfl (nn_ ?_))))))))
   refine gw_ret ?_
   refine nx_blk_ret (nx_then_ret (nx_then_ret (nx_blk_ret (nx_blk_ret (nx_then_ret (nx_then_ret (nx_blk_ret (nx_then_ret ?_))))))))
   have hE : stationE (prevOf l k) ⟨key, [u0, u1, u2, u3, u4, u5, u6, u7, u8, u9, u10, u11, u12, u13]⟩ = 1 := by rw [hE0]; simp [hw0, hw1, hw2, hw3, hw4, hw5, hw6]
   refine nx_ret1 rfl rfl fun wx hm => ?_
   exact ⟨ret_int (by rw [hse, hinv.2, hat, if_neg (by rw [hE]; decide), hE]), hm.g⟩
  refine wl_set 40 rfl (congrArg Value.bool hg6) ?_
  refine wl_guard_on rfl rfl rfl (fd_ fo53_1 rfl rfl (wl_guard_on rfl rfl rfl (lk_ sc3 0 rfl rfl rfl (wl_guard_on rfl rfl rfl ?_))))
  refine wl_ov (ov_gtr rfl rfl) rfl ?_
  refine pf_ rfl rfl (nn_ ?_)
  refine gw_cond rfl (fun hh => ?_) (fun hh => ?_)
  ·have hh6 : 1440 < u13 := by simpa using hh
   clear hh
   refine sr_ ?_
   have hw6 : winBad u12 u13 = true := by unfold winBad; simp [hg6, hh6]
   refine sg_ rfl (nn_ ?_)
   refine gw_ret ?_
   refine nx_blk_ret (nx_then_ret (nx_then_ret (nx_blk_ret (nx_blk_ret (nx_then_ret (nx_then_ret (nx_blk_ret (nx_then_ret ?_))))))))
   have hE : stationE (prevOf l k) ⟨key, [u0, u1, u2, u3, u4, u5, u6, u7, u8, u9, u10, u11, u12, u13]⟩ = 1 := by rw [hE0]; simp [hw0, hw1, hw2, hw3, hw4, hw5, hw6]
   refine nx_ret1 rfl rfl fun wx hm => ?_
   exact ⟨ret_int (by rw [hse, hinv.2, hat, if_neg (by rw [hE]; decide), hE]), hm.g⟩
  have hh6 : ¬ (1440 < u13) := by simpa using hh
  clear hh
  refine gw_skip (nx_blk_nrm (nx_then (gw_region ?_)))
  have hw6 : winBad u12 u13 = false := by unfold winBad; simp at hg6; simp [hg6]; omega
  have hE : stationE (prevOf l k) ⟨key, [u0, u1, u2, u3, u4, u5, u6, u7, u8, u9, u10, u11, u12, u13]⟩ = 0 := by rw [hE0]; simp [hw0, hw1, hw2, hw3, hw4, hw5, hw6]
  refine ad_ rfl rfl ?_
  refine wl_set 45 (v' := .int .i64 7) rfl rfl ?_
  refine mv_ rfl (wl_nil ?_)
  refine nx_next ?_
  refine gr_next ?_
  refine sr_ (wl_ov (ov_lss rfl rfl) rfl ?_)
  refine wl_set 32 (v' := .bool false) rfl (congrArg Value.bool (by decide)) ?_
  refine nn_ (gw_seq (cf_ rfl ?_))
  refine gw_exit ?_
  refine nx_then_exit (nx_then_exit ?_)
  refine nx_blk_here ?_
  refine nx_blk_nrm (nx_then (gw_region (ad_ rfl rfl (mv_ rfl (wl_nil ?_)))))
  exact nx_round (k + 1) ⟨by omega, by rw [hinv.2, hat, if_pos hE]⟩ (by omega) ⟨(congrArg (fun z => some (Value.string z)) (prevSt_succ hx).symm), rfl, rfl, (some_int (by omega)), trivial⟩ (fun _ hm => hm.pick [] [] [0] rfl rfl)
 have hk : ¬ (((k : Nat) : Int) < ((n : Nat) : Int)) := by simpa using hh
 clear hh
 refine gw_exit ?_
 refine nx_then_exit (nx_then_exit ?_)
 refine nx_blk_here ?_
 refine nx_then (sr_ (sg_ rfl (nn_ ?_)))
 refine gw_ret ?_
 refine nx_ret1 rfl rfl fun wx hm => ?_
 exact ⟨ret_int (by rw [hse, hinv.2, scanE_end _ _ _ _ (by omega)]), hm.g⟩
theorem momentFault_any (at_ : Int) (w : World) : Calls Tryz.prog 21 #[.int .i64 at_] w (GotE w (momentE at_)) := by
 refine gw_enter ⟨7, w, none, []⟩ Tryz.func21 rfl Tryz.ntmps21 rfl (mem0 (X := []) allF_nil allL_nil) ?_
 refine sr_ (sg_ rfl (nn_ (sr_ (mv_ rfl ?_))))
 refine wl_callw rfl cb87 rfl rfl (fun wx hm => (rmoment_any _ wx)) ?_
 refine wl_ov (ov_un_not rfl) rfl ?_
 refine wl_callw rfl cb19 rfl rfl (fun wx hm => (rwhen_any _ _ wx)) ?_
 refine sg_ rfl (nn_ ?_)
 refine gw_ret ?_
 refine nx_ret1 rfl rfl fun wx hm => ?_
 exact ⟨ret_int (by unfold momentE; first | rfl | simp), hm.g⟩
end Go.Proofs.YtjecbkgjabnmoaaGreatDoor
namespace Go.Proofs.YtjecbkgjabnmoaaGreatDoor
open Go.RowKit
def prevVh (l : List Vh) (k : Nat) : ByteArray := match prevOf l k with
  | none => ⟨#[]⟩
  | some q => q.key
theorem prevVh_succ {l : List Vh} {k : Nat} {x : Vh} (h : l[k]? = some x) : prevVh l (k + 1) = x.key := by
  unfold prevVh prevOf; rw [if_neg (by omega), Nat.add_sub_cancel, h]
theorem prevVh_le {l : List Vh} {k : Nat} {b : Vh} (h : keyB b.key = true) : leB b.key (prevVh l k) = leVh (prevOf l k) b := by
  unfold prevVh leVh
  cases prevOf l k with
  | none => exact key_low h
  | some q => rfl
theorem ix_dec {α : Type} {p : α → Bool} {l : List α} : decide (0 ≤ ixP p l 0) = l.any p := ix_any
theorem twin_any (pf : Int) (pv pp : ByteArray) (of : Int) (ov op : ByteArray) (gp : Nat) (w : World) (hk : Blk w gp 143 [.int .i64 pf, .string pv, .string pp]) :
  Calls Tryz.prog 90 #[.agg #[.int .i64 of, .string ov, .string op], .pointer (some ⟨gp, 0, none⟩)] w (fun e w' => e = .returned (.bool (plTwin ⟨pf, pv, pp⟩ ⟨of, ov, op⟩)) ∧ w.grownBy w' none) := by
 refine gw_enter ⟨23, w, none, []⟩ Tryz.func90 rfl Tryz.ntmps90 rfl (mem0 (X := [BlkOld w.heap.size none gp 143 [.int .i64 pf, .string pv, .string pp]]) (allF_cons hk.old allF_nil) (allL_cons BlkOld.lasts allL_nil)) ?_
 refine sr_ ?_
 refine wl_box rfl rfl rfl fun g1 => ?_
 refine sg_ rfl (nn_ (sr_ (fd_ fo143_0 rfl rfl (lk_ sc3 0 rfl rfl rfl (fd_ fo143_0 rfl rfl ?_)))))
 refine wl_ov (ov_load (v := .int .i64 pf) sc3 rfl (fun _ hm => (hm.fact 0 rfl).2) rfl) rfl ?_
 refine wl_ov (ov_eql rfl rfl) rfl (mv_ rfl ?_)
 rcases Bool.eq_false_or_eq_true (decide (of = pf)) with h1 | h1
 ·refine wl_set 9 rfl (congrArg Value.bool h1) ?_
  refine wl_guard_on rfl rfl rfl (fd_ fo143_1 rfl rfl (wl_guard_on rfl rfl rfl (lk_ sc9 0 rfl rfl rfl (wl_guard_on rfl rfl rfl (fd_ fo143_1 rfl rfl (wl_guard_on rfl rfl rfl ?_))))))
  refine wl_ov (ov_load (v := .string pv) sc9 rfl (fun _ hm => (hm.fact 0 rfl).2) rfl) rfl ?_
  refine wl_guard_on rfl rfl rfl (wl_ov (ov_seql rfl rfl) rfl (wl_guard_on rfl rfl rfl (mv_ rfl ?_)))
  rcases Bool.eq_false_or_eq_true (ov.toList == pv.toList) with h2 | h2
  ·refine wl_set 15 rfl (congrArg Value.bool h2) ?_
   refine goff rfl rfl rfl (goff rfl rfl rfl (goff rfl rfl rfl (goff rfl rfl rfl (goff rfl rfl rfl (wl_guard_on rfl rfl rfl (pt_ rfl rfl (pt_ rfl rfl (sg_ rfl (nn_ ?_)))))))))
   refine gw_ret ?_
   refine nx_ret1 rfl rfl fun wx hm => ?_
   exact ⟨by unfold plTwin; simp only [h1, h2]; rfl, hm.g⟩
  refine wl_set 15 rfl (congrArg Value.bool h2) ?_
  refine wl_guard_on rfl rfl rfl (fd_ fo143_2 rfl rfl (wl_guard_on rfl rfl rfl (lk_ sc9 0 rfl rfl rfl (wl_guard_on rfl rfl rfl (fd_ fo143_2 rfl rfl (wl_guard_on rfl rfl rfl ?_))))))
  refine wl_ov (ov_load (v := .string pp) sc9 rfl (fun _ hm => (hm.fact 0 rfl).2) rfl) rfl ?_
  refine wl_guard_on rfl rfl rfl (wl_ov (ov_seql rfl rfl) rfl (wl_guard_on rfl rfl rfl (pf_ rfl rfl (pt_ rfl rfl (sg_ rfl (nn_ ?_))))))
  refine gw_ret ?_
  refine nx_ret1 rfl rfl fun wx hm => ?_
  exact ⟨by unfold plTwin; simp only [h1, h2]; rfl, hm.g⟩
 refine wl_set 9 rfl (congrArg Value.bool h1) ?_
 refine goff rfl rfl rfl (goff rfl rfl rfl (goff rfl rfl rfl (goff rfl rfl rfl (goff rfl rfl rfl (goff rfl rfl rfl (gnd rfl rfl rfl (gnd rfl rfl rfl (gnd rfl rfl rfl (gnd rfl rfl rfl (gnd rfl rfl rfl (goff rfl rfl rfl (pf_ rfl rfl (sg_ rfl ?_)))))))))))))
 refine nn_ ?_
 refine gw_ret ?_
 refine nx_ret1 rfl rfl fun wx hm => ?_
 exact ⟨by unfold plTwin; simp only [h1]; rfl, hm.g⟩
theorem twinIx_any (l : List Pl) (A : Option Addr) (n c0 : Nat) (pf : Int) (pv pp : ByteArray) (gp : Nat) (w : World) (hl : SlT plEnc 3 143 w A n l) (hn : n ≤ 1000000) (hk : Blk w gp 143 [.int .i64 pf, .string pv, .string pp]) :
  Calls Tryz.prog 170 #[.slice A n c0, .func (.func 90) #[] #[.pointer (some ⟨gp, 0, none⟩)]] w (GotE w (ixP (plTwin ⟨pf, pv, pp⟩) l 0)) := by
 refine gw_enter ⟨19, w, none, []⟩ Tryz.func170 rfl Tryz.ntmps170 rfl (mem0 (X := [SlOld plEnc 3 143 w.heap.size none A n l, BlkOld w.heap.size none gp 143 [.int .i64 pf, .string pv, .string pp]]) (allF_cons hl.old (allF_cons hk.old allF_nil)) (allL_cons SlOld.lasts (allL_cons BlkOld.lasts allL_nil))) ?_
 refine sr_ ?_
 have hlen := hl.len
 refine sg_ rfl (nn_ (gw_seq (sr_ (mv_ rfl (wl_ov (ov_len es29 rfl) rfl (mv_ rfl (nn_ (gw_block ?_))))))))
 refine gw_loop (γ := Nat) (fun (i : Nat) => i ≤ n ∧ ixP (plTwin ⟨pf, pv, pp⟩) l 0 = ixP (plTwin ⟨pf, pv, pp⟩) (l.drop i) i) (fun (i : Nat) => [(0, .slice A n c0), (1, .func (.func 90) #[] #[.pointer (some ⟨gp, 0, none⟩)]), (7, .int .i64 ((n : Nat) : Int)), (8, .int .i64 ((i : Nat) : Int))]) (fun (i : Nat) => fun _ => True) (fun (i : Nat) => []) (fun (i : Nat) => []) (fun (i : Nat) => [SlOld plEnc 3 143 w.heap.size none A n l, BlkOld w.heap.size none gp 143 [.int .i64 pf, .string pv, .string pp]]) (fun (i : Nat) => n - i) 0 ⟨Nat.zero_le _, rfl⟩ ⟨rfl, rfl, rfl, rfl, trivial⟩ (fun _ hm => hm.pick [] [] [0, 1] rfl rfl) ?_
 intro i hinv
 replace hinv : i ≤ n ∧ ixP (plTwin ⟨pf, pv, pp⟩) l 0 = ixP (plTwin ⟨pf, pv, pp⟩) (l.drop i) i := hinv
 refine sr_ (wl_ov (ov_lss rfl rfl) rfl (nn_ (gw_seq ?_)))
 refine gw_cond rfl (fun hh => ?_) (fun hh => ?_)
 ·have hi : ((i : Nat) : Int) < ((n : Nat) : Int) := by simpa using hh
  clear hh
  refine gw_skip (nx_then (gw_seq (gw_block (sr_ ?_))))
  obtain ⟨b, off, hA, _, _⟩ := hl.get (by omega)
  subst hA
  obtain ⟨x, hx⟩ : ∃ x, l[i]? = some x := ⟨_, List.getElem?_eq_getElem (by omega)⟩
  obtain ⟨of, ov, op⟩ := x
  have hat := ixP_at (p := plTwin ⟨pf, pv, pp⟩) hx
  refine mv_ rfl (sg_ rfl (nn_ (sr_ (mv_ rfl (mv_ rfl (mv_ rfl ?_))))))
  refine wl_ov (ov_index (j := i) es29 rfl rfl (by omega)) rfl ?_
  refine wl_ov (ov_elem (vs := [.int .i64 of, .string ov, .string op]) rz143 rfl (fun _ hm => (hm.fact 0 rfl).1) hx rfl rfl) rfl ?_
  refine wl_callv rfl cb90 rfl rfl (fun wx hm => (twin_any pf pv pp of ov op gp wx (hm.fact 1 rfl).2)) ?_
  refine nn_ ?_
  refine gw_cond rfl (fun hh => ?_) (fun hh => ?_)
  ·have hq : (plTwin ⟨pf, pv, pp⟩ ⟨of, ov, op⟩) = true := by simpa using hh
   clear hh
   refine sr_ (mv_ rfl (sg_ rfl (nn_ ?_)))
   refine gw_ret ?_
   refine nx_blk_ret (nx_then_ret (nx_then_ret (nx_blk_ret (nx_then_ret ?_))))
   refine nx_ret1 rfl rfl fun wx hm => ?_
   exact ⟨ret_int (by rw [hinv.2, hat, if_pos hq]), hm.g⟩
  have hq : (plTwin ⟨pf, pv, pp⟩ ⟨of, ov, op⟩) = false := by simpa using hh
  clear hh
  refine gw_skip (nx_blk_nrm (nx_then (gw_region (ad_ rfl rfl (mv_ rfl (wl_nil ?_))))))
  exact nx_round (i + 1) ⟨by omega, by rw [hinv.2, hat, if_neg (by rw [hq]; decide)]⟩ (by omega) ⟨rfl, rfl, rfl, (some_int (by omega)), trivial⟩ (fun _ hm => hm.pick [] [] [0, 1] rfl rfl)
 have hi : ¬ (((i : Nat) : Int) < ((n : Nat) : Int)) := by simpa using hh
 clear hh
 refine gw_exit ?_
 refine nx_then_exit (nx_then_exit ?_)
 refine nx_blk_here ?_
 refine nx_then (sr_ (sg_ rfl ?_))
 refine wl_set 4 (v' := .int .i64 (-1)) rfl rfl ?_
 refine nn_ ?_
 refine gw_ret ?_
 refine nx_ret1 rfl rfl fun wx hm => ?_
 exact ⟨ret_int (by rw [hinv.2, List.drop_eq_nil_of_le (by omega)]; rfl), hm.g⟩
theorem twinHas_any (l : List Pl) (A : Option Addr) (n c0 : Nat) (pf : Int) (pv pp : ByteArray) (gp : Nat) (w : World) (hl : SlT plEnc 3 143 w A n l) (hn : n ≤ 1000000) (hk : Blk w gp 143 [.int .i64 pf, .string pv, .string pp]) :
  Calls Tryz.prog 89 #[.slice A n c0, .func (.func 90) #[] #[.pointer (some ⟨gp, 0, none⟩)]] w (fun e w' => e = .returned (.bool (l.any (plTwin ⟨pf, pv, pp⟩))) ∧ w.grownBy w' none) := by
 refine gw_enter ⟨9, w, none, []⟩ Tryz.func89 rfl Tryz.ntmps89 rfl (mem0 (X := [SlOld plEnc 3 143 w.heap.size none A n l, BlkOld w.heap.size none gp 143 [.int .i64 pf, .string pv, .string pp]]) (allF_cons hl.old (allF_cons hk.old allF_nil)) (allL_cons SlOld.lasts (allL_cons BlkOld.lasts allL_nil))) ?_
 refine sr_ (sg_ rfl (nn_ (sr_ (mv_ rfl (mv_ rfl ?_)))))
 refine wl_callv rfl cb170 rfl rfl (fun wx hm => (twinIx_any l A n c0 pf pv pp gp wx (hm.fact 0 rfl).1 hn (hm.fact 1 rfl).2)) ?_
 refine wl_ov (ov_geq rfl rfl) rfl ?_
 refine sg_ rfl (nn_ ?_)
 refine gw_ret ?_
 refine nx_ret1 rfl rfl fun wx hm => ?_
 exact ⟨by rw [← ix_dec], hm.g⟩
theorem fleetFault_any (sl : List St) (cl : List Cs) (vl : List Vh) (pl : List Pl) (sA cA vA pA : Option Addr) (sn sc cn cc vn vc pn pc : Nat) (w : World) (hs : SlT stEnc 15 140 w sA sn sl) (hc : SlT csEnc 2 159 w cA cn cl) (hv : SlT vhEnc 2 77 w vA vn vl) (hp : SlT plEnc 3 143 w pA pn pl) (hsok : ∀ x ∈ sl, StOk x) (hcok : ∀ x ∈ cl, CsOk x) (hvok : ∀ x ∈ vl, VhOk x) (hpok : ∀ x ∈ pl, PlOk x) (hsn : sn ≤ 1000) (hcn : cn ≤ 1000) (hvn : vn ≤ 1000) (hpn : pn ≤ 1000) (hpc : pn ≤ pc) :
  Calls Tryz.prog 17 #[.agg #[.slice sA sn sc, .slice cA cn cc, .slice vA vn vc, .slice pA pn pc]] w (GotE w (fleetE sl cl vl pl)) := by
 refine gw_enter ⟨104, w, none, []⟩ Tryz.func17 rfl Tryz.ntmps17 rfl (mem0 (X := [SlOld stEnc 15 140 w.heap.size none sA sn sl, SlOld csEnc 2 159 w.heap.size none cA cn cl, SlOld vhEnc 2 77 w.heap.size none vA vn vl, SlOld plEnc 3 143 w.heap.size none pA pn pl]) (allF_cons hs.old (allF_cons hc.old (allF_cons hv.old (allF_cons hp.old allF_nil)))) (allL_cons SlOld.lasts (allL_cons SlOld.lasts (allL_cons SlOld.lasts (allL_cons SlOld.lasts allL_nil))))) ?_
 refine sr_ ?_
 have hlen := hv.len
 have hlenp := hp.len
 obtain ⟨SE, hSE⟩ : ∃ z, z = stationsE sl := ⟨_, rfl⟩
 obtain ⟨CE, hCE⟩ : ∃ z, z = classesE cl := ⟨_, rfl⟩
 obtain ⟨TE, hTE⟩ : ∃ z, z = fleetE sl cl vl pl := ⟨_, rfl⟩
 rw [← hTE]
 have hT0 : TE = firstE [SE, CE, vehsE cl vl, platesE vl pl] := by rw [hTE, hSE, hCE]; rfl
 refine wl_box rfl rfl rfl fun g1 => ?_
 refine sg_ rfl (nn_ (gw_seq (sr_ (fd_ fo31_0 rfl rfl (lk_ sc26 0 rfl rfl rfl ?_)))))
 refine wl_callv (v := .int .i64 SE) rfl cb84 rfl rfl (fun wx hm => (by rw [hSE]; exact stationsFault_any sl sA sn sc wx (hm.fact 0 rfl).1 hsok (by omega))) ?_
 refine sg_ rfl (nn_ (sr_ (mv_ rfl (wl_ov (ov_neq rfl rfl) rfl (nn_ ?_)))))
 refine gw_cond rfl (fun hh => ?_) (fun hh => ?_)
 ·have h1 : ¬ (SE = 0) := by simpa using hh
  clear hh
  refine sr_ ?_
  have h2 : SE ≠ 0 := by simpa using h1
  have h3 : TE = SE := by rw [hT0]; simp [firstE, h2]
  refine mv_ rfl (sg_ rfl (nn_ ?_))
  refine gw_ret ?_
  refine nx_then_ret ?_
  refine nx_ret1 rfl rfl fun wx hm => ?_
  exact ⟨ret_int (by rw [h3]), hm.g⟩
 have h1 : SE = 0 := by simpa using hh
 clear hh
 refine gw_skip (nx_then (gw_seq (sr_ ?_)))
 have hS0 : SE = 0 := by simpa using h1
 refine fd_ fo31_1 rfl rfl (lk_ sc27 0 rfl rfl rfl ?_)
 refine wl_callv (v := .int .i64 CE) rfl cb85 rfl rfl (fun wx hm => (by rw [hCE]; exact classesFault_any cl cA cn cc wx (hm.fact 1 rfl).1 hcok (by omega))) ?_
 refine sg_ rfl (nn_ (sr_ (mv_ rfl (wl_ov (ov_neq rfl rfl) rfl (nn_ ?_)))))
 refine gw_cond rfl (fun hh => ?_) (fun hh => ?_)
 ·have h2 : ¬ (CE = 0) := by simpa using hh
  clear hh
  refine sr_ ?_
  have h3 : CE ≠ 0 := by simpa using h2
  have h4 : TE = CE := by rw [hT0]; simp [firstE, hS0, h3]
  refine mv_ rfl (sg_ rfl (nn_ ?_))
  refine gw_ret ?_
  refine nx_then_ret ?_
  refine nx_ret1 rfl rfl fun wx hm => ?_
  exact ⟨ret_int (by rw [h4]), hm.g⟩
 have h2 : CE = 0 := by simpa using hh
 clear hh
 refine gw_skip (nx_then (gw_seq (sr_ ?_)))
 have hC0 : CE = 0 := by simpa using h2
 have hT1 : TE = firstE [vehsE cl vl, platesE vl pl] := by rw [hT0, hS0, hC0]; rfl
 refine fd_ fo31_2 rfl rfl (lk_ sc28 0 rfl rfl rfl (wl_ov (ov_len es28 rfl) rfl ?_))
 refine wl_ov (ov_gtr rfl rfl) rfl ?_
 refine nn_ ?_
 refine gw_cond rfl (fun hh => ?_) (fun hh => ?_)
 ·have h3 : 500 < ((vn : Nat) : Int) := by simpa using hh
  clear hh
  refine sr_ ?_
  have h4 : TE = 2 := by rw [hT1, show vehsE cl vl = 2 by unfold vehsE; rw [if_pos (by omega)]]; rfl
  refine sg_ rfl (nn_ ?_)
  refine gw_ret ?_
  refine nx_then_ret ?_
  refine nx_ret1 rfl rfl fun wx hm => ?_
  exact ⟨ret_int (by rw [h4]), hm.g⟩
 have h3 : ¬ (500 < ((vn : Nat) : Int)) := by simpa using hh
 clear hh
 refine gw_skip (nx_then (sr_ ?_))
 have hT2 : TE = firstE [scanE (vhE cl) none vl, platesE vl pl] := by rw [hT1]; unfold vehsE; rw [if_neg (by omega)]
 refine sg_ rfl (nn_ (gw_seq (sr_ (fd_ fo31_2 rfl rfl (lk_ sc28 0 rfl rfl rfl (wl_ov (ov_len es28 rfl) rfl (mv_ rfl (nn_ (gw_block ?_)))))))))
 refine gw_loop (γ := Nat) (fun (i : Nat) => i ≤ vn ∧ scanE (vhE cl) none vl = scanE (vhE cl) (prevOf vl i) (vl.drop i)) (fun (i : Nat) => [(1, .pointer (some ⟨g1, 0, none⟩)), (5, .string (prevVh vl i)), (28, .slice vA vn vc), (29, .int .i64 ((vn : Nat) : Int)), (30, .int .i64 ((i : Nat) : Int))]) (fun (i : Nat) => fun _ => True) (fun (i : Nat) => [(g1, 31, [.slice sA sn sc, .slice cA cn cc, .slice vA vn vc, .slice pA pn pc])]) (fun (i : Nat) => []) (fun (i : Nat) => [SlOld stEnc 15 140 w.heap.size none sA sn sl, SlOld csEnc 2 159 w.heap.size none cA cn cl, SlOld vhEnc 2 77 w.heap.size none vA vn vl, SlOld plEnc 3 143 w.heap.size none pA pn pl]) (fun (i : Nat) => vn - i) 0 ⟨Nat.zero_le _, rfl⟩ ⟨rfl, rfl, rfl, rfl, rfl, trivial⟩ (fun _ hm => hm.pick [0] [] [0, 1, 2, 3] rfl rfl) ?_
 intro i hinv
 replace hinv : i ≤ vn ∧ scanE (vhE cl) none vl = scanE (vhE cl) (prevOf vl i) (vl.drop i) := hinv
 refine sr_ ?_
 obtain ⟨hi0, hsc⟩ := hinv
 refine wl_ov (ov_lss rfl rfl) rfl (nn_ (gw_seq ?_))
 refine gw_cond rfl (fun hh => ?_) (fun hh => ?_)
 ·have hi : ((i : Nat) : Int) < ((vn : Nat) : Int) := by simpa using hh
  clear hh
  refine gw_skip (nx_then (gw_seq (gw_block (sr_ ?_))))
  obtain ⟨bv, ov, hA, _, _⟩ := hv.get (by omega)
  subst hA
  obtain ⟨x, hx⟩ : ∃ x, vl[i]? = some x := ⟨_, List.getElem?_eq_getElem (by omega)⟩
  obtain ⟨vk, vc2⟩ := x
  have hat := scanE_at (vhE cl) vl i _ hx
  obtain ⟨hvk, hvc2⟩ := hvok _ (List.mem_of_getElem? hx)
  have hvk : vk.size ≤ 1000000 := hvk
  refine wl_ov (ov_index (j := i) es28 rfl rfl (by omega)) rfl ?_
  refine wl_ov (ov_elem (vs := [.string vk, .string vc2]) rz77 rfl (fun _ hm => (hm.fact 2 rfl).1) hx rfl rfl) rfl ?_
  refine wl_alloc zc77 rfl fun g2 => ?_
  refine wl_stores (cs' := [.string vk, .string vc2]) 0 rz77 rfl rfl rfl rfl rfl rfl rfl rfl ?_
  refine nn_ (gw_seq (gw_block (sr_ (fd_ fo77_0 rfl rfl (lk_ sc9 0 rfl rfl rfl ?_)))))
  refine wl_callv rfl cb86 rfl rfl (fun wx hm => (key_any _ wx (by omega))) ?_
  refine wl_ov (ov_un_not rfl) rfl (sg_ rfl (nn_ ?_))
  refine gw_cond rfl (fun hh => ?_) (fun hh => ?_)
  ·have h4 : (keyB vk) = false := by simpa using hh
   clear hh
   refine sr_ (sg_ rfl (nn_ ?_))
   refine gw_ret ?_
   refine nx_blk_ret (nx_then_ret (nx_blk_ret (nx_then_ret (nx_then_ret (nx_blk_ret (nx_then_ret ?_))))))
   have hE : vhE cl (prevOf vl i) ⟨vk, vc2⟩ = 5 := vhE_one (by simpa using h4)
   have hF : scanE (vhE cl) none vl = 5 := by rw [hsc, hat, if_neg (by rw [hE]; decide), hE]
   refine nx_ret1 rfl rfl fun wx hm => ?_
   exact ⟨ret_int (by rw [hT2, hF, fe_left (by decide)]), hm.g⟩
  have h4 : (keyB vk) = true := by simpa using hh
  clear hh
  refine sr_ (fd_ fo77_0 rfl rfl (lk_ sc9 0 rfl rfl rfl (mv_ rfl ?_)))
  refine wl_ov (ov_sleq rfl rfl) rfl ?_
  refine sg_ rfl (nn_ ?_)
  refine gw_cond rfl (fun hh => ?_) (fun hh => ?_)
  ·have h5 : (Op.bytesLess vk.toList (prevVh vl i).toList || vk.toList == (prevVh vl i).toList) = true := by simpa using hh
   clear hh
   refine sr_ ?_
   have hle : leVh (prevOf vl i) ⟨vk, vc2⟩ = true := (prevVh_le (b := ⟨vk, vc2⟩) (by simpa using h4)).symm.trans h5
   refine sg_ rfl (nn_ ?_)
   refine gw_ret ?_
   refine nx_blk_ret (nx_then_ret (nx_blk_ret (nx_then_ret (nx_then_ret (nx_blk_ret (nx_then_ret ?_))))))
   have hE : vhE cl (prevOf vl i) ⟨vk, vc2⟩ = 7 := vhE_two (by simpa using h4) hle
   have hF : scanE (vhE cl) none vl = 7 := by rw [hsc, hat, if_neg (by rw [hE]; decide), hE]
   refine nx_ret1 rfl rfl fun wx hm => ?_
   exact ⟨ret_int (by rw [hT2, hF, fe_left (by decide)]), hm.g⟩
  have h5 : (Op.bytesLess vk.toList (prevVh vl i).toList || vk.toList == (prevVh vl i).toList) = false := by simpa using hh
  clear hh
  refine sr_ ?_
  have hle : leVh (prevOf vl i) ⟨vk, vc2⟩ = false := (prevVh_le (b := ⟨vk, vc2⟩) (by simpa using h4)).symm.trans h5
  have h8 := vhE_three (cl := cl) (b := ⟨vk, vc2⟩) (by simpa using h4) hle
  refine fd_ fo31_1 rfl rfl (lk_ sc27 1 rfl rfl rfl (fd_ fo77_1 rfl rfl (lk_ sc9 0 rfl rfl rfl ?_)))
  refine wl_callv rfl cb49 rfl rfl (fun wx hm => (rClassAt_any cl cA cn cc vc2 wx (hm.fact 1 rfl).1 (by omega))) ?_
  refine wl_ov (ov_lss rfl rfl) rfl (sg_ rfl (nn_ ?_))
  refine gw_cond rfl (fun hh => ?_) (fun hh => ?_)
  ·have h6 : ixP (csP vc2) cl 0 < 0 := by simpa using hh
   clear hh
   refine sr_ (sg_ rfl (nn_ ?_))
   refine gw_ret ?_
   refine nx_blk_ret (nx_then_ret (nx_blk_ret (nx_then_ret (nx_then_ret (nx_blk_ret (nx_then_ret ?_))))))
   have hE : vhE cl (prevOf vl i) ⟨vk, vc2⟩ = 8 := by rw [h8, if_pos h6]
   have hF : scanE (vhE cl) none vl = 8 := by rw [hsc, hat, if_neg (by rw [hE]; decide), hE]
   refine nx_ret1 rfl rfl fun wx hm => ?_
   exact ⟨ret_int (by rw [hT2, hF, fe_left (by decide)]), hm.g⟩
  have h6 : ¬ (ixP (csP vc2) cl 0 < 0) := by simpa using hh
  clear hh
  refine gw_skip (nx_blk_nrm (nx_then (gw_region ?_)))
  have hE : vhE cl (prevOf vl i) ⟨vk, vc2⟩ = 0 := by rw [h8, if_neg h6]
  refine fd_ fo77_0 rfl rfl (lk_ sc9 0 rfl rfl rfl (sg_ rfl (wl_nil (nx_blk_nrm (nx_then (gw_region (ad_ rfl rfl (mv_ rfl (wl_nil ?_)))))))))
  exact nx_round (i + 1) ⟨by omega, by rw [hsc, hat, if_pos hE]⟩ (by omega) ⟨rfl, (congrArg (fun z => some (Value.string z)) (prevVh_succ hx).symm), rfl, rfl, (some_int (by omega)), trivial⟩ (fun _ hm => hm.pick [1] [] [0, 1, 2, 3] rfl rfl)
 have hi : ¬ (((i : Nat) : Int) < ((vn : Nat) : Int)) := by simpa using hh
 clear hh
 refine gw_exit ?_
 refine nx_then_exit (nx_then_exit ?_)
 refine nx_blk_here ?_
 refine nx_then (gw_seq (sr_ ?_))
 have hz : scanE (vhE cl) none vl = 0 := by rw [hsc, List.drop_eq_nil_of_le (by omega)]; rfl
 have hT3 : TE = platesE vl pl := by rw [hT2, hz, fe_right]
 clear hsc hi0 hi
 refine fd_ fo31_3 rfl rfl (lk_ sc29 0 rfl rfl rfl (wl_ov (ov_len es29 rfl) rfl ?_))
 refine wl_ov (ov_gtr rfl rfl) rfl ?_
 refine nn_ ?_
 refine gw_cond rfl (fun hh => ?_) (fun hh => ?_)
 ·have h7 : 1000 < ((pn : Nat) : Int) := by simpa using hh
  clear hh
  refine sr_ (sg_ rfl (nn_ ?_))
  refine gw_ret ?_
  refine nx_then_ret ?_
  refine nx_ret1 rfl rfl fun wx hm => ?_
  exact ⟨ret_int (by rw [hT3]; unfold platesE; rw [if_pos (by omega)]), hm.g⟩
 have h7 : ¬ (1000 < ((pn : Nat) : Int)) := by simpa using hh
 clear hh
 refine gw_skip (nx_then (gw_seq (sr_ (fd_ fo31_3 rfl rfl (lk_ sc29 0 rfl rfl rfl (wl_ov (ov_len es29 rfl) rfl (mv_ rfl (nn_ (gw_block ?_)))))))))
 refine gw_loop (γ := Nat) (fun (i : Nat) => i ≤ pn ∧ platesE vl pl = plG vl (pl.take i) (pl.drop i)) (fun (i : Nat) => [(1, .pointer (some ⟨g1, 0, none⟩)), (59, .slice pA pn pc), (60, .int .i64 ((pn : Nat) : Int)), (61, .int .i64 ((i : Nat) : Int))]) (fun (i : Nat) => fun _ => True) (fun (i : Nat) => [(g1, 31, [.slice sA sn sc, .slice cA cn cc, .slice vA vn vc, .slice pA pn pc])]) (fun (i : Nat) => []) (fun (i : Nat) => [SlOld stEnc 15 140 w.heap.size none sA sn sl, SlOld csEnc 2 159 w.heap.size none cA cn cl, SlOld vhEnc 2 77 w.heap.size none vA vn vl, SlOld plEnc 3 143 w.heap.size none pA pn pl]) (fun (i : Nat) => pn - i) 0 ⟨Nat.zero_le _, by unfold platesE; rw [if_neg (by omega)]; rfl⟩ ⟨rfl, rfl, rfl, rfl, trivial⟩ (fun _ hm => hm.pick [0] [] [0, 1, 2, 3] rfl rfl) ?_
 intro i hinv
 replace hinv : i ≤ pn ∧ platesE vl pl = plG vl (pl.take i) (pl.drop i) := hinv
 refine sr_ ?_
 obtain ⟨hi0, hpe⟩ := hinv
 refine wl_ov (ov_lss rfl rfl) rfl (nn_ (gw_seq ?_))
 refine gw_cond rfl (fun hh => ?_) (fun hh => ?_)
 ·have hi : ((i : Nat) : Int) < ((pn : Nat) : Int) := by simpa using hh
  clear hh
  refine gw_skip (nx_then (gw_seq (gw_block (sr_ ?_))))
  obtain ⟨bp, op, hA, _, _⟩ := hp.get (by omega)
  subst hA
  obtain ⟨x, hx⟩ : ∃ x, pl[i]? = some x := ⟨_, List.getElem?_eq_getElem (by omega)⟩
  obtain ⟨pf, pv, pp⟩ := x
  have hat := plG_at (vs := vl) hx
  obtain ⟨hpf, hpv, hpp⟩ := hpok _ (List.mem_of_getElem? hx)
  have hpv : pv.size ≤ 1000000 := hpv
  have hpp : pp.size ≤ 1000000 := hpp
  have hpf : -4000000000000000000 ≤ pf ∧ pf ≤ 4000000000000000000 := hpf
  have hil : i < pl.length := by omega
  have hic : i ≤ pc := by omega
  refine mv_ rfl ?_
  refine wl_ov (ov_index (j := i) es29 rfl rfl (by omega)) rfl ?_
  refine wl_ov (ov_elem (vs := [.int .i64 pf, .string pv, .string pp]) rz143 rfl (fun _ hm => (hm.fact 3 rfl).1) hx rfl rfl) rfl ?_
  refine wl_alloc zc143 rfl fun g3 => ?_
  refine sg_ rfl ?_
  refine wl_stores (cs' := [.int .i64 pf, .string pv, .string pp]) 0 rz143 rfl rfl rfl rfl rfl rfl rfl rfl ?_
  refine nn_ (sr_ (fd_ fo31_3 rfl rfl (lk_ sc29 1 rfl rfl rfl (mv_ rfl ?_))))
  refine wl_ov (ov_sliceHi (hi := i) es29 rfl rfl rfl (by omega)) rfl ?_
  refine sg_ rfl (nn_ (gw_block (sr_ (fd_ fo143_0 rfl rfl (lk_ sc3 0 rfl rfl rfl ?_)))))
  refine wl_callw rfl cb87 rfl rfl (fun wx hm => (rmoment_any _ wx)) ?_
  refine wl_ov (ov_un_not rfl) rfl (sg_ rfl (nn_ ?_))
  refine gw_cond rfl (fun hh => ?_) (fun hh => ?_)
  ·have h8 : (inB pf 0 5761439) = false := by simpa using hh
   clear hh
   refine sr_ (sg_ rfl (nn_ ?_))
   refine gw_ret ?_
   refine nx_blk_ret (nx_blk_ret (nx_then_ret (nx_then_ret (nx_blk_ret (nx_then_ret ?_)))))
   have hE : plE vl (pl.take i) ⟨pf, pv, pp⟩ = 1 := plE_one (by simpa using h8)
   refine nx_ret1 rfl rfl fun wx hm => ?_
   exact ⟨ret_int (by rw [hT3, hpe, hat, if_neg (by rw [hE]; decide), hE]), hm.g⟩
  have h8 : (inB pf 0 5761439) = true := by simpa using hh
  clear hh
  refine sr_ ?_
  refine wl_ov (ov_loads rz31 rfl (fun _ hm => hm.blkI 1 rfl) rfl rfl) rfl ?_
  refine fd_ fo143_1 rfl rfl (lk_ sc9 0 rfl rfl rfl ?_)
  refine wl_callv rfl cb20 rfl rfl (fun wx hm => (rVehicleAt_any vl sA cA vA (some ⟨bp, op, none⟩) sn sc cn cc vn vc pn pc pv wx (hm.fact 2 rfl).1 (by omega))) ?_
  refine wl_ov (ov_lss rfl rfl) rfl (sg_ rfl (nn_ ?_))
  refine gw_cond rfl (fun hh => ?_) (fun hh => ?_)
  ·have h9 : ixP (vhP pv) vl 0 < 0 := by simpa using hh
   clear hh
   refine sr_ (sg_ rfl (nn_ ?_))
   refine gw_ret ?_
   refine nx_blk_ret (nx_blk_ret (nx_then_ret (nx_then_ret (nx_blk_ret (nx_then_ret ?_)))))
   have hE : plE vl (pl.take i) ⟨pf, pv, pp⟩ = 8 := plE_two (by simpa using h8) h9
   refine nx_ret1 rfl rfl fun wx hm => ?_
   exact ⟨ret_int (by rw [hT3, hpe, hat, if_neg (by rw [hE]; decide), hE]), hm.g⟩
  have h9 : ¬ (ixP (vhP pv) vl 0 < 0) := by simpa using hh
  clear hh
  refine sr_ (fd_ fo143_2 rfl rfl (lk_ sc9 0 rfl rfl rfl ?_))
  refine wl_callv rfl cb22 rfl rfl (fun wx hm => (plateForm_any pp wx hpp)) ?_
  refine wl_ov (ov_un_not rfl) rfl (sg_ rfl (nn_ ?_))
  refine gw_cond rfl (fun hh => ?_) (fun hh => ?_)
  ·have h10 : (plateB pp) = false := by simpa using hh
   clear hh
   refine sr_ (sg_ rfl (nn_ ?_))
   refine gw_ret ?_
   refine nx_blk_ret (nx_blk_ret (nx_then_ret (nx_then_ret (nx_blk_ret (nx_then_ret ?_)))))
   have hE : plE vl (pl.take i) ⟨pf, pv, pp⟩ = 3 := plE_three (by simpa using h8) h9 (by simpa using h10)
   refine nx_ret1 rfl rfl fun wx hm => ?_
   exact ⟨ret_int (by rw [hT3, hpe, hat, if_neg (by rw [hE]; decide), hE]), hm.g⟩
  have h10 : (plateB pp) = true := by simpa using hh
  clear hh
  refine gw_seq ?_
  have hfour := plE_four (vs := vl) (pre := pl.take i) (p := ⟨pf, pv, pp⟩) (by simpa using h8) h9 (by simpa using h10)
  by_cases h0 : i = 0
  ·have hO : plO (pl.take i) ⟨pf, pv, pp⟩ = false := by rw [h0]; exact plO_zero
   refine gd (fun wz => Blk wz g3 143 [.int .i64 pf, .string pv, .string pp] ∧ Blk wz g1 31 [.slice sA sn sc, .slice cA cn cc, .slice vA vn vc, .slice (some ⟨bp, op, none⟩) pn pc] ∧ (SlOld stEnc 15 140 w.heap.size none sA sn sl) wz ∧ (SlOld csEnc 2 159 w.heap.size none cA cn cl) wz ∧ (SlOld vhEnc 2 77 w.heap.size none vA vn vl) wz ∧ (SlOld plEnc 3 143 w.heap.size none (some ⟨bp, op, none⟩) pn pl) wz ∧ True) mixed (fun _ hm => ⟨hm.bl 0, hm.bl 1, hm.fa 0, hm.fa 1, hm.fa 2, hm.fa 3, trivial⟩) fun z => ?_
   refine wt 0 13 1 rfl z (ov_move rfl) ?_
   refine wt 1 13 3 rfl z (ov_gtr rfl rfl) ?_
   refine wa_set 88 (v' := .bool false) rfl (congrArg Value.bool (decide_eq_false (by omega))) ?_
   refine wt 2 13 7 rfl z (ov_move rfl) ?_
   refine wtf 3 13 15 rfl rfl rfl z ?_
   refine wtf 4 13 31 rfl rfl rfl z ?_
   refine wtf 5 13 63 rfl rfl rfl z ?_
   refine wtf 6 13 127 rfl rfl rfl z ?_
   refine wtf 7 13 255 rfl rfl rfl z ?_
   refine wtf 8 13 511 rfl rfl rfl z ?_
   refine wtf 9 13 1023 rfl rfl rfl z ?_
   refine wtf 10 13 2047 rfl rfl rfl z ?_
   refine wt 11 13 4095 rfl z (ov_pick_f rfl rfl) ?_
   refine wt 12 13 8191 rfl z (ov_assign rfl) ?_
   refine wa_done (by kernel_rfl) ?_
   refine nx_then (cf_ rfl (sr_ (mv_ rfl (wl_ov (ov_makeFunc rfl rfl) rfl ?_))))
   refine wl_callv rfl cb89 rfl rfl (fun wx hm => (twinHas_any (pl.take i) _ i pc pf pv pp _ wx (SlT.takeT (hm.fact 3 rfl).1 (by omega)) (by omega) (hm.blkI 0 rfl))) ?_
   refine sg_ rfl (nn_ ?_)
   refine gw_cond rfl (fun hh => ?_) (fun hh => ?_)
   ·have h12 : ((pl.take i).any (plTwin ⟨pf, pv, pp⟩)) = true := by simpa using hh
    clear hh
    refine sr_ (sg_ rfl (nn_ ?_))
    refine gw_ret ?_
    refine nx_blk_ret (nx_blk_ret (nx_then_ret (nx_then_ret (nx_blk_ret (nx_then_ret ?_)))))
    have hE : plE vl (pl.take i) ⟨pf, pv, pp⟩ = 6 := by rw [hfour, if_neg (by rw [hO]; decide), if_pos h12]
    refine nx_ret1 rfl rfl fun wx hm => ?_
    exact ⟨ret_int (by rw [hT3, hpe, hat, if_neg (by rw [hE]; decide), hE]), hm.g⟩
   have h12 : ((pl.take i).any (plTwin ⟨pf, pv, pp⟩)) = false := by simpa using hh
   clear hh
   refine gw_skip (nx_blk_nrm (nx_blk_nrm (nx_then (gw_region ?_))))
   have hE : plE vl (pl.take i) ⟨pf, pv, pp⟩ = 0 := by rw [hfour, if_neg (by rw [hO]; decide), if_neg (by rw [h12]; decide)]
   refine ad_ rfl rfl (mv_ rfl (wl_nil ?_))
   exact nx_round (i + 1) ⟨by omega, by rw [hpe, hat, if_pos hE]⟩ (by omega) ⟨rfl, rfl, rfl, (some_int (by omega)), trivial⟩ (fun _ hm => hm.pick [1] [] [0, 1, 2, 3] rfl rfl)
  obtain ⟨q, hq⟩ : ∃ x, pl[i - 1]? = some x := ⟨_, List.getElem?_eq_getElem (by omega)⟩
  obtain ⟨qf, qv, qp⟩ := q
  obtain ⟨hqf, _, _⟩ := hpok _ (List.mem_of_getElem? hq)
  have hqf : -4000000000000000000 ≤ qf ∧ qf ≤ 4000000000000000000 := hqf
  have hOq := plO_pos (p := ⟨pf, pv, pp⟩) hil h0 hq
  refine gd (fun wz => Blk wz g3 143 [.int .i64 pf, .string pv, .string pp] ∧ Blk wz g1 31 [.slice sA sn sc, .slice cA cn cc, .slice vA vn vc, .slice (some ⟨bp, op, none⟩) pn pc] ∧ (SlOld stEnc 15 140 w.heap.size none sA sn sl) wz ∧ (SlOld csEnc 2 159 w.heap.size none cA cn cl) wz ∧ (SlOld vhEnc 2 77 w.heap.size none vA vn vl) wz ∧ (SlOld plEnc 3 143 w.heap.size none (some ⟨bp, op, none⟩) pn pl) wz ∧ True) mixed (fun _ hm => ⟨hm.bl 0, hm.bl 1, hm.fa 0, hm.fa 1, hm.fa 2, hm.fa 3, trivial⟩) fun z => ?_
  refine wt 0 13 1 rfl z (ov_move rfl) ?_
  refine wt 1 13 3 rfl z (ov_gtr rfl rfl) ?_
  refine wa_set 88 (v' := .bool true) rfl (congrArg Value.bool (decide_eq_true (by omega))) ?_
  refine wt 2 13 7 rfl z (ov_move rfl) ?_
  refine wto 3 13 15 rfl rfl rfl z (ov_move rfl) ?_
  refine wto 4 13 31 rfl rfl rfl z (ov_move rfl) ?_
  refine wto 5 13 63 rfl rfl rfl z (ov_sub rfl rfl (by omega) (by omega)) ?_
  refine wa_set 92 (v' := .int .i64 (((i - 1) : Nat) : Int)) rfl (congrArg (Value.int .i64) (by omega)) ?_
  refine wto 6 13 127 rfl rfl rfl z (ov_index (j := (i - 1)) es29 rfl rfl (by omega)) ?_
  refine wto 7 13 255 rfl rfl rfl z (ov_elem (vs := [.int .i64 qf, .string qv, .string qp]) rz143 rfl (fun _ hm => (hm.2.2.2.2.2.1).1) hq rfl rfl) ?_
  refine wto 8 13 511 rfl rfl rfl z (ov_loads rz143 rfl (fun _ hm => hm.1) rfl rfl) ?_
  refine wa1 9 rfl ?_
  refine wl_guard_on rfl rfl rfl ?_
  refine wl_callv rfl cb88 rfl rfl (fun wx hm => (plateOrder_any qf qv qp pf pv pp wx hqf hpf)) ?_
  refine wl_nil ?_
  refine nw 13 1023 (fun _ hm => ⟨hm.bl 0, hm.bl 1, hm.fa 0, hm.fa 1, hm.fa 2, hm.fa 3, trivial⟩) fun z => ?_
  refine wto 10 13 2047 rfl rfl rfl z (ov_geq rfl rfl) ?_
  refine wt 11 13 4095 rfl z (ov_pick_t rfl rfl) ?_
  refine wt 12 13 8191 rfl z (ov_assign rfl) ?_
  refine wa_done (by kernel_rfl) ?_
  refine nx_then ?_
  refine gw_cond rfl (fun hh => ?_) (fun hh => ?_)
  ·have h11 : 0 ≤ plOrd ⟨qf, qv, qp⟩ ⟨pf, pv, pp⟩ := by simpa using hh
   clear hh
   refine sr_ ?_
   have hO : plO (pl.take i) ⟨pf, pv, pp⟩ = true := by rw [hOq]; exact decide_eq_true h11
   refine sg_ rfl (nn_ ?_)
   refine gw_ret ?_
   refine nx_blk_ret (nx_blk_ret (nx_then_ret (nx_then_ret (nx_blk_ret (nx_then_ret ?_)))))
   have hE : plE vl (pl.take i) ⟨pf, pv, pp⟩ = 7 := by rw [hfour, if_pos hO]
   refine nx_ret1 rfl rfl fun wx hm => ?_
   exact ⟨ret_int (by rw [hT3, hpe, hat, if_neg (by rw [hE]; decide), hE]), hm.g⟩
  have h11 : ¬ (0 ≤ plOrd ⟨qf, qv, qp⟩ ⟨pf, pv, pp⟩) := by simpa using hh
  clear hh
  refine sr_ ?_
  have hO : plO (pl.take i) ⟨pf, pv, pp⟩ = false := by rw [hOq]; exact decide_eq_false h11
  refine mv_ rfl (wl_ov (ov_makeFunc rfl rfl) rfl ?_)
  refine wl_callv rfl cb89 rfl rfl (fun wx hm => (twinHas_any (pl.take i) _ i pc pf pv pp _ wx (SlT.takeT (hm.fact 3 rfl).1 (by omega)) (by omega) (hm.blkI 0 rfl))) ?_
  refine sg_ rfl (nn_ ?_)
  refine gw_cond rfl (fun hh => ?_) (fun hh => ?_)
  ·have h12 : ((pl.take i).any (plTwin ⟨pf, pv, pp⟩)) = true := by simpa using hh
   clear hh
   refine sr_ (sg_ rfl (nn_ ?_))
   refine gw_ret ?_
   refine nx_blk_ret (nx_blk_ret (nx_then_ret (nx_then_ret (nx_blk_ret (nx_then_ret ?_)))))
   have hE : plE vl (pl.take i) ⟨pf, pv, pp⟩ = 6 := by rw [hfour, if_neg (by rw [hO]; decide), if_pos h12]
   refine nx_ret1 rfl rfl fun wx hm => ?_
   exact ⟨ret_int (by rw [hT3, hpe, hat, if_neg (by rw [hE]; decide), hE]), hm.g⟩
  have h12 : ((pl.take i).any (plTwin ⟨pf, pv, pp⟩)) = false := by simpa using hh
  clear hh
  refine gw_skip (nx_blk_nrm (nx_blk_nrm (nx_then (gw_region ?_))))
  have hE : plE vl (pl.take i) ⟨pf, pv, pp⟩ = 0 := by rw [hfour, if_neg (by rw [hO]; decide), if_neg (by rw [h12]; decide)]
  refine ad_ rfl rfl (mv_ rfl (wl_nil ?_))
  exact nx_round (i + 1) ⟨by omega, by rw [hpe, hat, if_pos hE]⟩ (by omega) ⟨rfl, rfl, rfl, (some_int (by omega)), trivial⟩ (fun _ hm => hm.pick [1] [] [0, 1, 2, 3] rfl rfl)
 have hi : ¬ (((i : Nat) : Int) < ((pn : Nat) : Int)) := by simpa using hh
 clear hh
 refine gw_exit ?_
 refine nx_then_exit (nx_then_exit ?_)
 refine nx_blk_here ?_
 refine nx_then (sr_ (sg_ rfl (nn_ ?_)))
 refine gw_ret ?_
 refine nx_ret1 rfl rfl fun wx hm => ?_
 exact ⟨ret_int (by rw [hT3, plates_end (by omega) hpe]), hm.g⟩
end Go.Proofs.YtjecbkgjabnmoaaGreatDoor
namespace Go.Proofs.YtjecbkgjabnmoaaGreatDoor
open Go.RowKit
def laterP (mt : Int) (p : Pl) : Bool := decide (mt < p.fr)
theorem later_any (of : Int) (ov op : ByteArray) (gm : Nat) (mt : Int) (w : World) (hk : Blk w gm 3 [.int .i64 mt]) : Calls Tryz.prog 175 #[.agg #[.int .i64 of, .string ov, .string op], .pointer (some ⟨gm, 0, none⟩)] w (fun e w' => e = .returned (.bool (laterP mt ⟨of, ov, op⟩)) ∧ w.grownBy w' none) := by
 refine gw_enter ⟨8, w, none, []⟩ Tryz.func175 rfl Tryz.ntmps175 rfl (mem0 (X := [BlkOld w.heap.size none gm 3 [.int .i64 mt]]) (allF_cons hk.old allF_nil) (allL_cons BlkOld.lasts allL_nil)) ?_
 refine sr_ ?_
 refine wl_box rfl rfl rfl fun g1 => ?_
 refine sg_ rfl (nn_ (sr_ (fd_ fo143_0 rfl rfl (lk_ sc3 0 rfl rfl rfl ?_))))
 refine wl_ov (ov_load (v := .int .i64 mt) sc3 rfl (fun _ hm => (hm.fact 0 rfl).2) rfl) rfl ?_
 refine wl_ov (ov_gtr rfl rfl) rfl ?_
 refine sg_ rfl (nn_ ?_)
 refine gw_ret ?_
 refine nx_ret1 rfl rfl fun wx hm => ?_
 exact ⟨rfl, hm.g⟩
theorem ixLater_any (l : List Pl) (A : Option Addr) (n c0 : Nat) (gm : Nat) (mt : Int) (w : World) (hl : SlT plEnc 3 143 w A n l) (hn : n ≤ 1000000) (hk : Blk w gm 3 [.int .i64 mt]) :
  Calls Tryz.prog 170 #[.slice A n c0, .func (.func 175) #[] #[.pointer (some ⟨gm, 0, none⟩)]] w (GotE w (ixP (laterP mt) l 0)) := by
 refine gw_enter ⟨19, w, none, []⟩ Tryz.func170 rfl Tryz.ntmps170 rfl (mem0 (X := [SlOld plEnc 3 143 w.heap.size none A n l, BlkOld w.heap.size none gm 3 [.int .i64 mt]]) (allF_cons hl.old (allF_cons hk.old allF_nil)) (allL_cons SlOld.lasts (allL_cons BlkOld.lasts allL_nil))) ?_
 refine sr_ ?_
 have hlen := hl.len
 refine sg_ rfl (nn_ (gw_seq (sr_ (mv_ rfl (wl_ov (ov_len es29 rfl) rfl (mv_ rfl (nn_ (gw_block ?_))))))))
 refine gw_loop (γ := Nat) (fun (i : Nat) => i ≤ n ∧ ixP (laterP mt) l 0 = ixP (laterP mt) (l.drop i) i) (fun (i : Nat) => [(0, .slice A n c0), (1, .func (.func 175) #[] #[.pointer (some ⟨gm, 0, none⟩)]), (7, .int .i64 ((n : Nat) : Int)), (8, .int .i64 ((i : Nat) : Int))]) (fun (i : Nat) => fun _ => True) (fun (i : Nat) => []) (fun (i : Nat) => []) (fun (i : Nat) => [SlOld plEnc 3 143 w.heap.size none A n l, BlkOld w.heap.size none gm 3 [.int .i64 mt]]) (fun (i : Nat) => n - i) 0 ⟨Nat.zero_le _, rfl⟩ ⟨rfl, rfl, rfl, rfl, trivial⟩ (fun _ hm => hm.pick [] [] [0, 1] rfl rfl) ?_
 intro i hinv
 replace hinv : i ≤ n ∧ ixP (laterP mt) l 0 = ixP (laterP mt) (l.drop i) i := hinv
 refine sr_ (wl_ov (ov_lss rfl rfl) rfl (nn_ (gw_seq ?_)))
 refine gw_cond rfl (fun hh => ?_) (fun hh => ?_)
 ·have hi : ((i : Nat) : Int) < ((n : Nat) : Int) := by simpa using hh
  clear hh
  refine gw_skip (nx_then (gw_seq (gw_block (sr_ ?_))))
  obtain ⟨b, off, hA, _, _⟩ := hl.get (by omega)
  subst hA
  obtain ⟨x, hx⟩ : ∃ x, l[i]? = some x := ⟨_, List.getElem?_eq_getElem (by omega)⟩
  obtain ⟨of, ov, op⟩ := x
  have hat := ixP_at (p := laterP mt) hx
  refine mv_ rfl (sg_ rfl (nn_ (sr_ (mv_ rfl (mv_ rfl (mv_ rfl ?_))))))
  refine wl_ov (ov_index (j := i) es29 rfl rfl (by omega)) rfl ?_
  refine wl_ov (ov_elem (vs := [.int .i64 of, .string ov, .string op]) rz143 rfl (fun _ hm => (hm.fact 0 rfl).1) hx rfl rfl) rfl ?_
  refine wl_callv rfl cb175 rfl rfl (fun wx hm => (later_any of ov op gm mt wx (hm.fact 1 rfl).2)) ?_
  refine nn_ ?_
  refine gw_cond rfl (fun hh => ?_) (fun hh => ?_)
  ·have hq : ((laterP mt) ⟨of, ov, op⟩) = true := by simpa using hh
   clear hh
   refine sr_ (mv_ rfl (sg_ rfl (nn_ ?_)))
   refine gw_ret ?_
   refine nx_blk_ret (nx_then_ret (nx_then_ret (nx_blk_ret (nx_then_ret ?_))))
   refine nx_ret1 rfl rfl fun wx hm => ?_
   exact ⟨ret_int (by rw [hinv.2, hat, if_pos hq]), hm.g⟩
  have hq : ((laterP mt) ⟨of, ov, op⟩) = false := by simpa using hh
  clear hh
  refine gw_skip (nx_blk_nrm (nx_then (gw_region (ad_ rfl rfl (mv_ rfl (wl_nil ?_))))))
  exact nx_round (i + 1) ⟨by omega, by rw [hinv.2, hat, if_neg (by rw [hq]; decide)]⟩ (by omega) ⟨rfl, rfl, rfl, (some_int (by omega)), trivial⟩ (fun _ hm => hm.pick [] [] [0, 1] rfl rfl)
 have hi : ¬ (((i : Nat) : Int) < ((n : Nat) : Int)) := by simpa using hh
 clear hh
 refine gw_exit ?_
 refine nx_then_exit (nx_then_exit ?_)
 refine nx_blk_here ?_
 refine nx_then (sr_ (sg_ rfl ?_))
 refine wl_set 4 (v' := .int .i64 (-1)) rfl rfl ?_
 refine nn_ ?_
 refine gw_ret ?_
 refine nx_ret1 rfl rfl fun wx hm => ?_
 exact ⟨ret_int (by rw [hinv.2, List.drop_eq_nil_of_le (by omega)]; rfl), hm.g⟩
def takes (p o : Pl) : Bool := decide (p.fr < o.fr) && (o.veh.toList == p.veh.toList || o.plate.toList == p.plate.toList)
theorem takes_any (pf : Int) (pv pp : ByteArray) (of : Int) (ov op : ByteArray) (gp : Nat) (w : World) (hk : Blk w gp 143 [.int .i64 pf, .string pv, .string pp]) : Calls Tryz.prog 177 #[.agg #[.int .i64 of, .string ov, .string op], .pointer (some ⟨gp, 0, none⟩)] w (fun e w' => e = .returned (.bool (takes ⟨pf, pv, pp⟩ ⟨of, ov, op⟩)) ∧ w.grownBy w' none) := by
 refine gw_enter ⟨23, w, none, []⟩ Tryz.func177 rfl Tryz.ntmps177 rfl (mem0 (X := [BlkOld w.heap.size none gp 143 [.int .i64 pf, .string pv, .string pp]]) (allF_cons hk.old allF_nil) (allL_cons BlkOld.lasts allL_nil)) ?_
 refine sr_ ?_
 refine wl_box rfl rfl rfl fun g1 => ?_
 refine sg_ rfl (nn_ (sr_ (fd_ fo143_0 rfl rfl (lk_ sc3 0 rfl rfl rfl (fd_ fo143_0 rfl rfl ?_)))))
 refine wl_ov (ov_load (v := .int .i64 pf) sc3 rfl (fun _ hm => (hm.fact 0 rfl).2) rfl) rfl ?_
 refine wl_ov (ov_gtr rfl rfl) rfl ?_
 refine mv_ rfl ?_
 rcases Bool.eq_false_or_eq_true (decide (pf < of)) with h1 | h1
 ·refine wl_set 9 rfl (congrArg Value.bool h1) ?_
  refine wl_guard_on rfl rfl rfl (fd_ fo143_1 rfl rfl (wl_guard_on rfl rfl rfl (lk_ sc9 0 rfl rfl rfl (wl_guard_on rfl rfl rfl (fd_ fo143_1 rfl rfl (wl_guard_on rfl rfl rfl ?_))))))
  refine wl_ov (ov_load (v := .string pv) sc9 rfl (fun _ hm => (hm.fact 0 rfl).2) rfl) rfl ?_
  refine wl_guard_on rfl rfl rfl (wl_ov (ov_seql rfl rfl) rfl (wl_guard_on rfl rfl rfl (mv_ rfl ?_)))
  rcases Bool.eq_false_or_eq_true (ov.toList == pv.toList) with h2 | h2
  ·refine wl_set 15 rfl (congrArg Value.bool h2) ?_
   refine goff rfl rfl rfl (goff rfl rfl rfl (goff rfl rfl rfl (goff rfl rfl rfl (goff rfl rfl rfl (wl_guard_on rfl rfl rfl (pt_ rfl rfl (pt_ rfl rfl (sg_ rfl (nn_ ?_)))))))))
   refine gw_ret ?_
   refine nx_ret1 rfl rfl fun wx hm => ?_
   exact ⟨by unfold takes; simp only [h1, h2]; rfl, hm.g⟩
  refine wl_set 15 rfl (congrArg Value.bool h2) ?_
  refine wl_guard_on rfl rfl rfl (fd_ fo143_2 rfl rfl (wl_guard_on rfl rfl rfl (lk_ sc9 0 rfl rfl rfl (wl_guard_on rfl rfl rfl (fd_ fo143_2 rfl rfl (wl_guard_on rfl rfl rfl ?_))))))
  refine wl_ov (ov_load (v := .string pp) sc9 rfl (fun _ hm => (hm.fact 0 rfl).2) rfl) rfl ?_
  refine wl_guard_on rfl rfl rfl (wl_ov (ov_seql rfl rfl) rfl (wl_guard_on rfl rfl rfl (pf_ rfl rfl (pt_ rfl rfl (sg_ rfl (nn_ ?_))))))
  refine gw_ret ?_
  refine nx_ret1 rfl rfl fun wx hm => ?_
  exact ⟨by unfold takes; simp only [h1, h2]; rfl, hm.g⟩
 refine wl_set 9 rfl (congrArg Value.bool h1) ?_
 refine goff rfl rfl rfl (goff rfl rfl rfl (goff rfl rfl rfl (goff rfl rfl rfl (goff rfl rfl rfl (goff rfl rfl rfl (gnd rfl rfl rfl (gnd rfl rfl rfl (gnd rfl rfl rfl (gnd rfl rfl rfl (gnd rfl rfl rfl (goff rfl rfl rfl (pf_ rfl rfl (sg_ rfl ?_)))))))))))))
 refine nn_ ?_
 refine gw_ret ?_
 refine nx_ret1 rfl rfl fun wx hm => ?_
 exact ⟨by unfold takes; simp only [h1]; rfl, hm.g⟩
theorem ixTakes_any (l : List Pl) (A : Option Addr) (n c0 : Nat) (pf : Int) (pv pp : ByteArray) (gp : Nat) (w : World) (hl : SlT plEnc 3 143 w A n l) (hn : n ≤ 1000000) (hk : Blk w gp 143 [.int .i64 pf, .string pv, .string pp]) :
  Calls Tryz.prog 170 #[.slice A n c0, .func (.func 177) #[] #[.pointer (some ⟨gp, 0, none⟩)]] w (GotE w (ixP (takes ⟨pf, pv, pp⟩) l 0)) := by
 refine gw_enter ⟨19, w, none, []⟩ Tryz.func170 rfl Tryz.ntmps170 rfl (mem0 (X := [SlOld plEnc 3 143 w.heap.size none A n l, BlkOld w.heap.size none gp 143 [.int .i64 pf, .string pv, .string pp]]) (allF_cons hl.old (allF_cons hk.old allF_nil)) (allL_cons SlOld.lasts (allL_cons BlkOld.lasts allL_nil))) ?_
 refine sr_ ?_
 have hlen := hl.len
 refine sg_ rfl (nn_ (gw_seq (sr_ (mv_ rfl (wl_ov (ov_len es29 rfl) rfl (mv_ rfl (nn_ (gw_block ?_))))))))
 refine gw_loop (γ := Nat) (fun (i : Nat) => i ≤ n ∧ ixP (takes ⟨pf, pv, pp⟩) l 0 = ixP (takes ⟨pf, pv, pp⟩) (l.drop i) i) (fun (i : Nat) => [(0, .slice A n c0), (1, .func (.func 177) #[] #[.pointer (some ⟨gp, 0, none⟩)]), (7, .int .i64 ((n : Nat) : Int)), (8, .int .i64 ((i : Nat) : Int))]) (fun (i : Nat) => fun _ => True) (fun (i : Nat) => []) (fun (i : Nat) => []) (fun (i : Nat) => [SlOld plEnc 3 143 w.heap.size none A n l, BlkOld w.heap.size none gp 143 [.int .i64 pf, .string pv, .string pp]]) (fun (i : Nat) => n - i) 0 ⟨Nat.zero_le _, rfl⟩ ⟨rfl, rfl, rfl, rfl, trivial⟩ (fun _ hm => hm.pick [] [] [0, 1] rfl rfl) ?_
 intro i hinv
 replace hinv : i ≤ n ∧ ixP (takes ⟨pf, pv, pp⟩) l 0 = ixP (takes ⟨pf, pv, pp⟩) (l.drop i) i := hinv
 refine sr_ (wl_ov (ov_lss rfl rfl) rfl (nn_ (gw_seq ?_)))
 refine gw_cond rfl (fun hh => ?_) (fun hh => ?_)
 ·have hi : ((i : Nat) : Int) < ((n : Nat) : Int) := by simpa using hh
  clear hh
  refine gw_skip (nx_then (gw_seq (gw_block (sr_ ?_))))
  obtain ⟨b, off, hA, _, _⟩ := hl.get (by omega)
  subst hA
  obtain ⟨x, hx⟩ : ∃ x, l[i]? = some x := ⟨_, List.getElem?_eq_getElem (by omega)⟩
  obtain ⟨of, ov, op⟩ := x
  have hat := ixP_at (p := takes ⟨pf, pv, pp⟩) hx
  refine mv_ rfl (sg_ rfl (nn_ (sr_ (mv_ rfl (mv_ rfl (mv_ rfl ?_))))))
  refine wl_ov (ov_index (j := i) es29 rfl rfl (by omega)) rfl ?_
  refine wl_ov (ov_elem (vs := [.int .i64 of, .string ov, .string op]) rz143 rfl (fun _ hm => (hm.fact 0 rfl).1) hx rfl rfl) rfl ?_
  refine wl_callv rfl cb177 rfl rfl (fun wx hm => (takes_any pf pv pp of ov op gp wx (hm.fact 1 rfl).2)) ?_
  refine nn_ ?_
  refine gw_cond rfl (fun hh => ?_) (fun hh => ?_)
  ·have hq : ((takes ⟨pf, pv, pp⟩) ⟨of, ov, op⟩) = true := by simpa using hh
   clear hh
   refine sr_ (mv_ rfl (sg_ rfl (nn_ ?_)))
   refine gw_ret ?_
   refine nx_blk_ret (nx_then_ret (nx_then_ret (nx_blk_ret (nx_then_ret ?_))))
   refine nx_ret1 rfl rfl fun wx hm => ?_
   exact ⟨ret_int (by rw [hinv.2, hat, if_pos hq]), hm.g⟩
  have hq : ((takes ⟨pf, pv, pp⟩) ⟨of, ov, op⟩) = false := by simpa using hh
  clear hh
  refine gw_skip (nx_blk_nrm (nx_then (gw_region (ad_ rfl rfl (mv_ rfl (wl_nil ?_))))))
  exact nx_round (i + 1) ⟨by omega, by rw [hinv.2, hat, if_neg (by rw [hq]; decide)]⟩ (by omega) ⟨rfl, rfl, rfl, (some_int (by omega)), trivial⟩ (fun _ hm => hm.pick [] [] [0, 1] rfl rfl)
 have hi : ¬ (((i : Nat) : Int) < ((n : Nat) : Int)) := by simpa using hh
 clear hh
 refine gw_exit ?_
 refine nx_then_exit (nx_then_exit ?_)
 refine nx_blk_here ?_
 refine nx_then (sr_ (sg_ rfl ?_))
 refine wl_set 4 (v' := .int .i64 (-1)) rfl rfl ?_
 refine nn_ ?_
 refine gw_ret ?_
 refine nx_ret1 rfl rfl fun wx hm => ?_
 exact ⟨ret_int (by rw [hinv.2, List.drop_eq_nil_of_le (by omega)]; rfl), hm.g⟩
theorem hasTakes_any (l : List Pl) (A : Option Addr) (n c0 : Nat) (pf : Int) (pv pp : ByteArray) (gp : Nat) (w : World) (hl : SlT plEnc 3 143 w A n l) (hn : n ≤ 1000000) (hk : Blk w gp 143 [.int .i64 pf, .string pv, .string pp]) :
  Calls Tryz.prog 89 #[.slice A n c0, .func (.func 177) #[] #[.pointer (some ⟨gp, 0, none⟩)]] w (fun e w' => e = .returned (.bool (l.any (takes ⟨pf, pv, pp⟩))) ∧ w.grownBy w' none) := by
 refine gw_enter ⟨9, w, none, []⟩ Tryz.func89 rfl Tryz.ntmps89 rfl (mem0 (X := [SlOld plEnc 3 143 w.heap.size none A n l, BlkOld w.heap.size none gp 143 [.int .i64 pf, .string pv, .string pp]]) (allF_cons hl.old (allF_cons hk.old allF_nil)) (allL_cons SlOld.lasts (allL_cons BlkOld.lasts allL_nil))) ?_
 refine sr_ (sg_ rfl (nn_ (sr_ (mv_ rfl (mv_ rfl ?_)))))
 refine wl_callv rfl cb170 rfl rfl (fun wx hm => (ixTakes_any l A n c0 pf pv pp gp wx (hm.fact 0 rfl).1 hn (hm.fact 1 rfl).2)) ?_
 refine wl_ov (ov_geq rfl rfl) rfl ?_
 refine sg_ rfl (nn_ ?_)
 refine gw_ret ?_
 refine nx_ret1 rfl rfl fun wx hm => ?_
 exact ⟨by rw [← ix_dec], hm.g⟩
theorem taken_any (of : Int) (ov op : ByteArray) (el : List Pl) (eA : Option Addr) (en ec ge : Nat) (w : World) (hk : Blk w ge 29 [.slice eA en ec]) (he : SlT plEnc 3 143 w eA en el) (hen : en ≤ 1000000) : Calls Tryz.prog 176 #[.agg #[.int .i64 of, .string ov, .string op], .pointer (some ⟨ge, 0, none⟩)] w (fun e w' => e = .returned (.bool (taken el ⟨of, ov, op⟩)) ∧ w.grownBy w' none) := by
 refine gw_enter ⟨7, w, none, []⟩ Tryz.func176 rfl Tryz.ntmps176 rfl (mem0 (X := [BlkOld w.heap.size none ge 29 [.slice eA en ec], SlOld plEnc 3 143 w.heap.size none eA en el]) (allF_cons hk.old (allF_cons he.old allF_nil)) (allL_cons BlkOld.lasts (allL_cons SlOld.lasts allL_nil))) ?_
 refine sr_ ?_
 refine wl_box rfl rfl rfl fun g1 => ?_
 refine sg_ rfl (nn_ (sr_ ?_))
 refine wl_ov (ov_load (v := .slice eA en ec) sc29 rfl (fun _ hm => (hm.fact 0 rfl).2) rfl) rfl ?_
 refine wl_ov (ov_makeFunc rfl rfl) rfl ?_
 refine wl_callv rfl cb89 rfl rfl (fun wx hm => (hasTakes_any el eA en ec of ov op _ wx (hm.fact 1 rfl).1 hen (hm.blkI 0 rfl))) ?_
 refine sg_ rfl (nn_ ?_)
 refine gw_ret ?_
 refine nx_ret1 rfl rfl fun wx hm => ?_
 exact ⟨rfl, hm.g⟩
theorem ixTaken_any (l : List Pl) (A : Option Addr) (n c0 : Nat) (el : List Pl) (eA : Option Addr) (en ec ge : Nat) (w : World) (hl : SlT plEnc 3 143 w A n l) (hn : n ≤ 1000000) (hk : Blk w ge 29 [.slice eA en ec]) (he : SlT plEnc 3 143 w eA en el) (hen : en ≤ 1000000) :
  Calls Tryz.prog 170 #[.slice A n c0, .func (.func 176) #[] #[.pointer (some ⟨ge, 0, none⟩)]] w (GotE w (ixP (taken el) l 0)) := by
 refine gw_enter ⟨19, w, none, []⟩ Tryz.func170 rfl Tryz.ntmps170 rfl (mem0 (X := [SlOld plEnc 3 143 w.heap.size none A n l, BlkOld w.heap.size none ge 29 [.slice eA en ec], SlOld plEnc 3 143 w.heap.size none eA en el]) (allF_cons hl.old (allF_cons hk.old (allF_cons he.old allF_nil))) (allL_cons SlOld.lasts (allL_cons BlkOld.lasts (allL_cons SlOld.lasts allL_nil)))) ?_
 refine sr_ ?_
 have hlen := hl.len
 refine sg_ rfl (nn_ (gw_seq (sr_ (mv_ rfl (wl_ov (ov_len es29 rfl) rfl (mv_ rfl (nn_ (gw_block ?_))))))))
 refine gw_loop (γ := Nat) (fun (i : Nat) => i ≤ n ∧ ixP (taken el) l 0 = ixP (taken el) (l.drop i) i) (fun (i : Nat) => [(0, .slice A n c0), (1, .func (.func 176) #[] #[.pointer (some ⟨ge, 0, none⟩)]), (7, .int .i64 ((n : Nat) : Int)), (8, .int .i64 ((i : Nat) : Int))]) (fun (i : Nat) => fun _ => True) (fun (i : Nat) => []) (fun (i : Nat) => []) (fun (i : Nat) => [SlOld plEnc 3 143 w.heap.size none A n l, BlkOld w.heap.size none ge 29 [.slice eA en ec], SlOld plEnc 3 143 w.heap.size none eA en el]) (fun (i : Nat) => n - i) 0 ⟨Nat.zero_le _, rfl⟩ ⟨rfl, rfl, rfl, rfl, trivial⟩ (fun _ hm => hm.pick [] [] [0, 1, 2] rfl rfl) ?_
 intro i hinv
 replace hinv : i ≤ n ∧ ixP (taken el) l 0 = ixP (taken el) (l.drop i) i := hinv
 refine sr_ (wl_ov (ov_lss rfl rfl) rfl (nn_ (gw_seq ?_)))
 refine gw_cond rfl (fun hh => ?_) (fun hh => ?_)
 ·have hi : ((i : Nat) : Int) < ((n : Nat) : Int) := by simpa using hh
  clear hh
  refine gw_skip (nx_then (gw_seq (gw_block (sr_ ?_))))
  obtain ⟨b, off, hA, _, _⟩ := hl.get (by omega)
  subst hA
  obtain ⟨x, hx⟩ : ∃ x, l[i]? = some x := ⟨_, List.getElem?_eq_getElem (by omega)⟩
  obtain ⟨of, ov, op⟩ := x
  have hat := ixP_at (p := taken el) hx
  refine mv_ rfl (sg_ rfl (nn_ (sr_ (mv_ rfl (mv_ rfl (mv_ rfl ?_))))))
  refine wl_ov (ov_index (j := i) es29 rfl rfl (by omega)) rfl ?_
  refine wl_ov (ov_elem (vs := [.int .i64 of, .string ov, .string op]) rz143 rfl (fun _ hm => (hm.fact 0 rfl).1) hx rfl rfl) rfl ?_
  refine wl_callv rfl cb176 rfl rfl (fun wx hm => (taken_any of ov op el eA en ec ge wx (hm.fact 1 rfl).2 (hm.fact 2 rfl).1 hen)) ?_
  refine nn_ ?_
  refine gw_cond rfl (fun hh => ?_) (fun hh => ?_)
  ·have hq : ((taken el) ⟨of, ov, op⟩) = true := by simpa using hh
   clear hh
   refine sr_ (mv_ rfl (sg_ rfl (nn_ ?_)))
   refine gw_ret ?_
   refine nx_blk_ret (nx_then_ret (nx_then_ret (nx_blk_ret (nx_then_ret ?_))))
   refine nx_ret1 rfl rfl fun wx hm => ?_
   exact ⟨ret_int (by rw [hinv.2, hat, if_pos hq]), hm.g⟩
  have hq : ((taken el) ⟨of, ov, op⟩) = false := by simpa using hh
  clear hh
  refine gw_skip (nx_blk_nrm (nx_then (gw_region (ad_ rfl rfl (mv_ rfl (wl_nil ?_))))))
  exact nx_round (i + 1) ⟨by omega, by rw [hinv.2, hat, if_neg (by rw [hq]; decide)]⟩ (by omega) ⟨rfl, rfl, rfl, (some_int (by omega)), trivial⟩ (fun _ hm => hm.pick [] [] [0, 1, 2] rfl rfl)
 have hi : ¬ (((i : Nat) : Int) < ((n : Nat) : Int)) := by simpa using hh
 clear hh
 refine gw_exit ?_
 refine nx_then_exit (nx_then_exit ?_)
 refine nx_blk_here ?_
 refine nx_then (sr_ (sg_ rfl ?_))
 refine wl_set 4 (v' := .int .i64 (-1)) rfl rfl ?_
 refine nn_ ?_
 refine gw_ret ?_
 refine nx_ret1 rfl rfl fun wx hm => ?_
 exact ⟨ret_int (by rw [hinv.2, List.drop_eq_nil_of_le (by omega)]; rfl), hm.g⟩
end Go.Proofs.YtjecbkgjabnmoaaGreatDoor
namespace Go.Proofs.YtjecbkgjabnmoaaGreatDoor
open Go.RowKit
section
variable {α : Type}
def sink (lt : α → α → Bool) : Nat → List α → List α
  | 0, l => l
  | j + 1, l => match l[j + 1]?, l[j]? with
    | some x, some y => if lt x y then sink lt j ((l.set (j + 1) y).set j x) else l
    | _, _ => l
def isortF (lt : α → α → Bool) : Nat → Nat → List α → List α
  | 0, _, l => l
  | f + 1, i, l => isortF lt f (i + 1) (sink lt i l)
def isort (lt : α → α → Bool) (l : List α) : List α := isortF lt (l.length - 1) 1 l
theorem sink_yes {lt : α → α → Bool} {j : Nat} {l : List α} {x y : α} (hx : l[j + 1]? = some x) (hy : l[j]? = some y) (h : lt x y = true) : sink lt (j + 1) l = sink lt j ((l.set (j + 1) y).set j x) := by
  simp only [sink, hx, hy, h, if_true]
theorem sink_no {lt : α → α → Bool} {j : Nat} {l : List α} {x y : α} (hx : l[j + 1]? = some x) (hy : l[j]? = some y) (h : lt x y = false) : sink lt (j + 1) l = l := by
  simp only [sink, hx, hy, h, Bool.false_eq_true, if_false]
theorem sink_len (lt : α → α → Bool) : ∀ (j : Nat) (l : List α), (sink lt j l).length = l.length
  | 0, _ => rfl
  | j + 1, l => by
    unfold sink
    split
    · split
      · rw [sink_len lt j]; simp
      · rfl
    · rfl
theorem isortF_len (lt : α → α → Bool) : ∀ (f i : Nat) (l : List α), (isortF lt f i l).length = l.length
  | 0, _, _ => rfl
  | f + 1, i, l => by
    unfold isortF
    rw [isortF_len lt f, sink_len]
theorem isort_len (lt : α → α → Bool) (l : List α) : (isort lt l).length = l.length := isortF_len lt _ _ _
theorem swap_perm {l : List α} {j : Nat} {x y : α} (hx : l[j + 1]? = some x) (hy : l[j]? = some y) : ((l.set (j + 1) y).set j x).Perm l := by
  obtain ⟨h1, rfl⟩ := List.getElem?_eq_some_iff.1 hx
  obtain ⟨h2, rfl⟩ := List.getElem?_eq_some_iff.1 hy
  have e : l = l.take j ++ l[j] :: l[j + 1] :: l.drop (j + 2) := by
    conv => lhs; rw [← List.take_append_drop j l, List.drop_eq_getElem_cons h2, List.drop_eq_getElem_cons h1]
  have hl : (l.take j).length = j := by simp; omega
  have e2 : (l.set (j + 1) l[j]).set j l[j + 1] = l.take j ++ l[j + 1] :: l[j] :: l.drop (j + 2) := by
    refine List.ext_getElem? fun k => ?_
    rw [List.getElem?_set, List.length_set, List.getElem?_set]
    rcases Nat.lt_trichotomy k j with hk | rfl | hk
    · rw [if_neg (by omega), if_neg (by omega), List.getElem?_append_left (by rw [hl]; exact hk), List.getElem?_take, if_pos hk]
    · rw [if_pos rfl, if_pos h2, List.getElem?_append_right (by omega), hl, Nat.sub_self]; rfl
    · rw [if_neg (by omega), List.getElem?_append_right (by omega), hl]
      rcases Nat.lt_trichotomy k (j + 1) with h3 | rfl | h3
      · omega
      · rw [if_pos rfl, if_pos h1, show j + 1 - j = 1 by omega]; rfl
      · rw [if_neg (by omega), show k - j = (k - (j + 2)) + 2 by omega]
        simp only [List.getElem?_cons_succ, List.getElem?_drop]
        congr 1; omega
  rw [e2]
  conv => rhs; rw [e]
  exact List.Perm.append_left _ (List.Perm.swap _ _ _)
theorem sink_perm (lt : α → α → Bool) : ∀ (j : Nat) (l : List α), (sink lt j l).Perm l
  | 0, _ => List.Perm.refl _
  | j + 1, l => by
    unfold sink
    split
    · rename_i x y hx hy
      split
      · exact (sink_perm lt j _).trans (swap_perm hx hy)
      · exact List.Perm.refl _
    · exact List.Perm.refl _
theorem isortF_perm (lt : α → α → Bool) : ∀ (f i : Nat) (l : List α), (isortF lt f i l).Perm l
  | 0, _, _ => List.Perm.refl _
  | f + 1, i, l => (isortF_perm lt f (i + 1) _).trans (sink_perm lt i l)
theorem isort_perm (lt : α → α → Bool) (l : List α) : (isort lt l).Perm l := isortF_perm lt _ _ _
theorem mem_in {lt : α → α → Bool} {l0 R S m : List α} {f i j : Nat} (hR : R = isort lt l0) (hF : isortF lt f i S = R) (hS : sink lt j m = S) {z : α} (hz : z ∈ m) : z ∈ l0 := by
  have h1 : z ∈ S := by rw [← hS]; exact (sink_perm lt j m).mem_iff.2 hz
  have h2 : z ∈ R := by rw [← hF]; exact (isortF_perm lt f i S).mem_iff.2 h1
  rw [hR] at h2
  exact (isort_perm lt l0).mem_iff.1 h2
theorem isort_mem {lt : α → α → Bool} {l : List α} {x : α} : x ∈ isort lt l ↔ x ∈ l := (isort_perm lt l).mem_iff
end
section
variable {P : Program} {c : Cx} {ops : Array Oper} {Q : Exit → Act → World → Prop} {rest : List Oper} {S : List (Nat × Value)} {K : World → Prop} {L : List (Nat × TypeId × List Value)} {O : List Own} {X : List (World → Prop)} {d : Nat} {ty : TypeId} {pos : String} {aft : Array Edge}
theorem memR {n0 : Nat} {Tt : List TypeId} {w : World} {base : Nat} {e : TypeId} {sz n cap g : Nat} {xs : List Value} (hS : w.ownsRow base e sz (.slice (some ⟨g, 0, none⟩) n cap) n xs) (hX : ∀ A ∈ X, A w) (hl : ∀ A ∈ X, Lasts2 w.heap.size (some g) Tt A) : Mem ⟨n0, w, some g, Tt⟩ (RowK base e sz n cap g xs) [] [] X w :=
  have hS2 : RowK base e sz n cap g xs w := hS
  ⟨World.grownBy.refl _ _, hS2, (fun _ hx => by cases hx), List.Pairwise.nil, (fun _ hx => by cases hx), (fun _ hx => by cases hx), List.Pairwise.nil, hX, RowK.keeps hS2.lt.2, hl, (fun _ hr => by cases hr; exact hS2.lt.2)⟩
/-- The row has turned. -/
theorem Mem.turned {base g n cap sz : Nat} {e : TypeId} {xs xs' : List Value} {w w' : World} (h : Mem c (RowK base e sz n cap g xs) L O X w) (hrow : c.row = some g) (hT : c.Tt.contains e = false) (hown : w'.ownsRow base e sz (.slice (some ⟨g, 0, none⟩) n cap) n xs') (hg : w.grownBy w' (some g)) : Mem c (RowK base e sz n cap g xs') L O X w' := by
  have hlt0 := h.rs g hrow
  have hk : w.ownsRow base e sz (.slice (some ⟨g, 0, none⟩) n cap) n xs := h.k
  obtain ⟨cells, hcells⟩ : ∃ cells, w.heap[g]? = some (.cells cells e (0, 0)) := by
    rcases hk.2 with ⟨h1, _⟩ | ⟨g', cap', cur, h1, _, h2, _⟩
    · cases h1
    · injection h1 with h1 _ _
      injection h1 with h1
      injection h1 with h1 _ _
      subst h1
      exact ⟨_, h2⟩
  refine ⟨grow_trans h.g (hrow ▸ hg), hown, fun x hx => ⟨(h.b x hx).1, (h.b x hx).2.grown hg (fun e => ?_)⟩, h.nd, fun r hr => (h.o r hr).kept hg ?_, h.od, h.oo, fun A hA => ?_, RowK.keeps hlt0, h.l, h.rs⟩
  · have := (h.b x hx).1; injection e with e; omega
  · cases hv : r.v.ownBlock with
    | none => exact .inl rfl
    | some g' => exact .inr (fun e => by have := ((h.o r hr).lt g' hv).1; injection e with e; omega)
  · exact (h.l A hA).st w _ g e cells hcells (fun e => by simp [e] at hT) (.inr hrow) hg (h.x A hA)
theorem wl_storesRow {α : Type} {enc : α → List Value} {t : TypeId} {x y : Operand} {base g n cap sz o j r m : Nat} {e : TypeId} {vs : List Value} {l : List α} {el el' : α} (hrow : c.row = some g) (hs : rowSz P t = some m) (hx : rd S x = some (.pointer (some ⟨g, o, none⟩))) (hy : rd S y = some (.agg vs.toArray)) (h1 : vs.all (·.oneCell') = true) (hn : vs.length = m)
    (hk : ∀ x, (enc x).length = sz) (ho : 0 + j * sz + r = o) (hj : l[j]? = some el) (hl : l.length = n) (hr : r + m ≤ sz) (he : splice (enc el) r vs = enc el') (hT : c.Tt.contains e = false)
    (h : WL P c ops Q rest S (RowK base e sz n cap g ((l.set j el').flatMap enc)) L O X) : WL P c ops Q (⟨none, .store t x y, ty, pos, aft, none⟩ :: rest) S (RowK base e sz n cap g (l.flatMap enc)) L O X := by
  intro a w ha hm
  have hown : w.ownsRow base e sz (.slice (some ⟨g, 0, none⟩) n cap) n (l.flatMap enc) := hm.k
  have hjl := (List.getElem?_eq_some_iff.1 hj).1
  have hlt : o + m ≤ n * sz := by
    have : (j + 1) * sz ≤ n * sz := Nat.mul_le_mul_right sz (by omega)
    rw [Nat.add_mul] at this
    omega
  obtain ⟨dd, hu, _, hi⟩ := run_row hs
  rcases hown.2 with ⟨h', _⟩ | ⟨g', cap', cur, h', hb, hg, hnc, hcm, hcs, htake⟩
  · simp at h'
  · simp only [Value.slice.injEq, Option.some.injEq, Addr.mk.injEq, and_true, true_and] at h'
    obtain ⟨rfl, rfl⟩ := h'
    have hbk : Blk w g e cur.toList := by unfold Blk; rw [Array.toArray_toList]; exact hg
    have hcl : n * sz ≤ cur.toList.length := by
      have := Nat.mul_le_mul_right sz hnc
      simp [hcs]; exact this
    refine wpList_store_blk rfl t x y rfl g o e cur.toList vs hbk (ha.eval hx) (ha.eval hy) m hi hn (by omega) (by simpa using h1) fun w' hb' hgr => ?_
    have hsl := splice_length cur.toList o vs (by omega)
    have hfl := flat_len enc sz hk (l.set j el')
    rw [List.length_set, hl] at hfl
    refine h _ _ ⟨ha.size, ha.val, ha.df⟩ (hm.turned hrow hT ⟨hfl, .inr ⟨g, cap, (splice cur.toList o vs).toArray, rfl, hb, hb', hnc, hcm, by simpa [hsl] using hcs, ?_⟩⟩ hgr)
    rw [List.toList_toArray, own_take_splice hcl (by omega), htake, ← ho, Nat.zero_add, own_flat_splice enc sz hk hj he (by omega)]
/-- A call that turns the row. -/
theorem wl_callK {f : FuncId} {x : Operand} {ags : List Operand} {ats : Array TypeId} {vs fs cs : List Value} {v : Value} {base g n cap sz : Nat} {e : TypeId} {xs xs' : List Value} (hrow : c.row = some g) (hT : c.Tt.contains e = false) (hx : rd S x = some (.func (.func f) fs.toArray cs.toArray)) (hf : callableB P f = true) (ha : evArgs S ags = some vs) (hd : Nat.ble (d + 1) c.n = true)
    (hC : ∀ w, Mem c (RowK base e sz n cap g xs) L O X w → Calls P f (fs ++ vs ++ cs).toArray w (fun e1 w' => e1 = .returned v ∧ w'.ownsRow base e sz (.slice (some ⟨g, 0, none⟩) n cap) n xs' ∧ w.grownBy w' (some g))) (h : WL P c ops Q rest ((d, v) :: S) (RowK base e sz n cap g xs') L O X) :
    WL P c ops Q (⟨some d, .call ⟨.value x, ags.toArray, ats⟩, ty, pos, aft, none⟩ :: rest) S (RowK base e sz n cap g xs) L O X :=
  wl_callG (γ := Unit) (val := fun _ => v) (φ := fun _ => True) (K' := fun _ => RowK base e sz n cap g xs') (L' := fun _ => L) (O' := fun _ => O) (X' := fun _ => X) hx hf ha hd (fun w hm => (hC w hm).mono fun _ _ ⟨he, ho, hg⟩ => ⟨(), he, trivial, hm.turned hrow hT ho hg⟩) (fun _ _ => h)
end
/-- A call on a row of the call's own ends by the row's contract. -/
theorem fin_row {base : Nat} {e : TypeId} {sz n cap g : Nat} {xs : List Value} {w0 w : World} (hk : RowK base e sz n cap g xs w) (hg : w0.grownBy w (some g)) : w.ownsRow base e sz (.slice (some ⟨g, 0, none⟩) n cap) n xs ∧ w0.grownBy w (some g) := ⟨hk, hg⟩
end Go.Proofs.YtjecbkgjabnmoaaGreatDoor
namespace Go.Proofs.YtjecbkgjabnmoaaGreatDoor
open Go.RowKit
section
variable {P : Program} {c : Cx} {ops : Array Oper} {Q : Exit → Act → World → Prop} {rest : List Oper} {S : List (Nat × Value)} {L : List (Nat × TypeId × List Value)} {O : List Own} {X : List (World → Prop)} {ty : TypeId} {pos : String} {aft : Array Edge}
theorem Mem.turned2 {base g n n' cap sz : Nat} {e : TypeId} {xs xs' : List Value} {w w' : World} (h : Mem c (RowK base e sz n cap g xs) L O X w) (hrow : c.row = some g) (hT : c.Tt.contains e = false) (hown : w'.ownsRow base e sz (.slice (some ⟨g, 0, none⟩) n' cap) n' xs') (hg : w.grownBy w' (some g)) : Mem c (RowK base e sz n' cap g xs') L O X w' := by
  have hlt0 := h.rs g hrow
  have hk : w.ownsRow base e sz (.slice (some ⟨g, 0, none⟩) n cap) n xs := h.k
  obtain ⟨cells, hcells⟩ : ∃ cells, w.heap[g]? = some (.cells cells e (0, 0)) := by
    rcases hk.2 with ⟨h1, _⟩ | ⟨g', cap', cur, h1, _, h2, _⟩
    · cases h1
    · injection h1 with h1 _ _
      injection h1 with h1
      injection h1 with h1 _ _
      subst h1
      exact ⟨_, h2⟩
  refine ⟨grow_trans h.g (hrow ▸ hg), hown, fun x hx => ⟨(h.b x hx).1, (h.b x hx).2.grown hg (fun e => ?_)⟩, h.nd, fun r hr => (h.o r hr).kept hg ?_, h.od, h.oo, fun A hA => ?_, RowK.keeps hlt0, h.l, h.rs⟩
  · have := (h.b x hx).1; injection e with e; omega
  · cases hv : r.v.ownBlock with
    | none => exact .inl rfl
    | some g' => exact .inr (fun e => by have := ((h.o r hr).lt g' hv).1; injection e with e; omega)
  · exact (h.l A hA).st w _ g e cells hcells (fun e => by simp [e] at hT) (.inr hrow) hg (h.x A hA)
theorem zeroCells_len (z : Array Value) (n : Nat) : (Builtin.zeroCells z n).toList.length = n * z.size := by simp [Builtin.zeroCells]
theorem zeroCells_one {z : Array Value} (h : ∀ v ∈ z.toList, v.oneCell' = true) (n : Nat) : ∀ v ∈ (Builtin.zeroCells z n).toList, v.oneCell' = true := fun v hv => by
  unfold Builtin.zeroCells at hv
  simp only [Array.toList_map, Array.toList_range, List.mem_map, List.mem_range] at hv
  obtain ⟨i, hi, rfl⟩ := hv
  have hz : 0 < z.size := by
    rcases Nat.eq_zero_or_pos z.size with h0 | h0
    · rw [h0] at hi; omega
    · exact h0
  have hm : i % z.size < z.size := Nat.mod_lt _ hz
  rw [getElem!_pos z _ hm]
  exact h _ (by simp)
theorem wl_clearRow {t e : TypeId} {x : Operand} {base g n cap sz m k c' o : Nat} {xs z : List Value} (hrow : c.row = some g) (ht : elemSz P t = some (e, sz)) (hz : zeroCs P e = some z) (hz1 : z.all (·.oneCell') = true) (hzl : z.length = sz) (hx : rd S x = some (.slice (some ⟨g, o, none⟩) k c')) (ho : o = m * sz) (hk : m + k = n) (hT : c.Tt.contains e = false)
    (h : WL P c ops Q rest S (RowK base e sz m cap g (xs.take (m * sz))) L O X) : WL P c ops Q (⟨none, .call ⟨.builtin .clear, #[x], #[t]⟩, ty, pos, aft, none⟩ :: rest) S (RowK base e sz n cap g xs) L O X := by
  subst ho hk
  intro a w ha hm
  refine wpList_plain rfl fun K' hK => ?_
  have hown : w.ownsRow base e sz (.slice (some ⟨g, 0, none⟩) (m + k) cap) (m + k) xs := hm.k
  have hu : P.underlying t = some (.slice e) := by
    unfold elemSz at ht
    cases hq : P.underlying t with
    | none => simp [hq] at ht
    | some dd =>
      cases dd <;> simp [hq] at ht
      obtain ⟨_, _, rfl, _⟩ := ht
      rfl
  unfold zeroCs at hz
  cases hi : P.info? e with
  | none => simp [hi] at hz
  | some inf =>
    cases hzz : inf.zero with
    | none => simp [hi, hzz] at hz
    | some zv =>
      have hzc : zv.cells.toList = z := by simpa [hi, hzz] using hz
      have hzero : (zeroValue e).run P w = .ok zv w := by simp [zeroValue, typeInfo, hi, hzz]
      obtain ⟨hxl, hb⟩ := hown
      rcases hb with ⟨h', _⟩ | ⟨g', cap', cur, h', hb, hg, hnc, hcm, hcs, htake⟩
      · cases h'
      · simp only [Value.slice.injEq, Option.some.injEq, Addr.mk.injEq, and_true, true_and] at h'
        obtain ⟨rfl, rfl⟩ := h'
        have hmul : (m + k) * sz = m * sz + k * sz := Nat.add_mul _ _ _
        have hcap := Nat.mul_le_mul_right sz hnc
        have htk : (cur.toList.take (m * sz)) = xs.take (m * sz) := by
          rw [← htake, List.take_take, Nat.min_eq_left (by omega)]
        have hxm : (xs.take (m * sz)).length = m * sz := by rw [List.length_take, hxl]; omega
        unfold Oper.wp
        by_cases h0 : k = 0
        · subst h0
          have : (execOp a.eval ⟨none, .call ⟨.builtin .clear, #[x], #[t]⟩, ty, pos, aft, none⟩).run P w = .ok (.value (.tuple #[])) w := by
            simp [execOp, resolve, invoke, builtin, ha.eval hx, Builtin.clear_, run_underlying hu]
          rw [this]
          exact hK _ _ (h _ _ ha (hm.turned2 hrow hT ⟨hxm, .inr ⟨g, cap, cur, rfl, hb, hg, by omega, hcm, hcs, htk⟩⟩ (World.grownBy.refl _ _)))
        · have hzl2 : (Builtin.zeroCells zv.cells k).toList.length = k * sz := by rw [zeroCells_len, ← hzl, ← hzc]; simp
          have hr := run_storeCells_at (P := P) g (m * sz) e (Builtin.zeroCells zv.cells k).toList 0 cur w hg (by rw [hzl2]; simp [hcs]; omega) (zeroCells_one (by rw [hzc]; simpa using hz1) k)
          simp only [Nat.add_zero] at hr
          have : (execOp a.eval ⟨none, .call ⟨.builtin .clear, #[x], #[t]⟩, ty, pos, aft, none⟩).run P w = .ok (.value (.tuple #[])) (w.setRow g (cur.toList.take (m * sz) ++ (Builtin.zeroCells zv.cells k).toList ++ cur.toList.drop (m * sz + (Builtin.zeroCells zv.cells k).toList.length)).toArray) := by
            obtain ⟨k', rfl⟩ : ∃ k', k = k' + 1 := ⟨k - 1, by omega⟩
            simp [execOp, resolve, invoke, builtin, ha.eval hx, Builtin.clear_, run_underlying hu, hzero, hr, Result.andThen]
          rw [this]
          refine hK _ _ (h _ _ ha (hm.turned2 hrow hT ⟨hxm, .inr ⟨g, cap, _, rfl, hb, setRow_heap w g cur _ e (0, 0) hg, by omega, hcm, ?_, ?_⟩⟩ ⟨rfl, rfl, rfl, by simp [World.setRow], fun q _ hne => ?_⟩))
          · simp [hzl2]; omega
          · simp only [List.append_assoc]
            rw [List.take_append_of_le_length (by simp; omega), List.take_take, Nat.min_self]
            exact htk
          · simp only [World.setRow, Array.getElem?_modify]
            rw [if_neg (fun e => hne (by rw [e]))]
end
end Go.Proofs.YtjecbkgjabnmoaaGreatDoor
namespace Go.Proofs.YtjecbkgjabnmoaaGreatDoor
open Go.RowKit
theorem pl_one (x : Pl) : ∀ v ∈ plEnc x, v.oneCell' = true := by
  intro v hv
  simp only [plEnc, List.mem_cons, List.not_mem_nil, or_false] at hv
  rcases hv with rfl | rfl | rfl <;> rfl
theorem plate_info : ∃ i z, Tryz.prog.info? 143 = some i ∧ i.zero = some z ∧ i.size = 3 ∧ i.bytes = 40 ∧ z.cells.size = 3 := info_parts (by kernel_rfl)
set_option maxRecDepth 100000 in
set_option maxHeartbeats 1000000 in
theorem clonePlates_pos (l : List Pl) (A : Option Addr) (n c : Nat) (w : World) (hl : SlT plEnc 3 143 w A n l) (hn0 : 0 < n) (hn : n ≤ 1000000) :
    Calls Tryz.prog 110 #[.slice A n c] w (fun e w' => ∃ A' c', e = .returned (.slice A' n c') ∧ w'.ownsRow w.heap.size 143 3 (.slice A' n c') n (l.flatMap plEnc) ∧ w.grownBy w' none) := by
  obtain ⟨b, off, rfl, hbl, hfl⟩ := hl.flat pl_len hn0
  have hlen := hl.len
  obtain ⟨i0, z0, hi, hz, hsz, hby, hzs⟩ := plate_info
  have hnews : ∀ (o : Obj) j u, (l.flatMap plEnc)[j]? = some u → (w.alloc o).cell? ((⟨b, off, none⟩ : Addr).add j) = some u := fun o j u hj =>
    (World.cell?_of_block (Below.heap_alloc w o _ (by unfold Addr.add; split <;> exact hbl))).trans (hfl j u hj)
  have hone := flat_one plEnc pl_one l
  have hll := flat_len plEnc 3 pl_len l
  rw [hlen] at hll
  clear hfl hl
  have Hnews := Lib.hid hnews
  clear hnews
  have he : ∀ w : World, (binOp .eql 29 (.slice (some ⟨b, off, none⟩) n c) (.slice none 0 0)).run Tryz.prog w = .ok (.bool false) w := fun _ => rfl
  go_enter Tryz.func110, Tryz.ntmps110
  go_wp2_with (at_builtin; refine wpList_append_own_at _ rfl _ _ 29 rfl w.heap.size 143 i0 z0 3 40 Tryz.underlying29 hi hz hsz hby hzs (by decide) (.slice (some ⟨w.heap.size, 0, none⟩) 0 0) 0 [] rfl ⟨rfl, .inr ⟨w.heap.size, 0, #[], rfl, Nat.le_refl _, heap_alloc_new w _, Nat.le_refl _, by decide, rfl, rfl⟩⟩ ⟨b, off, none⟩ n c (l.flatMap plEnc) rfl hll (Hnews.out _) hone (by unfold maxLen; omega) (by omega) (by simp) ?_; intro v' w' hown hgrow hnil hat)
  rw [Nat.zero_add, List.nil_append] at hown
  have hown2 := hown
  obtain ⟨_, ho⟩ := hown2
  rcases ho with ⟨_, h0⟩ | ⟨g, cap, cur, rfl, hg, _⟩
  · omega
  · go_ret
    exact ⟨some ⟨g, 0, none⟩, cap, rfl, hown, grow_own (grow_alloc (World.grownBy.refl _ _) _) hgrow (fun k h => by cases h; exact Nat.le_refl _)⟩
set_option maxRecDepth 100000 in
set_option maxHeartbeats 1000000 in
theorem clonePlates_empty (b off c : Nat) (w : World) :
    Calls Tryz.prog 110 #[.slice (some ⟨b, off, none⟩) 0 c] w (fun e w' => ∃ A' c', e = .returned (.slice A' 0 c') ∧ w'.ownsRow w.heap.size 143 3 (.slice A' 0 c') 0 [] ∧ w.grownBy w' none) := by
  obtain ⟨i0, z0, hi, hz, hsz, hby, hzs⟩ := plate_info
  have he : ∀ w : World, (binOp .eql 29 (.slice (some ⟨b, off, none⟩) 0 c) (.slice none 0 0)).run Tryz.prog w = .ok (.bool false) w := fun _ => rfl
  go_enter Tryz.func110, Tryz.ntmps110
  go_wp2_with (at_builtin; refine wpList_append_own_at _ rfl _ _ 29 rfl w.heap.size 143 i0 z0 3 40 Tryz.underlying29 hi hz hsz hby hzs (by decide) (.slice (some ⟨w.heap.size, 0, none⟩) 0 0) 0 [] rfl ⟨rfl, .inr ⟨w.heap.size, 0, #[], rfl, Nat.le_refl _, heap_alloc_new w _, Nat.le_refl _, by decide, rfl, rfl⟩⟩ ⟨b, off, none⟩ 0 c [] rfl rfl (fun j u hj => by simp at hj) (fun v hv => by cases hv) (by unfold maxLen; omega) (by omega) (by simp) ?_; intro v' w' hown hgrow hnil hat)
  rw [Nat.zero_add, List.nil_append] at hown
  have hown2 := hown
  obtain ⟨_, ho⟩ := hown2
  rcases ho with ⟨rfl, _⟩ | ⟨g, cap, cur, rfl, hg, _⟩
  · go_ret
    exact ⟨none, 0, rfl, hown, grow_own (grow_alloc (World.grownBy.refl _ _) _) hgrow (fun k h => by cases h; exact Nat.le_refl _)⟩
  · go_ret
    exact ⟨some ⟨g, 0, none⟩, cap, rfl, hown, grow_own (grow_alloc (World.grownBy.refl _ _) _) hgrow (fun k h => by cases h; exact Nat.le_refl _)⟩
set_option maxRecDepth 100000 in
set_option maxHeartbeats 400000 in
theorem clonePlates_nil (w : World) : Calls Tryz.prog 110 #[.slice none 0 0] w (fun e w' => e = .returned (.slice none 0 0) ∧ w = w') := by
  have he : ∀ w : World, (binOp .eql 29 (.slice none 0 0) (.slice none 0 0)).run Tryz.prog w = .ok (.bool true) w := fun _ => rfl
  go_enter Tryz.func110, Tryz.ntmps110
  go_wp2_with fail
  go_ret
  exact ⟨rfl, rfl⟩
theorem clonePlates_any (l : List Pl) (A : Option Addr) (n c : Nat) (w : World) (hl : SlT plEnc 3 143 w A n l) (hnil : n = 0 → A = none ∧ c = 0) (hn : n ≤ 1000000) :
    Calls Tryz.prog 110 #[.slice A n c] w (fun e w' => ∃ A' c', e = .returned (.slice A' n c') ∧ w'.ownsRow w.heap.size 143 3 (.slice A' n c') n (l.flatMap plEnc) ∧ w.grownBy w' none) := by
  by_cases h0 : n = 0
  · obtain ⟨rfl, rfl⟩ := hnil h0
    subst h0
    have hl0 : l = [] := List.length_eq_zero_iff.1 hl.len
    subst hl0
    exact (clonePlates_nil w).mono fun e w' ⟨he, hw⟩ => ⟨none, 0, he, ⟨rfl, .inl ⟨rfl, rfl⟩⟩, hw ▸ World.grownBy.refl _ _⟩
  · exact clonePlates_pos l A n c w hl (by omega) hn
end Go.Proofs.YtjecbkgjabnmoaaGreatDoor
namespace Go.Proofs.YtjecbkgjabnmoaaGreatDoor
open Go.RowKit
theorem flat_takeP : ∀ (l : List Pl) (i : Nat), (l.flatMap plEnc).take (i * 3) = (l.take i).flatMap plEnc
  | [], i => by simp
  | x :: r, 0 => by simp
  | x :: r, i + 1 => by
    rw [List.flatMap_cons, List.take_succ_cons, List.flatMap_cons, ← flat_takeP r i, show (i + 1) * 3 = (plEnc x).length + i * 3 by rw [pl_len]; omega, List.take_length_add_append]
theorem ix_take {p : Pl → Bool} {l : List Pl} {i : Nat} (h : ixP p l 0 = (i : Int)) : i < l.length ∧ (l.take (i + 1)).filter (fun x => !p x) = l.take i := by
  rcases ixP_spec (p := p) l 0 with ⟨h1, _⟩ | ⟨j, x, h1, hx, hp, hf⟩
  · omega
  · obtain rfl : j = i := by omega
    have hj := (List.getElem?_eq_some_iff.1 hx).1
    refine ⟨hj, ?_⟩
    rw [List.take_add_one, hx, Option.toList_some, List.filter_append, List.filter_cons_of_neg (by simp [hp]), List.filter_nil, List.append_nil, List.filter_eq_self.2 fun y hy => ?_]
    obtain ⟨k, hk⟩ := List.getElem?_of_mem hy
    have hk2 := (List.getElem?_eq_some_iff.1 hk).1
    rw [List.length_take] at hk2
    rw [List.getElem?_take, if_pos (by omega)] at hk
    rw [hf k (by omega) y hk]; rfl
theorem ix_nil {p : Pl → Bool} {l : List Pl} (h : ixP p l 0 = -1) : l.filter (fun x => !p x) = l := by
  rcases ixP_spec (p := p) l 0 with ⟨_, h1⟩ | ⟨j, x, h1, _⟩
  · exact List.filter_eq_self.2 fun y hy => by rw [h1 y hy]; rfl
  · omega
theorem take_step {p : Pl → Bool} {l cur : List Pl} {i j : Nat} {x : Pl} (hx : l[j]? = some x) (hp : p x = false) (hi : i < cur.length) (ht : cur.take i = (l.take j).filter fun x => !p x) : (cur.set i x).take (i + 1) = (l.take (j + 1)).filter fun x => !p x := by
  have e1 : l.take (j + 1) = l.take j ++ [x] := by rw [List.take_add_one, hx]; rfl
  rw [e1, List.filter_append, ← ht, List.filter_cons_of_pos (by simp [hp]), List.filter_nil, List.take_add_one, List.getElem?_set_self hi, List.take_set_of_le (Nat.le_refl _)]; rfl
theorem take_skip {p : Pl → Bool} {l cur : List Pl} {i j : Nat} {x : Pl} (hx : l[j]? = some x) (hp : p x = true) (ht : cur.take i = (l.take j).filter fun x => !p x) : cur.take i = (l.take (j + 1)).filter fun x => !p x := by
  rw [List.take_add_one, hx, Option.toList_some, List.filter_append, ← ht, List.filter_cons_of_neg (by simp [hp]), List.filter_nil, List.append_nil]
theorem drop_at {l cur : List Pl} {j : Nat} (h : cur.drop j = l.drop j) : cur[j]? = l[j]? := by
  have := congrArg (fun z => z[0]?) h
  simpa [List.getElem?_drop] using this
theorem delLater_any (l0 : List Pl) (br n cap base : Nat) (gm : Nat) (mt : Int) (w : World) (h : w.ownsRow base 143 3 (.slice (some ⟨br, 0, none⟩) n cap) n (l0.flatMap plEnc)) (hl0 : l0.length = n) (hn : n ≤ 1000000) (hcap : n ≤ cap) (hk : BlkOld w.heap.size (some br) gm 3 [.int .i64 mt] w) :
  Calls Tryz.prog 174 #[.slice (some ⟨br, 0, none⟩) n cap, .func (.func 175) #[] #[.pointer (some ⟨gm, 0, none⟩)]] w (fun e w' => ∃ (k : Nat) (ls : List Pl), e = .returned (.slice (some ⟨br, 0, none⟩) k cap) ∧ ls = l0.filter (fun x => !(laterP mt) x) ∧ ls.length = k ∧ w'.ownsRow base 143 3 (.slice (some ⟨br, 0, none⟩) k cap) k (ls.flatMap plEnc) ∧ w.grownBy w' (some br)) := by
 refine gw_enter ⟨42, w, (some br), []⟩ Tryz.func174 rfl Tryz.ntmps174 rfl (memR (X := [BlkOld w.heap.size (some br) gm 3 [.int .i64 mt]]) h (allF_cons hk allF_nil) (allL_cons BlkOld.lasts allL_nil)) ?_
 refine sr_ (sg_ rfl (nn_ (sr_ (mv_ rfl (mv_ rfl ?_)))))
 refine wl_callv rfl cb170 rfl rfl (fun wx hm => (ixLater_any l0 _ n cap gm mt wx (RowK.get hm.k pl_len hl0) hn (hm.fact 0 rfl).2)) ?_
 refine sg_ rfl (nn_ (gw_seq (sr_ (mv_ rfl (wl_ov (ov_eql rfl rfl) rfl (nn_ ?_))))))
 refine gw_cond rfl (fun hh => ?_) (fun hh => ?_)
 ·have h1 : ixP (laterP mt) l0 0 = -1 := by simpa using hh
  clear hh
  refine sr_ (mv_ rfl (sg_ rfl (nn_ ?_)))
  refine gw_ret ?_
  refine nx_then_ret ?_
  refine nx_ret1 rfl rfl fun wx hm => ?_
  exact ⟨n, l0.filter (fun x => !(laterP mt) x), rfl, rfl, by rw [ix_nil h1]; exact hl0, by rw [ix_nil h1]; exact (fin_row hm.k hm.g).1, (fin_row hm.k hm.g).2⟩
 have h1 : ¬ (ixP (laterP mt) l0 0 = -1) := by simpa using hh
 clear hh
 refine gw_skip (nx_then (gw_seq (sr_ ?_)))
 have hb := ixP_bound (p := laterP mt) l0
 obtain ⟨i0, hi0⟩ : ∃ i0 : Nat, ixP (laterP mt) l0 0 = (i0 : Int) := ⟨(ixP (laterP mt) l0 0).toNat, (Int.toNat_of_nonneg (by omega)).symm⟩
 obtain ⟨hin, htk⟩ := ix_take hi0
 refine mv_ rfl (ad_ rfl rfl (sg_ rfl (nn_ (gw_block ?_))))
 refine gw_loop (γ := Nat × Nat × List Pl) (fun gg => (gg.1 < gg.2.1 ∧ gg.2.1 ≤ n) ∧ gg.2.2.length = n ∧ gg.2.2.drop gg.2.1 = l0.drop gg.2.1 ∧ gg.2.2.take gg.1 = (l0.take gg.2.1).filter (fun x => !(laterP mt) x)) (fun gg => [(0, .slice (some ⟨br, 0, none⟩) n cap), (1, .func (.func 175) #[] #[.pointer (some ⟨gm, 0, none⟩)]), (4, .slice none 0 0), (5, .int .i64 ((gg.1 : Nat) : Int)), (6, .int .i64 ((gg.2.1 : Nat) : Int))]) (fun gg => RowK base 143 3 n cap br ((gg.2.2).flatMap plEnc)) (fun gg => []) (fun gg => []) (fun gg => [BlkOld w.heap.size (some br) gm 3 [.int .i64 mt]]) (fun gg => n - gg.2.1) (i0, i0 + 1, l0) ⟨⟨Nat.lt_succ_self _, (show i0 + 1 ≤ n by omega)⟩, hl0, rfl, htk.symm⟩ ⟨rfl, rfl, rfl, (some_int hi0), (some_int (show _ = ((i0 + 1 : Nat) : Int) by omega)), trivial⟩ (fun _ hm => hm.pick [] [] [0] rfl rfl) ?_
 rintro ⟨i, j, cur⟩ hinv
 replace hinv : (i < j ∧ j ≤ n) ∧ cur.length = n ∧ cur.drop j = l0.drop j ∧ cur.take i = (l0.take j).filter (fun x => !(laterP mt) x) := hinv
 dsimp only
 refine gw_seq (sr_ ?_)
 obtain ⟨⟨hij, hjn⟩, hcl, hdr, htak⟩ := hinv
 refine mv_ rfl (mv_ rfl (wl_ov (ov_len es29 rfl) rfl (wl_ov (ov_lss rfl rfl) rfl (nn_ ?_))))
 refine gw_cond rfl (fun hh => ?_) (fun hh => ?_)
 ·have hj : ((j : Nat) : Int) < ((n : Nat) : Int) := by simpa using hh
  clear hh
  refine gw_skip (nx_then (gw_seq (gw_block (sr_ ?_))))
  obtain ⟨xx, hx⟩ : ∃ x, cur[j]? = some x := ⟨_, List.getElem?_eq_getElem (by omega)⟩
  obtain ⟨of, ov, op⟩ := xx
  have hx0 : l0[j]? = some ⟨of, ov, op⟩ := (drop_at hdr).symm.trans hx
  refine mv_ rfl (mv_ rfl ?_)
  refine wl_ov (ov_index (j := j) es29 rfl rfl (by omega)) rfl ?_
  refine wl_ov (ov_elem (vs := [.int .i64 of, .string ov, .string op]) rz143 rfl (fun _ hm => (RowK.get hm.k pl_len hcl)) hx rfl rfl) rfl ?_
  refine wl_alloc zc143 rfl fun g1 => ?_
  refine wl_stores (cs' := [.int .i64 of, .string ov, .string op]) 0 rz143 rfl rfl rfl rfl rfl rfl rfl rfl ?_
  refine nn_ (sr_ (mv_ rfl ?_))
  refine wl_ov (ov_loads rz143 rfl (fun _ hm => hm.blkI 0 rfl) rfl rfl) rfl ?_
  refine wl_callv rfl cb175 rfl rfl (fun wx hm => (later_any of ov op gm mt wx (hm.fact 0 rfl).2)) ?_
  refine wl_ov (ov_un_not rfl) rfl (nn_ ?_)
  refine gw_cond rfl (fun hh => ?_) (fun hh => ?_)
  ·have hp : ((laterP mt) ⟨of, ov, op⟩) = false := by simpa using hh
   clear hh
   refine sr_ (mv_ rfl (mv_ rfl ?_))
   refine wl_ov (ov_loads rz143 rfl (fun _ hm => hm.blkI 0 rfl) rfl rfl) rfl ?_
   refine wl_ov (ov_index (j := i) es29 rfl rfl (by omega)) rfl ?_
   obtain ⟨y, hy⟩ : ∃ y, cur[i]? = some y := ⟨_, List.getElem?_eq_getElem (by omega)⟩
   obtain ⟨yf, yv, yp⟩ := y
   refine wl_storesRow (l := cur) (j := i) (r := 0) (el := ⟨yf, yv, yp⟩) (el' := ⟨of, ov, op⟩) rfl rz143 rfl rfl rfl rfl pl_len rfl hy hcl (by decide) rfl rfl ?_
   refine nn_ (gw_region (mv_ rfl (ad_ rfl rfl (sg_ rfl (wl_nil (nx_blk_nrm (nx_then (gw_region (mv_ rfl (ad_ rfl rfl (sg_ rfl (wl_nil ?_))))))))))))
   exact nx_round (i + 1, j + 1, cur.set i ⟨of, ov, op⟩) ⟨⟨by dsimp only; omega, by dsimp only; omega⟩, by rw [List.length_set]; exact hcl, by dsimp only; rw [List.drop_set_of_lt (by omega), ← List.drop_drop, ← List.drop_drop, hdr], take_step hx0 hp (by omega) htak⟩ (by dsimp only; omega) ⟨rfl, rfl, rfl, (some_int (by dsimp only; omega)), (some_int (by dsimp only; omega)), trivial⟩ (fun _ hm => hm.pick [] [] [0] rfl rfl)
  have hp : ((laterP mt) ⟨of, ov, op⟩) = true := by simpa using hh
  clear hh
  refine gw_skip (nx_blk_nrm (nx_then (gw_region (mv_ rfl (ad_ rfl rfl (sg_ rfl (wl_nil ?_)))))))
  exact nx_round (i, j + 1, cur) ⟨⟨by dsimp only; omega, by dsimp only; omega⟩, hcl, by dsimp only; rw [← List.drop_drop, ← List.drop_drop, hdr], take_skip hx0 hp htak⟩ (by dsimp only; omega) ⟨rfl, rfl, rfl, rfl, (some_int (by dsimp only; omega)), trivial⟩ (fun _ hm => hm.pick [] [] [0] rfl rfl)
 have hj : ¬ (((j : Nat) : Int) < ((n : Nat) : Int)) := by simpa using hh
 clear hh
 refine gw_exit ?_
 refine nx_then_exit (nx_then_exit ?_)
 refine nx_blk_here ?_
 refine nx_then (sr_ ?_)
 obtain rfl : j = n := by omega
 have hnc : j ≤ cap := hcap
 have hall : l0.take j = l0 := List.take_of_length_le (by omega)
 rw [hall] at htak
 refine mv_ rfl (mv_ rfl ?_)
 refine wl_ov (ov_sliceLo (lo := i) es29 rfl rfl rfl (by omega)) rfl ?_
 refine wl_set 38 (v' := .slice (some ⟨br, i * 3, none⟩) (j - i) (cap - i)) rfl (by rw [if_neg (by omega)]; simp [Option.map, add_addr]) ?_
 refine wl_clearRow (m := i) rfl es29 zc143 rfl rfl rfl rfl (by omega) rfl ?_
 rw [flat_takeP, htak]
 refine nn_ (sr_ (mv_ rfl (mv_ rfl ?_)))
 refine wl_ov (ov_sliceHi (hi := i) es29 rfl rfl rfl (by omega)) rfl ?_
 refine sg_ rfl (nn_ ?_)
 refine gw_ret ?_
 have hfl : (l0.filter (fun x => !(laterP mt) x)).length = i := by rw [← htak, List.length_take]; omega
 refine nx_ret1 rfl rfl fun wx hm => ?_
 exact ⟨i, _, rfl, rfl, hfl, (fin_row hm.k hm.g).1, (fin_row hm.k hm.g).2⟩
theorem delTaken_any (l0 : List Pl) (br n cap base : Nat) (el : List Pl) (eA : Option Addr) (en ec ge : Nat) (w : World) (h : w.ownsRow base 143 3 (.slice (some ⟨br, 0, none⟩) n cap) n (l0.flatMap plEnc)) (hl0 : l0.length = n) (hn : n ≤ 1000000) (hcap : n ≤ cap) (hk : BlkOld w.heap.size (some br) ge 29 [.slice eA en ec] w) (he : SlOld plEnc 3 143 w.heap.size (some br) eA en el w) (hen : en ≤ 1000000) :
  Calls Tryz.prog 174 #[.slice (some ⟨br, 0, none⟩) n cap, .func (.func 176) #[] #[.pointer (some ⟨ge, 0, none⟩)]] w (fun e w' => ∃ (k : Nat) (ls : List Pl), e = .returned (.slice (some ⟨br, 0, none⟩) k cap) ∧ ls = l0.filter (fun x => !(taken el) x) ∧ ls.length = k ∧ w'.ownsRow base 143 3 (.slice (some ⟨br, 0, none⟩) k cap) k (ls.flatMap plEnc) ∧ w.grownBy w' (some br)) := by
 refine gw_enter ⟨42, w, (some br), []⟩ Tryz.func174 rfl Tryz.ntmps174 rfl (memR (X := [BlkOld w.heap.size (some br) ge 29 [.slice eA en ec], SlOld plEnc 3 143 w.heap.size (some br) eA en el]) h (allF_cons hk (allF_cons he allF_nil)) (allL_cons BlkOld.lasts (allL_cons SlOld.lasts allL_nil))) ?_
 refine sr_ (sg_ rfl (nn_ (sr_ (mv_ rfl (mv_ rfl ?_)))))
 refine wl_callv rfl cb170 rfl rfl (fun wx hm => (ixTaken_any l0 _ n cap el eA en ec ge wx (RowK.get hm.k pl_len hl0) hn (hm.fact 0 rfl).2 (hm.fact 1 rfl).1 hen)) ?_
 refine sg_ rfl (nn_ (gw_seq (sr_ (mv_ rfl (wl_ov (ov_eql rfl rfl) rfl (nn_ ?_))))))
 refine gw_cond rfl (fun hh => ?_) (fun hh => ?_)
 ·have h1 : ixP (taken el) l0 0 = -1 := by simpa using hh
  clear hh
  refine sr_ (mv_ rfl (sg_ rfl (nn_ ?_)))
  refine gw_ret ?_
  refine nx_then_ret ?_
  refine nx_ret1 rfl rfl fun wx hm => ?_
  exact ⟨n, l0.filter (fun x => !(taken el) x), rfl, rfl, by rw [ix_nil h1]; exact hl0, by rw [ix_nil h1]; exact (fin_row hm.k hm.g).1, (fin_row hm.k hm.g).2⟩
 have h1 : ¬ (ixP (taken el) l0 0 = -1) := by simpa using hh
 clear hh
 refine gw_skip (nx_then (gw_seq (sr_ ?_)))
 have hb := ixP_bound (p := taken el) l0
 obtain ⟨i0, hi0⟩ : ∃ i0 : Nat, ixP (taken el) l0 0 = (i0 : Int) := ⟨(ixP (taken el) l0 0).toNat, (Int.toNat_of_nonneg (by omega)).symm⟩
 obtain ⟨hin, htk⟩ := ix_take hi0
 refine mv_ rfl (ad_ rfl rfl (sg_ rfl (nn_ (gw_block ?_))))
 refine gw_loop (γ := Nat × Nat × List Pl) (fun gg => (gg.1 < gg.2.1 ∧ gg.2.1 ≤ n) ∧ gg.2.2.length = n ∧ gg.2.2.drop gg.2.1 = l0.drop gg.2.1 ∧ gg.2.2.take gg.1 = (l0.take gg.2.1).filter (fun x => !(taken el) x)) (fun gg => [(0, .slice (some ⟨br, 0, none⟩) n cap), (1, .func (.func 176) #[] #[.pointer (some ⟨ge, 0, none⟩)]), (4, .slice none 0 0), (5, .int .i64 ((gg.1 : Nat) : Int)), (6, .int .i64 ((gg.2.1 : Nat) : Int))]) (fun gg => RowK base 143 3 n cap br ((gg.2.2).flatMap plEnc)) (fun gg => []) (fun gg => []) (fun gg => [BlkOld w.heap.size (some br) ge 29 [.slice eA en ec], SlOld plEnc 3 143 w.heap.size (some br) eA en el]) (fun gg => n - gg.2.1) (i0, i0 + 1, l0) ⟨⟨Nat.lt_succ_self _, (show i0 + 1 ≤ n by omega)⟩, hl0, rfl, htk.symm⟩ ⟨rfl, rfl, rfl, (some_int hi0), (some_int (show _ = ((i0 + 1 : Nat) : Int) by omega)), trivial⟩ (fun _ hm => hm.pick [] [] [0, 1] rfl rfl) ?_
 rintro ⟨i, j, cur⟩ hinv
 replace hinv : (i < j ∧ j ≤ n) ∧ cur.length = n ∧ cur.drop j = l0.drop j ∧ cur.take i = (l0.take j).filter (fun x => !(taken el) x) := hinv
 dsimp only
 refine gw_seq (sr_ ?_)
 obtain ⟨⟨hij, hjn⟩, hcl, hdr, htak⟩ := hinv
 refine mv_ rfl (mv_ rfl (wl_ov (ov_len es29 rfl) rfl (wl_ov (ov_lss rfl rfl) rfl (nn_ ?_))))
 refine gw_cond rfl (fun hh => ?_) (fun hh => ?_)
 ·have hj : ((j : Nat) : Int) < ((n : Nat) : Int) := by simpa using hh
  clear hh
  refine gw_skip (nx_then (gw_seq (gw_block (sr_ ?_))))
  obtain ⟨xx, hx⟩ : ∃ x, cur[j]? = some x := ⟨_, List.getElem?_eq_getElem (by omega)⟩
  obtain ⟨of, ov, op⟩ := xx
  have hx0 : l0[j]? = some ⟨of, ov, op⟩ := (drop_at hdr).symm.trans hx
  refine mv_ rfl (mv_ rfl ?_)
  refine wl_ov (ov_index (j := j) es29 rfl rfl (by omega)) rfl ?_
  refine wl_ov (ov_elem (vs := [.int .i64 of, .string ov, .string op]) rz143 rfl (fun _ hm => (RowK.get hm.k pl_len hcl)) hx rfl rfl) rfl ?_
  refine wl_alloc zc143 rfl fun g1 => ?_
  refine wl_stores (cs' := [.int .i64 of, .string ov, .string op]) 0 rz143 rfl rfl rfl rfl rfl rfl rfl rfl ?_
  refine nn_ (sr_ (mv_ rfl ?_))
  refine wl_ov (ov_loads rz143 rfl (fun _ hm => hm.blkI 0 rfl) rfl rfl) rfl ?_
  refine wl_callv rfl cb176 rfl rfl (fun wx hm => (taken_any of ov op el eA en ec ge wx (hm.fact 0 rfl).2 (hm.fact 1 rfl).1 hen)) ?_
  refine wl_ov (ov_un_not rfl) rfl (nn_ ?_)
  refine gw_cond rfl (fun hh => ?_) (fun hh => ?_)
  ·have hp : ((taken el) ⟨of, ov, op⟩) = false := by simpa using hh
   clear hh
   refine sr_ (mv_ rfl (mv_ rfl ?_))
   refine wl_ov (ov_loads rz143 rfl (fun _ hm => hm.blkI 0 rfl) rfl rfl) rfl ?_
   refine wl_ov (ov_index (j := i) es29 rfl rfl (by omega)) rfl ?_
   obtain ⟨y, hy⟩ : ∃ y, cur[i]? = some y := ⟨_, List.getElem?_eq_getElem (by omega)⟩
   obtain ⟨yf, yv, yp⟩ := y
   refine wl_storesRow (l := cur) (j := i) (r := 0) (el := ⟨yf, yv, yp⟩) (el' := ⟨of, ov, op⟩) rfl rz143 rfl rfl rfl rfl pl_len rfl hy hcl (by decide) rfl rfl ?_
   refine nn_ (gw_region (mv_ rfl (ad_ rfl rfl (sg_ rfl (wl_nil (nx_blk_nrm (nx_then (gw_region (mv_ rfl (ad_ rfl rfl (sg_ rfl (wl_nil ?_))))))))))))
   exact nx_round (i + 1, j + 1, cur.set i ⟨of, ov, op⟩) ⟨⟨by dsimp only; omega, by dsimp only; omega⟩, by rw [List.length_set]; exact hcl, by dsimp only; rw [List.drop_set_of_lt (by omega), ← List.drop_drop, ← List.drop_drop, hdr], take_step hx0 hp (by omega) htak⟩ (by dsimp only; omega) ⟨rfl, rfl, rfl, (some_int (by dsimp only; omega)), (some_int (by dsimp only; omega)), trivial⟩ (fun _ hm => hm.pick [] [] [0, 1] rfl rfl)
  have hp : ((taken el) ⟨of, ov, op⟩) = true := by simpa using hh
  clear hh
  refine gw_skip (nx_blk_nrm (nx_then (gw_region (mv_ rfl (ad_ rfl rfl (sg_ rfl (wl_nil ?_)))))))
  exact nx_round (i, j + 1, cur) ⟨⟨by dsimp only; omega, by dsimp only; omega⟩, hcl, by dsimp only; rw [← List.drop_drop, ← List.drop_drop, hdr], take_skip hx0 hp htak⟩ (by dsimp only; omega) ⟨rfl, rfl, rfl, rfl, (some_int (by dsimp only; omega)), trivial⟩ (fun _ hm => hm.pick [] [] [0, 1] rfl rfl)
 have hj : ¬ (((j : Nat) : Int) < ((n : Nat) : Int)) := by simpa using hh
 clear hh
 refine gw_exit ?_
 refine nx_then_exit (nx_then_exit ?_)
 refine nx_blk_here ?_
 refine nx_then (sr_ ?_)
 obtain rfl : j = n := by omega
 have hnc : j ≤ cap := hcap
 have hall : l0.take j = l0 := List.take_of_length_le (by omega)
 rw [hall] at htak
 refine mv_ rfl (mv_ rfl ?_)
 refine wl_ov (ov_sliceLo (lo := i) es29 rfl rfl rfl (by omega)) rfl ?_
 refine wl_set 38 (v' := .slice (some ⟨br, i * 3, none⟩) (j - i) (cap - i)) rfl (by rw [if_neg (by omega)]; simp [Option.map, add_addr]) ?_
 refine wl_clearRow (m := i) rfl es29 zc143 rfl rfl rfl rfl (by omega) rfl ?_
 rw [flat_takeP, htak]
 refine nn_ (sr_ (mv_ rfl (mv_ rfl ?_)))
 refine wl_ov (ov_sliceHi (hi := i) es29 rfl rfl rfl (by omega)) rfl ?_
 refine sg_ rfl (nn_ ?_)
 refine gw_ret ?_
 have hfl : (l0.filter (fun x => !(taken el) x)).length = i := by rw [← htak, List.length_take]; omega
 refine nx_ret1 rfl rfl fun wx hm => ?_
 exact ⟨i, _, rfl, rfl, hfl, (fin_row hm.k hm.g).1, (fin_row hm.k hm.g).2⟩
end Go.Proofs.YtjecbkgjabnmoaaGreatDoor
namespace Go.Proofs.YtjecbkgjabnmoaaGreatDoor
open Go.RowKit
section
variable {P : Program} {c : Cx} {ops : Array Oper} {Q : Exit → Act → World → Prop} {rest : List Oper} {S : List (Nat × Value)} {K : World → Prop} {L : List (Nat × TypeId × List Value)} {O : List Own} {X : List (World → Prop)}
variable {d : Nat} {ty : TypeId} {pos : String} {aft : Array Edge}
theorem wl_callr {f : FuncId} {x : Operand} {ags : List Operand} {ats : Array TypeId} {vs fs cs : List Value} {v : Value} {r : Own} {xs' : List Value} (i : Nat) (hO : O[i]? = some r) (hT : c.Tt.contains r.e = false) (hx : rd S x = some (.func (.func f) fs.toArray cs.toArray)) (hf : callableB P f = true) (ha : evArgs S ags = some vs) (hd : Nat.ble (d + 1) c.n = true)
    (hC : ∀ w, Mem c K L O X w → Calls P f (fs ++ vs ++ cs).toArray w (fun e w' => e = .returned v ∧ w'.ownsRow c.w0.heap.size r.e r.sz r.v r.n xs' ∧ w.grownBy w' r.v.ownBlock)) (h : WL P c ops Q rest ((d, v) :: S) K L (setOwn ⟨r.v, r.e, r.sz, r.n, xs'⟩ O i) X) :
    WL P c ops Q (⟨some d, .call ⟨.value x, ags.toArray, ats⟩, ty, pos, aft, none⟩ :: rest) S K L O X :=
  wl_callG (γ := Unit) (val := fun _ => v) (φ := fun _ => True) (K' := fun _ => K) (L' := fun _ => L) (O' := fun _ => setOwn ⟨r.v, r.e, r.sz, r.n, xs'⟩ O i) (X' := fun _ => X) hx hf ha hd (fun w hm => (hC w hm).mono fun _ _ ⟨he, ho, hg⟩ => ⟨(), he, trivial, hm.append hO hT ho hg (.inl rfl)⟩) (fun _ _ => h)
end
end Go.Proofs.YtjecbkgjabnmoaaGreatDoor
namespace Go.Proofs.YtjecbkgjabnmoaaGreatDoor
open Go.RowKit
section
variable {P : Program} {c : Cx} {ops : Array Oper} {Q : Exit → Act → World → Prop} {rest : List Oper} {S : List (Nat × Value)} {K : World → Prop} {L : List (Nat × TypeId × List Value)} {O : List Own} {X : List (World → Prop)}
variable {d : Nat} {ty : TypeId} {pos : String} {aft : Array Edge}
theorem wl_callrn {γ : Type} {f : FuncId} {x : Operand} {ags : List Operand} {ats : Array TypeId} {vs fs cs : List Value} {val : γ → Value} {φ : γ → Prop} {n' : γ → Nat} {xs' : γ → List Value} {r : Own} (i : Nat) (hO : O[i]? = some r) (hT : c.Tt.contains r.e = false) (hx : rd S x = some (.func (.func f) fs.toArray cs.toArray)) (hf : callableB P f = true) (ha : evArgs S ags = some vs) (hd : Nat.ble (d + 1) c.n = true) (hb : ∀ g, (val g).ownBlock = r.v.ownBlock)
    (hC : ∀ w, Mem c K L O X w → Calls P f (fs ++ vs ++ cs).toArray w (fun e w' => ∃ g, e = .returned (val g) ∧ φ g ∧ w'.ownsRow c.w0.heap.size r.e r.sz (val g) (n' g) (xs' g) ∧ w.grownBy w' r.v.ownBlock)) (h : ∀ g, φ g → WL P c ops Q rest ((d, val g) :: S) K L (setOwn ⟨val g, r.e, r.sz, n' g, xs' g⟩ O i) X) :
    WL P c ops Q (⟨some d, .call ⟨.value x, ags.toArray, ats⟩, ty, pos, aft, none⟩ :: rest) S K L O X :=
  wl_callG (γ := γ) (val := val) (φ := φ) (K' := fun _ => K) (L' := fun _ => L) (O' := fun g => setOwn ⟨val g, r.e, r.sz, n' g, xs' g⟩ O i) (X' := fun _ => X) hx hf ha hd (fun w hm => (hC w hm).mono fun _ _ ⟨g, he, hp, ho, hg⟩ => ⟨g, he, hp, hm.append hO hT ho hg (.inl (hb g))⟩) h
end
end Go.Proofs.YtjecbkgjabnmoaaGreatDoor
namespace Go.Proofs.YtjecbkgjabnmoaaGreatDoor
open Go.RowKit
section
variable {c : Cx} {K : World → Prop} {L : List (Nat × TypeId × List Value)} {O : List Own} {X : List (World → Prop)} {w w' : World}
theorem Mem.blkFar (h : Mem c K L O X w) (i j : Nat) {g br : Nat} {T e : TypeId} {cs : List Value} {n cap sz n' : Nat} {xs : List Value} (hi : L[i]? = some (g, T, cs)) (hj : O[j]? = some ⟨.slice (some ⟨br, 0, none⟩) n cap, e, sz, n', xs⟩) : BlkOld w.heap.size (some br) g T cs w :=
  ⟨⟨(h.blkI i hi).lt, fun e => h.od _ (List.mem_of_getElem? hj) _ (List.mem_of_getElem? hi) e⟩, h.blkI i hi⟩
theorem Mem.ownNe (h : Mem c K L O X w) (i j : Nat) (hij : i ≠ j) {r s : Own} (hi : O[i]? = some r) (hj : O[j]? = some s) : ∀ g, r.v.ownBlock = some g → s.v.ownBlock ≠ some g := fun g hg e => by
  obtain ⟨h1, rfl⟩ := List.getElem?_eq_some_iff.1 hi
  obtain ⟨h2, rfl⟩ := List.getElem?_eq_some_iff.1 hj
  rcases Nat.lt_or_ge i j with h3 | h3
  · exact List.pairwise_iff_getElem.1 h.oo i j h1 h2 h3 g hg e
  · exact List.pairwise_iff_getElem.1 h.oo j i h2 h1 (by omega) g e hg
theorem Mem.ownFar {α : Type} {enc : α → List Value} (h : Mem c K L O X w) (i j : Nat) (hij : i ≠ j) {A : Option Addr} {n c0 sz : Nat} {e : TypeId} {l : List α} {br m cap sz' n' : Nat} {e' : TypeId} {xs : List Value} (hi : O[i]? = some ⟨.slice A n c0, e, sz, n, l.flatMap enc⟩) (hk : ∀ x, (enc x).length = sz) (hl : l.length = n) (hj : O[j]? = some ⟨.slice (some ⟨br, 0, none⟩) m cap, e', sz', n', xs⟩) : SlOld enc sz e w.heap.size (some br) A n l w := by
  have ho := h.ownI i hi
  refine ⟨SlT.ofOwn hk ho hl, fun b off hA hn => ?_⟩
  subst hA
  refine ⟨(ho.lt b rfl).2, fun e2 => ?_⟩
  exact h.ownNe i j hij hi hj b rfl e2
end
theorem own_apart {w : World} {b1 b2 sz1 sz2 n1 n2 : Nat} {e1 e2 : TypeId} {v1 v2 : Value} {xs1 xs2 : List Value} (h1 : w.ownsRow b1 e1 sz1 v1 n1 xs1) (h2 : w.ownsRow b2 e2 sz2 v2 n2 xs2) (hne : Nat.beq e1 e2 = false) : ∀ g, v1.ownBlock = some g → v2.ownBlock ≠ some g := fun g hg1 hg2 => by
  rcases h1.2 with ⟨rfl, _⟩ | ⟨g1, c1, cur1, rfl, _, hh1, _⟩
  · cases hg1
  · rcases h2.2 with ⟨rfl, _⟩ | ⟨g2, c2, cur2, rfl, _, hh2, _⟩
    · cases hg2
    · have e3 : g1 = g := by simpa [Value.ownBlock] using hg1
      have e4 : g2 = g := by simpa [Value.ownBlock] using hg2
      subst e3 e4
      rw [hh1] at hh2
      injection hh2 with hh2
      injection hh2 with _ hh2 _
      subst hh2
      simp at hne
theorem Mem.newOwnsS {c : Cx} {L : List (Nat × TypeId × List Value)} {O : List Own} {X : List (World → Prop)} {Y : World → Prop} {w w' : World} {TS : TypeId} {B sb m m' : Nat} (h : Mem c (fun w => Strm TS w B sb m) L O X w) (hrow : c.row = some sb) (hT : c.Tt.contains TS = false) (hS : Strm TS w' B sb m') (hg : w.grownBy w' (some sb)) {rs : List Own} (hown : ∀ r ∈ rs, w'.ownsRow w.heap.size r.e r.sz r.v r.n r.xs) (hpw : rs.Pairwise (fun r s => ∀ g, r.v.ownBlock = some g → s.v.ownBlock ≠ some g)) (hl : Lasts2 c.w0.heap.size c.row c.Tt Y) (hy : Y w') : Mem c (fun w => Strm TS w B sb m') L (rs ++ O) (Y :: X) w' := by
  have h2 := h.strm hrow hT hS hg hl hy
  refine ⟨h2.g, h2.k, h2.b, h2.nd, fun r hr => ?_, fun r hr x hx => ?_, List.pairwise_append.2 ⟨hpw, h.oo, fun r hr s hs g hg1 hg2 => ?_⟩, h2.x, h2.kk, h2.l, h.rs⟩
  · rcases List.mem_append.1 hr with hr | hr
    · exact own_base (hown r hr) h.g.size
    · exact h2.o r hr
  · rcases List.mem_append.1 hr with hr | hr
    · intro e'
      have h3 := ((hown r hr).lt _ e').1
      have h4 := (h.b x hx).2.lt
      omega
    · exact h.od r hr x hx
  · have h3 := ((hown r hr).lt _ hg1).1
    have h4 := ((h.o s hs).lt _ hg2).2
    omega
section
variable {P : Program} {c : Cx} {ops : Array Oper} {Q : Exit → Act → World → Prop} {rest : List Oper} {S : List (Nat × Value)} {L : List (Nat × TypeId × List Value)} {O : List Own} {X : List (World → Prop)} {d : Nat} {ty : TypeId} {pos : String} {aft : Array Edge}
theorem wl_calls3 {γ : Type} {TS : TypeId} {B sb m m' : Nat} {f : FuncId} {x : Operand} {ags : List Operand} {ats : Array TypeId} {vs fs cs : List Value} {val : γ → Value} {φ : γ → Prop} {Y : γ → World → Prop} (r1 r2 r3 : γ → Own) (hx : rd S x = some (.func (.func f) fs.toArray cs.toArray)) (hf : callableB P f = true) (ha : evArgs S ags = some vs) (hd : Nat.ble (d + 1) c.n = true) (hrow : c.row = some sb) (hT : c.Tt.contains TS = false) (h12 : ∀ g, Nat.beq (r1 g).e (r2 g).e = false) (h13 : ∀ g, Nat.beq (r1 g).e (r3 g).e = false) (h23 : ∀ g, Nat.beq (r2 g).e (r3 g).e = false)
    (hC : ∀ w, Mem c (fun w => Strm TS w B sb m) L O X w → Calls P f (fs ++ vs ++ cs).toArray w (fun e w' => ∃ g, e = .returned (val g) ∧ φ g ∧ Strm TS w' B sb m' ∧ w.grownBy w' (some sb) ∧ w'.ownsRow w.heap.size (r1 g).e (r1 g).sz (r1 g).v (r1 g).n (r1 g).xs ∧ w'.ownsRow w.heap.size (r2 g).e (r2 g).sz (r2 g).v (r2 g).n (r2 g).xs ∧ w'.ownsRow w.heap.size (r3 g).e (r3 g).sz (r3 g).v (r3 g).n (r3 g).xs ∧ Y g w')) (hl : ∀ g, Lasts2 c.w0.heap.size c.row c.Tt (Y g)) (h : ∀ g, φ g → WL P c ops Q rest ((d, val g) :: S) (fun w => Strm TS w B sb m') L (r1 g :: r2 g :: r3 g :: O) (Y g :: X)) :
    WL P c ops Q (⟨some d, .call ⟨.value x, ags.toArray, ats⟩, ty, pos, aft, none⟩ :: rest) S (fun w => Strm TS w B sb m) L O X :=
  wl_callG (γ := γ) (val := val) (φ := φ) (K' := fun _ w => Strm TS w B sb m') (L' := fun _ => L) (O' := fun g => r1 g :: r2 g :: r3 g :: O) (X' := fun g => Y g :: X) hx hf ha hd (fun w hm => (hC w hm).mono fun _ _ ⟨g, he, hφ, hS, hg, h1, h2, h3, hy⟩ => ⟨g, he, hφ, hm.newOwnsS (rs := [r1 g, r2 g, r3 g]) hrow hT hS hg (fun r hr => by
    simp only [List.mem_cons, List.not_mem_nil, or_false] at hr
    rcases hr with rfl | rfl | rfl <;> assumption) (List.Pairwise.cons (fun s hs => by
    simp only [List.mem_cons, List.not_mem_nil, or_false] at hs
    rcases hs with rfl | rfl
    · exact own_apart h1 h2 (h12 g)
    · exact own_apart h1 h3 (h13 g)) (List.Pairwise.cons (fun s hs => by
    simp only [List.mem_cons, List.not_mem_nil, or_false] at hs
    subst hs
    exact own_apart h2 h3 (h23 g)) (List.Pairwise.cons (fun s hs => by cases hs) List.Pairwise.nil))) (hl g) hy⟩) h
end
section
variable {P : Program} {nn : Nat} {S : List (Nat × Value)} {Z : World → Prop} {d : Nat} {ty : TypeId} {pos : String} {aft : Array Edge}
/-- Two strings, one behind the other. -/
theorem ov_sadd {t t' : TypeId} {x y : Operand} {m n : ByteArray} (hx : rd S x = some (.string m)) (hy : rd S y = some (.string n)) (h : m.size + n.size ≤ 9223372036854775807) : OV P nn S Z ⟨some d, .binOp .add t x y t', ty, pos, aft, none⟩ (.string (m ++ n)) :=
  ov_bin hx hy (fun w => by
    have e := run_string_add_sum (P := P) w m n h
    simp [binOp_string_add, e, go_sem])
end
section
variable {c : Cx} {Q : Exit → Act → World → Prop} {S : List (Nat × Value)} {K : World → Prop} {L : List (Nat × TypeId × List Value)} {O : List Own} {X : List (World → Prop)}
theorem nx_toOwn {e : Exit} (i : Nat) (ls : List Nat) {g : Nat} {T : TypeId} {cs : List Value} {n sz : Nat} (hi : L[i]? = some (g, T, cs)) (hls : allNe (i :: ls) = true) (hcs : cs.length = n * sz) (hn : n ≤ maxLen) (h : Nx c Q e S K (pickI L ls) (⟨.slice (some ⟨g, 0, none⟩) n n, T, sz, n, cs⟩ :: O) X) : Nx c Q e S K L O X := fun a w ha hm => h a w ha (hm.toOwn i ls hi hls hcs hn)
end
end Go.Proofs.YtjecbkgjabnmoaaGreatDoor
namespace Go.Proofs.YtjecbkgjabnmoaaGreatDoor
open Go.RowKit
theorem delLater_nil (A : Option Addr) (c0 : Nat) (gm : Nat) (mt : Int) (w : World) (hk : Blk w gm 3 [.int .i64 mt]) :
  Calls Tryz.prog 174 #[.slice A 0 c0, .func (.func 175) #[] #[.pointer (some ⟨gm, 0, none⟩)]] w (fun e w' => e = .returned (.slice A 0 c0) ∧ w.grownBy w' none) := by
 refine gw_enter ⟨42, w, none, []⟩ Tryz.func174 rfl Tryz.ntmps174 rfl (mem0 (X := [BlkOld w.heap.size none gm 3 [.int .i64 mt]]) (allF_cons hk.old allF_nil) (allL_cons BlkOld.lasts allL_nil)) ?_
 refine sr_ (sg_ rfl (nn_ (sr_ (mv_ rfl (mv_ rfl ?_)))))
 refine wl_callv (v := .int .i64 (-1)) rfl cb170 rfl rfl (fun wx hm => (by have h := ixLater_any [] A 0 c0 gm mt wx (SlT.nil_ wx A) (by omega) (hm.fact 0 rfl).2; exact h)) ?_
 refine sg_ rfl (nn_ (gw_seq (sr_ (mv_ rfl (wl_ov (ov_eql rfl rfl) rfl ?_)))))
 refine wl_set 12 (v' := .bool true) rfl (congrArg Value.bool (by decide)) ?_
 refine nn_ (ct_ rfl (sr_ (mv_ rfl (sg_ rfl (nn_ ?_)))))
 refine gw_ret ?_
 refine nx_then_ret ?_
 refine nx_ret1 rfl rfl fun wx hm => ?_
 exact ⟨rfl, hm.g⟩
theorem delTaken_nil (A : Option Addr) (c0 : Nat) (el : List Pl) (eA : Option Addr) (en ec ge : Nat) (w : World) (hk : Blk w ge 29 [.slice eA en ec]) (he : SlT plEnc 3 143 w eA en el) (hen : en ≤ 1000000) :
  Calls Tryz.prog 174 #[.slice A 0 c0, .func (.func 176) #[] #[.pointer (some ⟨ge, 0, none⟩)]] w (fun e w' => e = .returned (.slice A 0 c0) ∧ w.grownBy w' none) := by
 refine gw_enter ⟨42, w, none, []⟩ Tryz.func174 rfl Tryz.ntmps174 rfl (mem0 (X := [BlkOld w.heap.size none ge 29 [.slice eA en ec], SlOld plEnc 3 143 w.heap.size none eA en el]) (allF_cons hk.old (allF_cons he.old allF_nil)) (allL_cons BlkOld.lasts (allL_cons SlOld.lasts allL_nil))) ?_
 refine sr_ (sg_ rfl (nn_ (sr_ (mv_ rfl (mv_ rfl ?_)))))
 refine wl_callv (v := .int .i64 (-1)) rfl cb170 rfl rfl (fun wx hm => (by have h := ixTaken_any [] A 0 c0 el eA en ec ge wx (SlT.nil_ wx A) (by omega) (hm.fact 0 rfl).2 (hm.fact 1 rfl).1 hen; exact h)) ?_
 refine sg_ rfl (nn_ (gw_seq (sr_ (mv_ rfl (wl_ov (ov_eql rfl rfl) rfl ?_)))))
 refine wl_set 12 (v' := .bool true) rfl (congrArg Value.bool (by decide)) ?_
 refine nn_ (ct_ rfl (sr_ (mv_ rfl (sg_ rfl (nn_ ?_)))))
 refine gw_ret ?_
 refine nx_then_ret ?_
 refine nx_ret1 rfl rfl fun wx hm => ?_
 exact ⟨rfl, hm.g⟩
/-- The shape of a slice's address. -/
def ShapeA (A : Option Addr) (n c : Nat) : Prop := (A = none ∧ n = 0 ∧ c = 0) ∨ ∃ b off, A = some ⟨b, off, none⟩
theorem own_shape {w : World} {base sz n : Nat} {e : TypeId} {A : Option Addr} {c : Nat} {xs : List Value} (h : w.ownsRow base e sz (.slice A n c) n xs) : ShapeA A n c := by
  rcases h.2 with ⟨h1, h2⟩ | ⟨g, cap, cur, h1, _⟩
  · injection h1 with h3 h4 h5
    exact .inl ⟨h3, h2, h5⟩
  · injection h1 with h3 _ _
    exact .inr ⟨g, 0, h3⟩
theorem clonePlates_all (l : List Pl) (A : Option Addr) (n c : Nat) (w : World) (hl : SlT plEnc 3 143 w A n l) (hs : ShapeA A n c) (hn : n ≤ 1000000) :
    Calls Tryz.prog 110 #[.slice A n c] w (fun e w' => ∃ A' c', e = .returned (.slice A' n c') ∧ w'.ownsRow w.heap.size 143 3 (.slice A' n c') n (l.flatMap plEnc) ∧ w.grownBy w' none) := by
  rcases hs with ⟨rfl, rfl, rfl⟩ | ⟨b, off, rfl⟩
  · exact clonePlates_any l none 0 0 w hl (fun _ => ⟨rfl, rfl⟩) hn
  · rcases Nat.eq_zero_or_pos n with rfl | h0
    · have hl0 : l = [] := List.length_eq_zero_iff.1 hl.len
      subst hl0
      exact clonePlates_empty b off c w
    · exact clonePlates_pos l _ n c w hl h0 hn
theorem worn_any (pl : List Pl) (sA cA vA pA : Option Addr) (sn sc cn cc vn vc pn pc : Nat) (mt : Int) (w : World) (hp : SlT plEnc 3 143 w pA pn pl) (hsh : ShapeA pA pn pc) (hpn : pn ≤ 1000000) :
  Calls Tryz.prog 100 #[.agg #[.slice sA sn sc, .slice cA cn cc, .slice vA vn vc, .slice pA pn pc], .int .i64 mt] w (fun e w' => ∃ (A : Option Addr) (k c : Nat) (ls : List Pl), e = .returned (.slice A k c) ∧ SlT plEnc 3 143 w' A k ls ∧ ls = wornR (early pl mt) ∧ k ≤ pn ∧ w.grownBy w' none) := by
 refine gw_enter ⟨15, w, none, []⟩ Tryz.func100 rfl Tryz.ntmps100 rfl (mem0 (X := [SlOld plEnc 3 143 w.heap.size none pA pn pl]) (allF_cons hp.old allF_nil) (allL_cons SlOld.lasts allL_nil)) ?_
 refine sr_ ?_
 have hlen := hp.len
 refine wl_box rfl rfl rfl fun g1 => ?_
 refine wl_box rfl rfl rfl fun g2 => ?_
 refine sg_ rfl (nn_ (sr_ (fd_ fo31_3 rfl rfl (lk_ sc29 1 rfl rfl rfl ?_))))
 refine wl_callgo (γ := Option Addr × Nat) (val := (fun g => .slice g.1 pn g.2)) (φ := (fun g => True)) (fun g => ⟨.slice g.1 pn g.2, 143, 3, pn, pl.flatMap plEnc⟩) rfl cb110 rfl rfl (fun wx hm => (clonePlates_all pl pA pn pc wx (hm.fact 0 rfl).1 hsh hpn).mono fun _ _ ⟨A, c, he, ho, hg⟩ => ⟨(A, c), he, trivial, ho, hg⟩) ?_
 rintro ⟨A1, c1⟩ hphi
 dsimp only at hphi ⊢
 refine wl_ov (ov_makeFunc rfl rfl) rfl ?_
 by_cases h0 : pn = 0
 ·subst h0
  have hls : ([] : List Pl) = early pl mt := by rw [List.length_eq_zero_iff.1 hlen]; rfl
  obtain rfl : pl = [] := List.length_eq_zero_iff.1 hlen
  refine wl_callv rfl cb174 rfl rfl (fun wx hm => (delLater_nil A1 c1 g2 mt wx (hm.blkI 0 rfl))) ?_
  refine wl_alloc zc29 rfl fun g3 => ?_
  refine wl_store 0 sc29 rfl rfl rfl rfl rfl rfl ?_
  refine nn_ (sr_ (lk_ sc29 0 rfl rfl rfl ?_))
  refine wl_callgo (γ := Option Addr × Nat) (val := (fun g => .slice g.1 0 g.2)) (φ := (fun g => True)) (fun g => ⟨.slice g.1 0 g.2, 143, 3, 0, (([] : List Pl)).flatMap plEnc⟩) rfl cb110 rfl rfl (fun wx hm => (clonePlates_all ([] : List Pl) _ _ _ wx (SlT.ofOwn pl_len (hm.ownI 0 rfl) rfl) (own_shape (hm.ownI 0 rfl)) (by omega)).mono fun _ _ ⟨A, c, he, ho, hg⟩ => ⟨(A, c), he, trivial, ho, hg⟩) ?_
  rintro ⟨A2, c2⟩ hphi
  dsimp only at hphi ⊢
  refine wl_ov (ov_makeFunc rfl rfl) rfl ?_
  refine wl_callv rfl cb174 rfl rfl (fun wx hm => (delTaken_nil A2 c2 ([] : List Pl) _ 0 c1 g3 wx (hm.blkI 0 rfl) (SlT.ofOwn pl_len (hm.ownI 1 rfl) rfl) (by omega))) ?_
  refine sg_ rfl (nn_ ?_)
  refine gw_ret ?_
  have hls0 : ([] : List Pl) = [] := List.length_eq_zero_iff.1 (by omega)
  refine nx_ret1 rfl rfl fun wx hm => ?_
  exact ⟨A2, 0, c2, [], rfl, SlT.nil_ _ _, by rw [← hls]; rw [hls0]; rfl, by omega, hm.g⟩
 refine wl_look (R := ∃ g, A1 = some ⟨g, 0, none⟩) (fun wx hm => own_addr (hm.ownI 0 rfl) (by omega)) ?_
 rintro ⟨b1, rfl⟩
 refine wl_callrn (γ := Nat × List Pl) (val := fun g => .slice (some ⟨b1, 0, none⟩) g.1 c1) (φ := fun g => g.2 = early pl mt ∧ g.2.length = g.1 ∧ g.1 ≤ pn) (n' := fun g => g.1) (xs' := fun g => g.2.flatMap plEnc) 0 rfl rfl rfl cb174 rfl rfl (fun _ => rfl) (fun wx hm => (delLater_any pl b1 pn c1 _ g2 mt wx (hm.ownI 0 rfl) hlen hpn (own_cap (hm.ownI 0 rfl)) (hm.blkFar 0 0 rfl rfl)).mono fun _ _ ⟨q, ls2, he, h1, h2, ho, hg⟩ => ⟨(q, ls2), he, ⟨h1, h2, by dsimp only; rw [← h2, h1]; exact Nat.le_trans (List.length_filter_le _ _) (by omega)⟩, ho, hg⟩) ?_
 rintro ⟨k, ls⟩ ⟨hls, hlk, hkn⟩
 dsimp only at hls hlk hkn ⊢
 refine wl_alloc zc29 rfl fun g4 => ?_
 refine wl_store 0 sc29 rfl rfl rfl rfl rfl rfl ?_
 refine nn_ (sr_ (lk_ sc29 0 rfl rfl rfl ?_))
 refine wl_callgo (γ := Option Addr × Nat) (val := (fun g => .slice g.1 k g.2)) (φ := (fun g => True)) (fun g => ⟨.slice g.1 k g.2, 143, 3, k, (ls).flatMap plEnc⟩) rfl cb110 rfl rfl (fun wx hm => (clonePlates_all ls _ _ _ wx (SlT.ofOwn pl_len (hm.ownI 0 rfl) hlk) (own_shape (hm.ownI 0 rfl)) (by omega)).mono fun _ _ ⟨A, c, he, ho, hg⟩ => ⟨(A, c), he, trivial, ho, hg⟩) ?_
 rintro ⟨A2, c2⟩ hphi
 dsimp only at hphi ⊢
 refine wl_ov (ov_makeFunc rfl rfl) rfl ?_
 by_cases hk0 : k = 0
 ·subst hk0
  refine wl_callv rfl cb174 rfl rfl (fun wx hm => (delTaken_nil A2 c2 ls _ 0 c1 g4 wx (hm.blkI 0 rfl) (SlT.ofOwn pl_len (hm.ownI 1 rfl) hlk) (by omega))) ?_
  refine sg_ rfl (nn_ ?_)
  refine gw_ret ?_
  have hls0 : ls = [] := List.length_eq_zero_iff.1 (by omega)
  refine nx_ret1 rfl rfl fun wx hm => ?_
  exact ⟨A2, 0, c2, [], rfl, SlT.nil_ _ _, by rw [← hls]; rw [hls0]; rfl, by omega, hm.g⟩
 refine wl_look (R := ∃ g, A2 = some ⟨g, 0, none⟩) (fun wx hm => own_addr (hm.ownI 0 rfl) (by omega)) ?_
 rintro ⟨b2, rfl⟩
 refine wl_callrn (γ := Nat × List Pl) (val := fun g => .slice (some ⟨b2, 0, none⟩) g.1 c2) (φ := fun g => g.2 = wornR (early pl mt) ∧ g.2.length = g.1 ∧ g.1 ≤ k) (n' := fun g => g.1) (xs' := fun g => g.2.flatMap plEnc) 0 rfl rfl rfl cb174 rfl rfl (fun _ => rfl) (fun wx hm => (delTaken_any ls b2 k c2 _ ls _ k c1 g4 wx (hm.ownI 0 rfl) hlk (by omega) (own_cap (hm.ownI 0 rfl)) (hm.blkFar 0 0 rfl rfl) (hm.ownFar 1 0 (by decide) rfl pl_len hlk rfl) (by omega)).mono fun _ _ ⟨q, ls2, he, h1, h2, ho, hg⟩ => ⟨(q, ls2), he, ⟨by dsimp only; rw [h1, ← hls]; rfl, h2, by dsimp only; rw [← h2, h1]; exact Nat.le_trans (List.length_filter_le _ _) (by omega)⟩, ho, hg⟩) ?_
 rintro ⟨k2, ls2⟩ ⟨hw2, hl2, hle2⟩
 dsimp only at hw2 hl2 hle2 ⊢
 refine sg_ rfl (nn_ ?_)
 refine gw_ret ?_
 refine nx_ret1 rfl rfl fun wx hm => ?_
 exact ⟨_, k2, c2, ls2, rfl, SlT.ofOwn pl_len (hm.ownI 0 rfl) hl2, hw2, by omega, hm.g⟩
theorem find_at {α : Type} {p : α → Bool} {l : List α} {i : Nat} {x : α} (h : l[i]? = some x) : (l.drop i).find? p = if p x = true then some x else (l.drop (i + 1)).find? p := by
  obtain ⟨hi, rfl⟩ := List.getElem?_eq_some_iff.1 h
  rw [List.drop_eq_getElem_cons hi]
  by_cases hp : p l[i] = true
  · rw [if_pos hp, List.find?_cons_of_pos hp]
  · rw [if_neg hp, List.find?_cons_of_neg hp]
theorem rPlateAt_any (pl : List Pl) (sA cA vA pA : Option Addr) (sn sc cn cc vn vc pn pc : Nat) (k : ByteArray) (mt : Int) (w : World) (hp : SlT plEnc 3 143 w pA pn pl) (hsh : ShapeA pA pn pc) (hpn : pn ≤ 1000000) :
  Calls Tryz.prog 24 #[.agg #[.slice sA sn sc, .slice cA cn cc, .slice vA vn vc, .slice pA pn pc], .string k, .int .i64 mt] w (fun e w' => ∃ (q : ByteArray) (b : Bool), e = .returned (.tuple #[.string q, .bool b]) ∧ (q = (((wornR (early pl mt)).find? (fun p : Pl => p.veh.toList == k.toList)).map (·.plate)).getD ⟨#[]⟩ ∧ b = ((wornR (early pl mt)).find? (fun p : Pl => p.veh.toList == k.toList)).isSome) ∧ w.grownBy w' none) := by
 refine gw_enter ⟨25, w, none, [143]⟩ Tryz.func24 rfl Tryz.ntmps24 rfl (mem0 (X := [SlOld plEnc 3 143 w.heap.size none pA pn pl]) (allF_cons hp.old allF_nil) (allL_cons SlOld.lasts allL_nil)) ?_
 refine sr_ ?_
 refine wl_box rfl rfl rfl fun g1 => ?_
 refine sg_ rfl (sg_ rfl (nn_ (gw_seq (sr_ ?_))))
 refine wl_ov (ov_loads rz31 rfl (fun _ hm => hm.blkI 0 rfl) rfl rfl) rfl ?_
 refine mv_ rfl ?_
 refine wl_callx (γ := Option Addr × Nat × Nat × List Pl) (val := (fun g => .slice g.1 g.2.1 g.2.2.1)) (φ := (fun g => g.2.2.2 = wornR (early pl mt) ∧ g.2.1 ≤ pn)) (Y := (fun g => fun wy => SlT plEnc 3 143 wy g.1 g.2.1 g.2.2.2)) rfl cb100 rfl rfl (fun wx hm => (worn_any pl sA cA vA pA sn sc cn cc vn vc pn pc mt wx (hm.fact 0 rfl).1 hsh hpn).mono fun _ _ ⟨A, n, c, ls, he, hl, hw, hk, hg⟩ => ⟨(A, n, c, ls), he, ⟨hw, hk⟩, hg, hl⟩) (fun _ => SlT.lasts2 rfl) ?_
 rintro ⟨A, n, c, ls⟩ hphi
 dsimp only at hphi ⊢
 obtain ⟨hwl, hnp⟩ := hphi
 refine wl_nest none [] fun w2 hm_w2 => ⟨_, _, _, _, mem0 (X := [SlOld plEnc 3 143 w2.heap.size none A n ls]) (allF_cons (SlT.old (hm_w2.fact 0 rfl)) allF_nil) (allL_cons SlOld.lasts allL_nil), ?_⟩
 have hl2 : SlT plEnc 3 143 w2 A n ls := hm_w2.fact 0 rfl
 have hlen := hl2.len
 refine wl_ov (ov_len es29 rfl) rfl (mv_ rfl (nn_ (gw_block ?_)))
 refine gw_loop (γ := Nat) (fun (i : Nat) => i ≤ n ∧ ls.find? (fun p : Pl => p.veh.toList == k.toList) = (ls.drop i).find? (fun p : Pl => p.veh.toList == k.toList)) (fun (i : Nat) => [(1, .string k), (12, .slice A n c), (13, .int .i64 ((n : Nat) : Int)), (14, .int .i64 ((i : Nat) : Int))]) (fun (i : Nat) => fun _ => True) (fun (i : Nat) => []) (fun (i : Nat) => []) (fun (i : Nat) => [SlOld plEnc 3 143 w2.heap.size none A n ls]) (fun (i : Nat) => n - i) 0 ⟨Nat.zero_le _, rfl⟩ ⟨rfl, rfl, rfl, rfl, trivial⟩ (fun _ hm => hm.pick [] [] [0] rfl rfl) ?_
 intro i hinv
 replace hinv : i ≤ n ∧ ls.find? (fun p : Pl => p.veh.toList == k.toList) = (ls.drop i).find? (fun p : Pl => p.veh.toList == k.toList) := hinv
 refine sr_ ?_
 obtain ⟨hi0, hfd⟩ := hinv
 refine wl_ov (ov_lss rfl rfl) rfl (nn_ (gw_seq ?_))
 refine gw_cond rfl (fun hh => ?_) (fun hh => ?_)
 ·have hi : ((i : Nat) : Int) < ((n : Nat) : Int) := by simpa using hh
  clear hh
  refine gw_skip (nx_then (gw_seq (gw_block (sr_ ?_))))
  obtain ⟨b, off, hA, _, _⟩ := hl2.get (by omega)
  subst hA
  obtain ⟨x, hx⟩ : ∃ x, ls[i]? = some x := ⟨_, List.getElem?_eq_getElem (by omega)⟩
  obtain ⟨pf, pv, pp⟩ := x
  have hst := find_at (p := (fun p : Pl => p.veh.toList == k.toList)) hx
  refine wl_ov (ov_index (j := i) es29 rfl rfl (by omega)) rfl ?_
  refine wl_ov (ov_elem (vs := [.int .i64 pf, .string pv, .string pp]) rz143 rfl (fun _ hm => (hm.fact 0 rfl).1) hx rfl rfl) rfl ?_
  refine wl_alloc zc143 rfl fun g2 => ?_
  refine wl_stores (cs' := [.int .i64 pf, .string pv, .string pp]) 0 rz143 rfl rfl rfl rfl rfl rfl rfl rfl ?_
  refine nn_ (sr_ (fd_ fo143_1 rfl rfl (lk_ sc9 0 rfl rfl rfl (mv_ rfl (wl_ov (ov_seql rfl rfl) rfl (nn_ ?_))))))
  refine gw_cond rfl (fun hh => ?_) (fun hh => ?_)
  ·have hq : (pv.toList == k.toList) = true := by simpa using hh
   clear hh
   refine sr_ (fd_ fo143_2 rfl rfl (lk_ sc9 0 rfl rfl rfl (sg_ rfl (sg_ rfl (nn_ ?_)))))
   refine gw_ret ?_
   refine nx_blk_ret (nx_then_ret (nx_then_ret (nx_blk_ret (nx_then_ret ?_))))
   refine nx_ret2 rfl rfl rfl fun wx hm => ?_
   exact ⟨_, _, rfl, by rw [← hwl, hfd, hst, if_pos hq]; exact ⟨rfl, rfl⟩, grow_trans hm_w2.g hm.g⟩
  have hq : (pv.toList == k.toList) = false := by simpa using hh
  clear hh
  refine gw_skip (nx_blk_nrm (nx_then (gw_region (ad_ rfl rfl (mv_ rfl (wl_nil ?_))))))
  exact nx_round (i + 1) ⟨by omega, by rw [hfd, hst, if_neg (show ¬ (pv.toList == k.toList) = true by rw [hq]; decide)]⟩ (by omega) ⟨rfl, rfl, rfl, (some_int (by omega)), trivial⟩ (fun _ hm => hm.pick [] [] [0] rfl rfl)
 have hi : ¬ (((i : Nat) : Int) < ((n : Nat) : Int)) := by simpa using hh
 clear hh
 refine gw_exit ?_
 refine nx_then_exit (nx_then_exit ?_)
 refine nx_blk_here ?_
 refine nx_then (sr_ (sg_ rfl (sg_ rfl (nn_ ?_))))
 refine gw_ret ?_
 refine nx_ret2 rfl rfl rfl fun wx hm => ?_
 exact ⟨_, _, rfl, by rw [← hwl, hfd, List.drop_eq_nil_of_le (by omega)]; exact ⟨rfl, rfl⟩, grow_trans hm_w2.g hm.g⟩
theorem rWearerAt_any (pl : List Pl) (sA cA vA pA : Option Addr) (sn sc cn cc vn vc pn pc : Nat) (k : ByteArray) (mt : Int) (w : World) (hp : SlT plEnc 3 143 w pA pn pl) (hsh : ShapeA pA pn pc) (hpn : pn ≤ 1000000) :
  Calls Tryz.prog 25 #[.agg #[.slice sA sn sc, .slice cA cn cc, .slice vA vn vc, .slice pA pn pc], .string k, .int .i64 mt] w (fun e w' => ∃ (q : ByteArray) (b : Bool), e = .returned (.tuple #[.string q, .bool b]) ∧ (q = (((wornR (early pl mt)).find? (fun p : Pl => p.plate.toList == k.toList)).map (·.veh)).getD ⟨#[]⟩ ∧ b = ((wornR (early pl mt)).find? (fun p : Pl => p.plate.toList == k.toList)).isSome) ∧ w.grownBy w' none) := by
 refine gw_enter ⟨25, w, none, [143]⟩ Tryz.func25 rfl Tryz.ntmps25 rfl (mem0 (X := [SlOld plEnc 3 143 w.heap.size none pA pn pl]) (allF_cons hp.old allF_nil) (allL_cons SlOld.lasts allL_nil)) ?_
 refine sr_ ?_
 refine wl_box rfl rfl rfl fun g1 => ?_
 refine sg_ rfl (sg_ rfl (nn_ (gw_seq (sr_ ?_))))
 refine wl_ov (ov_loads rz31 rfl (fun _ hm => hm.blkI 0 rfl) rfl rfl) rfl ?_
 refine mv_ rfl ?_
 refine wl_callx (γ := Option Addr × Nat × Nat × List Pl) (val := (fun g => .slice g.1 g.2.1 g.2.2.1)) (φ := (fun g => g.2.2.2 = wornR (early pl mt) ∧ g.2.1 ≤ pn)) (Y := (fun g => fun wy => SlT plEnc 3 143 wy g.1 g.2.1 g.2.2.2)) rfl cb100 rfl rfl (fun wx hm => (worn_any pl sA cA vA pA sn sc cn cc vn vc pn pc mt wx (hm.fact 0 rfl).1 hsh hpn).mono fun _ _ ⟨A, n, c, ls, he, hl, hw, hk, hg⟩ => ⟨(A, n, c, ls), he, ⟨hw, hk⟩, hg, hl⟩) (fun _ => SlT.lasts2 rfl) ?_
 rintro ⟨A, n, c, ls⟩ hphi
 dsimp only at hphi ⊢
 obtain ⟨hwl, hnp⟩ := hphi
 refine wl_nest none [] fun w2 hm_w2 => ⟨_, _, _, _, mem0 (X := [SlOld plEnc 3 143 w2.heap.size none A n ls]) (allF_cons (SlT.old (hm_w2.fact 0 rfl)) allF_nil) (allL_cons SlOld.lasts allL_nil), ?_⟩
 have hl2 : SlT plEnc 3 143 w2 A n ls := hm_w2.fact 0 rfl
 have hlen := hl2.len
 refine wl_ov (ov_len es29 rfl) rfl (mv_ rfl (nn_ (gw_block ?_)))
 refine gw_loop (γ := Nat) (fun (i : Nat) => i ≤ n ∧ ls.find? (fun p : Pl => p.plate.toList == k.toList) = (ls.drop i).find? (fun p : Pl => p.plate.toList == k.toList)) (fun (i : Nat) => [(1, .string k), (12, .slice A n c), (13, .int .i64 ((n : Nat) : Int)), (14, .int .i64 ((i : Nat) : Int))]) (fun (i : Nat) => fun _ => True) (fun (i : Nat) => []) (fun (i : Nat) => []) (fun (i : Nat) => [SlOld plEnc 3 143 w2.heap.size none A n ls]) (fun (i : Nat) => n - i) 0 ⟨Nat.zero_le _, rfl⟩ ⟨rfl, rfl, rfl, rfl, trivial⟩ (fun _ hm => hm.pick [] [] [0] rfl rfl) ?_
 intro i hinv
 replace hinv : i ≤ n ∧ ls.find? (fun p : Pl => p.plate.toList == k.toList) = (ls.drop i).find? (fun p : Pl => p.plate.toList == k.toList) := hinv
 refine sr_ ?_
 obtain ⟨hi0, hfd⟩ := hinv
 refine wl_ov (ov_lss rfl rfl) rfl (nn_ (gw_seq ?_))
 refine gw_cond rfl (fun hh => ?_) (fun hh => ?_)
 ·have hi : ((i : Nat) : Int) < ((n : Nat) : Int) := by simpa using hh
  clear hh
  refine gw_skip (nx_then (gw_seq (gw_block (sr_ ?_))))
  obtain ⟨b, off, hA, _, _⟩ := hl2.get (by omega)
  subst hA
  obtain ⟨x, hx⟩ : ∃ x, ls[i]? = some x := ⟨_, List.getElem?_eq_getElem (by omega)⟩
  obtain ⟨pf, pv, pp⟩ := x
  have hst := find_at (p := (fun p : Pl => p.plate.toList == k.toList)) hx
  refine wl_ov (ov_index (j := i) es29 rfl rfl (by omega)) rfl ?_
  refine wl_ov (ov_elem (vs := [.int .i64 pf, .string pv, .string pp]) rz143 rfl (fun _ hm => (hm.fact 0 rfl).1) hx rfl rfl) rfl ?_
  refine wl_alloc zc143 rfl fun g2 => ?_
  refine wl_stores (cs' := [.int .i64 pf, .string pv, .string pp]) 0 rz143 rfl rfl rfl rfl rfl rfl rfl rfl ?_
  refine nn_ (sr_ (fd_ fo143_2 rfl rfl (lk_ sc9 0 rfl rfl rfl (mv_ rfl (wl_ov (ov_seql rfl rfl) rfl (nn_ ?_))))))
  refine gw_cond rfl (fun hh => ?_) (fun hh => ?_)
  ·have hq : (pp.toList == k.toList) = true := by simpa using hh
   clear hh
   refine sr_ (fd_ fo143_1 rfl rfl (lk_ sc9 0 rfl rfl rfl (sg_ rfl (sg_ rfl (nn_ ?_)))))
   refine gw_ret ?_
   refine nx_blk_ret (nx_then_ret (nx_then_ret (nx_blk_ret (nx_then_ret ?_))))
   refine nx_ret2 rfl rfl rfl fun wx hm => ?_
   exact ⟨_, _, rfl, by rw [← hwl, hfd, hst, if_pos hq]; exact ⟨rfl, rfl⟩, grow_trans hm_w2.g hm.g⟩
  have hq : (pp.toList == k.toList) = false := by simpa using hh
  clear hh
  refine gw_skip (nx_blk_nrm (nx_then (gw_region (ad_ rfl rfl (mv_ rfl (wl_nil ?_))))))
  exact nx_round (i + 1) ⟨by omega, by rw [hfd, hst, if_neg (show ¬ (pp.toList == k.toList) = true by rw [hq]; decide)]⟩ (by omega) ⟨rfl, rfl, rfl, (some_int (by omega)), trivial⟩ (fun _ hm => hm.pick [] [] [0] rfl rfl)
 have hi : ¬ (((i : Nat) : Int) < ((n : Nat) : Int)) := by simpa using hh
 clear hh
 refine gw_exit ?_
 refine nx_then_exit (nx_then_exit ?_)
 refine nx_blk_here ?_
 refine nx_then (sr_ (sg_ rfl (sg_ rfl (nn_ ?_))))
 refine gw_ret ?_
 refine nx_ret2 rfl rfl rfl fun wx hm => ?_
 exact ⟨_, _, rfl, by rw [← hwl, hfd, List.drop_eq_nil_of_le (by omega)]; exact ⟨rfl, rfl⟩, grow_trans hm_w2.g hm.g⟩
end Go.Proofs.YtjecbkgjabnmoaaGreatDoor
