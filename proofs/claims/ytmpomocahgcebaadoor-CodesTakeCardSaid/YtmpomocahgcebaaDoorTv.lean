/- The walk of the law CodesTake. -/
import Derived.Test.YtmpomocahgcebaaDoorTu
import Derived.Test.YtmpomocahgcebaaDoorTn
namespace Go.Proofs.YtmpomocahgcebaaDoor
open Go.RowKit

set_option maxRecDepth 100000 in
set_option maxHeartbeats 2000000 in
theorem codes_walk (a0 : Option Addr) (len0 cap0 : Nat) (z0 : List Int) (w : World) (hR : RowIn w a0 len0 cap0 z0) :
    Calls Tryd.prog 10 #[.slice a0 len0 cap0] w fun e w' => e = .returned (.bool true) ∧ Below w.heap.size w w' := by
  refine gw_enter ⟨102, w, none, []⟩ Tryd.func10 rfl Tryd.ntmps10 rfl (mem0 (X := []) allF_nil allL_nil) ?_
  refine gw_seq ?_
  refine gw_region ?_
  refine wl_ov (ov_assign rfl) rfl ?_
  refine wl_nil ?_
  refine nx_then ?_
  refine gw_seq ?_
  refine gw_region ?_
  refine wl_ov (ov_move rfl) rfl ?_
  refine wl_ov (ov_build (cs := [.slice a0 len0 cap0, .int .i64 0]) rfl (by kernel_rfl)) rfl ?_
  refine wl_box rfl rfl rfl fun sb => ?_
  refine wl_ov (ov_assign rfl) rfl ?_
  refine wl_nil ?_
  refine nx_then ?_
  refine gw_seq ?_
  refine gw_region ?_
  refine wl_ov (ov_move rfl) rfl ?_
  refine wl_law [188, 9] hR 0 rfl fun w1 B hg1 hsb => ?_
  refine wl_calls (γ := Option Addr × Nat × Nat × List Cd) (val := (fun (g : Option Addr × Nat × Nat × List Cd) => .slice g.1 g.2.1 g.2.2.1)) (φ := (fun (g : Option Addr × Nat × Nat × List Cd) => (∀ x ∈ g.2.2.2, CdOk x) ∧ g.2.1 ≤ 3 ∧ g.2.1 ≤ g.2.2.1 ∧ g.2.2.2.length = g.2.1)) (Y := (fun (g : Option Addr × Nat × Nat × List Cd) => fun wy => SlT cdEnc 6 188 wy g.1 g.2.1 g.2.2.2)) (m' := 0 + 50) rfl cb58 rfl rfl rfl rfl (fun wx hm => (gcodes_any wx B sb _ hm.k (by omega)).mono fun _ _ ⟨A, n, c0, l, he, hsl, hok, hn, hnc, hS, hg⟩ => ⟨(A, n, c0, l), he, ⟨hok, hn, hnc, hsl.len⟩, hS, hg, hsl⟩) (fun _ => SlT.lasts2 rfl) ?_
  rintro ⟨A, n, c0, l⟩ hR1
  dsimp only at hR1 ⊢
  obtain ⟨hok, hn3, hnc, hlen⟩ := hR1
  refine wl_ov (ov_move rfl) rfl ?_
  refine wl_calls (γ := Option Addr × Nat × Nat × List ByteArray) (val := (fun (g : Option Addr × Nat × Nat × List ByteArray) => .slice g.1 g.2.1 g.2.2.1)) (φ := (fun (g : Option Addr × Nat × Nat × List ByteArray) => (∀ x ∈ g.2.2.2, x.size ≤ 100) ∧ g.2.1 ≤ 3 ∧ g.2.1 ≤ g.2.2.1 ∧ g.2.2.2.length = g.2.1)) (Y := (fun (g : Option Addr × Nat × Nat × List ByteArray) => fun wy => SlT sgEnc 1 9 wy g.1 g.2.1 g.2.2.2)) (m' := 0 + 50 + 1) rfl cb59 rfl rfl rfl rfl (fun wx hm => (gcodeKeys_any wx B sb _ hm.k (by omega)).mono fun _ _ ⟨A, n, c0, l, he, hsl, hok, hn, hnc, hS, hg⟩ => ⟨(A, n, c0, l), he, ⟨hok, hn, hnc, hsl.len⟩, hS, hg, hsl⟩) (fun _ => SlT.lasts2 rfl) ?_
  rintro ⟨A1, n1, c1, ks⟩ hR2
  dsimp only at hR2 ⊢
  obtain ⟨hks, hn13, hnc1, hlen1⟩ := hR2
  refine wl_ov (ov_move rfl) rfl ?_
  refine wl_calls (γ := ByteArray) (val := (fun (g : ByteArray) => .string g)) (φ := (fun (g : ByteArray) => g.size ≤ 100)) (Y := (fun (g : ByteArray) => fun _ => True)) (m' := 0 + 50 + 1 + 1) rfl cb30 rfl rfl rfl rfl (fun wx hm => (gclassKey_any wx B sb _ hm.k (by omega)).mono fun _ _ ⟨v, he, hv, hS, hg⟩ => ⟨v, he, hv, hS, hg, trivial⟩) (fun _ => Lasts2.true_) ?_
  rintro c hc1
  refine wl_ov (ov_move rfl) rfl ?_
  refine wl_calls (γ := Int × Int) (val := (fun (g : Int × Int) => .agg #[.int .i64 g.1, .int .i64 g.2])) (φ := (fun (g : Int × Int) => Far g.1 ∧ Far g.2)) (Y := (fun (g : Int × Int) => fun _ => True)) (m' := 0 + 50 + 1 + 1 + 10) rfl cb29 rfl rfl rfl rfl (fun wx hm => (gtime_any wx B sb _ hm.k (by omega)).mono fun _ _ ⟨fr, tt, h1, h2, he, hS, hg⟩ => ⟨(fr, tt), he, ⟨h1, h2⟩, hS, hg, trivial⟩) (fun _ => Lasts2.true_) ?_
  rintro ⟨fr, tt⟩ hT1
  dsimp only at hT1 ⊢
  obtain ⟨⟨hf0, hf1⟩, hf2, hf3⟩ := hT1
  refine wl_ov (ov_move rfl) rfl ?_
  refine wl_buildSlice (e := 3) (cs := [.int .i64 0, .int .i64 9, .int .i64 999, .int .i64 1000, .int .i64 100000, .int .i64 1000000000, .int .i64 (-1)]) rfl (by kernel_rfl) rfl fun g3 => ?_
  refine wl_got (γ := Int) (val := fun v => .int .i64 v) (φ := fun v => v ∈ ([0, 9, 999, 1000, 100000, 1000000000, -1] : List Int)) rfl cb23 rfl rfl rfl rfl (fun wx hm => (pick_any [0, 9, 999, 1000, 100000, 1000000000, -1] _ _ _ wx B sb _ hm.k (by omega) (by simp) (by simp) (hm.blkI 0 rfl) (hm.neRow 0 rfl rfl))) fun cents hcents => ?_
  have bcents : -1 ≤ cents ∧ cents ≤ 1000000000 := mem_rng hcents (by decide)
  have bcents0 := bcents.1
  have bcents1 := bcents.2
  clear bcents
  obtain ⟨XE, hXE⟩ : ∃ E, E = codesE l := ⟨_, rfl⟩
  obtain ⟨AE, hAE⟩ : ∃ E, E = askE (fun k => l.any (codeP k)) ks := ⟨_, rfl⟩
  obtain ⟨BE, hBE⟩ : ∃ E, E = bestCE l ks c fr tt cents := ⟨_, rfl⟩
  obtain ⟨BV, hBV⟩ : ∃ E, E = bestV l ks c fr tt cents := ⟨_, rfl⟩
  obtain ⟨b1, b2⟩ := BV
  obtain ⟨CV, hCV⟩ : ∃ E, E = bestC l ks c fr tt cents := ⟨_, rfl⟩
  obtain ⟨d1, d2⟩ := CV
  obtain ⟨M2, hM2⟩ : ∃ E, E = max 0 d2 := ⟨_, rfl⟩
  refine wl_alloc zc56 rfl fun g4 => ?_
  refine wl_ov (ov_assign rfl) rfl ?_
  refine wl_ov (ov_assign rfl) rfl ?_
  refine wl_ov (ov_assign rfl) rfl ?_
  refine wl_stores (cs' := [.int .i64 fr, .int .i64 tt]) 0 rz56 rfl rfl rfl rfl rfl rfl rfl rfl ?_
  refine wl_ov (ov_assign rfl) rfl ?_
  refine wl_nil ?_
  refine nx_then ?_
  refine gw_seq ?_
  refine gw_region ?_
  refine wl_ov (ov_move rfl) rfl ?_
  refine wl_ov (ov_move rfl) rfl ?_
  refine wl_ov (ov_move rfl) rfl ?_
  refine wl_ov (ov_loads rz56 rfl (fun _ hm => hm.blkI 0 rfl) rfl rfl) rfl ?_
  refine wl_ov (ov_move rfl) rfl ?_
  refine wl_callv (v := .tuple #[.string b1, .int .i64 b2, .int .i64 BE]) rfl cb60 rfl rfl (fun wx hm => (by have h := tBestCode_any l A n c0 ks A1 n1 c1 c fr tt cents wx (hm.fact 3 rfl) hok (by omega) (hm.fact 2 rfl) (by omega) hnc1 (by omega); rw [← hBV, ← hBE] at h; exact h)) ?_
  refine wl_ov (ov_move rfl) rfl ?_
  refine wl_ov (ov_extract rfl rfl) rfl ?_
  refine wl_ov (ov_extract rfl rfl) rfl ?_
  refine wl_ov (ov_extract rfl rfl) rfl ?_
  refine wl_ov (ov_assign rfl) rfl ?_
  refine wl_ov (ov_assign rfl) rfl ?_
  refine wl_ov (ov_assign rfl) rfl ?_
  refine wl_nil ?_
  refine nx_then ?_
  refine gw_seq ?_
  refine gw_region ?_
  refine wl_ov (ov_move rfl) rfl ?_
  refine wl_callv (v := .int .i64 XE) rfl cb61 rfl rfl (fun wx hm => (by rw [hXE]; exact codesFault_any l A n c0 wx (hm.fact 3 rfl) hok (by omega))) ?_
  refine wl_ov (ov_assign rfl) rfl ?_
  refine wl_nil ?_
  refine nx_then ?_
  refine gw_seq ?_
  refine gw_seq ?_
  refine gw_region ?_
  refine wl_ov (ov_move rfl) rfl ?_
  refine wl_callv (v := .int .i64 XE) rfl cb62 rfl rfl (fun wx hm => (by rw [hXE]; exact checkCodes_any l A n c0 wx (hm.fact 3 rfl) hok (by omega))) ?_
  refine wl_ov (ov_move rfl) rfl ?_
  refine wl_ov (ov_neq rfl rfl) rfl ?_
  refine wl_set 44 (v' := .bool false) rfl (congrArg Value.bool (by simp)) ?_
  refine wl_nil ?_
  refine nx_then ?_
  refine gw_cond rfl (fun hh => by cases hh) (fun _ => ?_)
  refine gw_skip ?_
  refine nx_then ?_
  refine gw_seq ?_
  refine gw_seq ?_
  refine gw_draw (fun wz => Blk wz g4 56 [.int .i64 fr, .int .i64 tt] ∧ Blk wz g3 3 [.int .i64 0, .int .i64 9, .int .i64 999, .int .i64 1000, .int .i64 100000, .int .i64 1000000000, .int .i64 (-1)] ∧ (fun _ => True) wz ∧ (fun _ => True) wz ∧ (fun wy => SlT sgEnc 1 9 wy A1 n1 ks) wz ∧ (fun wy => SlT cdEnc 6 188 wy A n l) wz ∧ True) mixed ?_
  refine wa_take 0 rfl (by kernel_rfl) (by kernel_rfl) (by kernel_rfl) (listed' := #[true, false, false, false, false, false, false, false, false, false, false, false, false, false, false, false, false, false]) rfl (fun _ _ _ h => h) (fun _ hm => ⟨hm.blkI 0 rfl, hm.blkI 1 rfl, hm.fact 0 rfl, hm.fact 1 rfl, hm.fact 2 rfl, hm.fact 3 rfl, trivial⟩) (ov_move rfl) rfl ?_
  refine wa_take 1 rfl (by kernel_rfl) (by kernel_rfl) (by kernel_rfl) (listed' := #[true, true, false, false, false, false, false, false, false, false, false, false, false, false, false, false, false, false]) rfl (fun _ _ _ h => h) (fun _ hm => ⟨hm.blkI 0 rfl, hm.blkI 1 rfl, hm.fact 0 rfl, hm.fact 1 rfl, hm.fact 2 rfl, hm.fact 3 rfl, trivial⟩) (ov_move rfl) rfl ?_
  refine wa_take 2 rfl (by kernel_rfl) (by kernel_rfl) (by kernel_rfl) (listed' := #[true, true, true, false, false, false, false, false, false, false, false, false, false, false, false, false, false, false]) rfl (fun _ _ _ h => h) (fun _ hm => ⟨hm.blkI 0 rfl, hm.blkI 1 rfl, hm.fact 0 rfl, hm.fact 1 rfl, hm.fact 2 rfl, hm.fact 3 rfl, trivial⟩) (ov_move rfl) rfl ?_
  refine wa_take 4 rfl (by kernel_rfl) (by kernel_rfl) (by kernel_rfl) (listed' := #[true, true, true, false, true, false, false, false, false, false, false, false, false, false, false, false, false, false]) rfl (fun _ _ _ h => h) (fun _ hm => ⟨hm.blkI 0 rfl, hm.blkI 1 rfl, hm.fact 0 rfl, hm.fact 1 rfl, hm.fact 2 rfl, hm.fact 3 rfl, trivial⟩) (ov_move rfl) rfl ?_
  refine wa_take 6 rfl (by kernel_rfl) (by kernel_rfl) (by kernel_rfl) (listed' := #[true, true, true, false, true, false, true, false, false, false, false, false, false, false, false, false, false, false]) rfl (fun _ _ _ h => h) (fun _ hm => ⟨hm.blkI 0 rfl, hm.blkI 1 rfl, hm.fact 0 rfl, hm.fact 1 rfl, hm.fact 2 rfl, hm.fact 3 rfl, trivial⟩) (ov_loads rz56 rfl (fun _ hm => hm.1) rfl rfl) rfl ?_
  refine wa_take 8 rfl (by kernel_rfl) (by kernel_rfl) (by kernel_rfl) (listed' := #[true, true, true, false, true, false, true, false, true, false, false, false, false, false, false, false, false, false]) rfl (fun _ _ _ h => h) (fun _ hm => ⟨hm.blkI 0 rfl, hm.blkI 1 rfl, hm.fact 0 rfl, hm.fact 1 rfl, hm.fact 2 rfl, hm.fact 3 rfl, trivial⟩) (ov_move rfl) rfl ?_
  refine wa_take 9 rfl (by kernel_rfl) (by kernel_rfl) (by kernel_rfl) (listed' := #[true, true, true, false, true, false, true, false, true, true, false, false, false, false, false, false, false, false]) rfl (fun _ _ _ h => h) (fun _ hm => ⟨hm.blkI 0 rfl, hm.blkI 1 rfl, hm.fact 0 rfl, hm.fact 1 rfl, hm.fact 2 rfl, hm.fact 3 rfl, trivial⟩) (ov_lss rfl rfl) rfl ?_
  refine wa_all [3] (by kernel_rfl) rfl ⟨⟨_, rfl, ?_⟩, trivial⟩
  refine wl_callv (v := .int .i64 AE) rfl cb63 rfl rfl (fun wx hm => (by rw [hAE]; exact codeKeys_any l A n c0 ks A1 n1 c1 wx (hm.fact 3 rfl) (by omega) (hm.fact 2 rfl) (by omega) hnc1)) ?_
  refine wl_nil ?_
  refine nx_wa0 (listed' := #[true, true, true, true, true, false, true, false, true, true, false, false, false, false, false, false, false, false]) rfl (fun _ hm => ⟨hm.blkI 0 rfl, hm.blkI 1 rfl, hm.fact 0 rfl, hm.fact 1 rfl, hm.fact 2 rfl, hm.fact 3 rfl, trivial⟩) ?_
  refine wa_all [5] (by kernel_rfl) rfl ⟨⟨_, rfl, ?_⟩, trivial⟩
  refine wl_callv rfl cb38 rfl rfl (fun wx hm => (keyFault_any c wx (by omega))) ?_
  refine wl_nil ?_
  refine nx_wa0 (listed' := #[true, true, true, true, true, true, true, false, true, true, false, false, false, false, false, false, false, false]) rfl (fun _ hm => ⟨hm.blkI 0 rfl, hm.blkI 1 rfl, hm.fact 0 rfl, hm.fact 1 rfl, hm.fact 2 rfl, hm.fact 3 rfl, trivial⟩) ?_
  refine wa_all [7] (by kernel_rfl) rfl ⟨⟨_, rfl, ?_⟩, trivial⟩
  refine wl_callv rfl cb35 rfl rfl (fun wx hm => (timeFault_any _ _ wx)) ?_
  refine wl_nil ?_
  refine nx_wa0 (listed' := #[true, true, true, true, true, true, true, true, true, true, false, false, false, false, false, false, false, false]) rfl (fun _ hm => ⟨hm.blkI 0 rfl, hm.blkI 1 rfl, hm.fact 0 rfl, hm.fact 1 rfl, hm.fact 2 rfl, hm.fact 3 rfl, trivial⟩) ?_
  refine wa_take 10 rfl (by kernel_rfl) (by kernel_rfl) (by kernel_rfl) (listed' := #[true, true, true, true, true, true, true, true, true, true, true, false, false, false, false, false, false, false]) rfl (fun _ _ _ h => h) (fun _ hm => ⟨hm.blkI 0 rfl, hm.blkI 1 rfl, hm.fact 0 rfl, hm.fact 1 rfl, hm.fact 2 rfl, hm.fact 3 rfl, trivial⟩) (ov_move rfl) rfl ?_
  rcases Bool.eq_false_or_eq_true (decide (cents < 0)) with hd0 | hd0
  · refine wa_set 55 rfl (congrArg Value.bool hd0) ?_
    have hbe : BE = firstE [XE, AE, whenE (!keyB c) 5, timeE fr tt, whenE true 1] := by rw [hBE]; unfold bestCE; rw [← hXE, ← hAE, out_low hd0]
    refine wa_take_off 11 rfl rfl rfl (by decide) (by kernel_rfl) (by kernel_rfl) (by kernel_rfl) (listed' := #[true, true, true, true, true, true, true, true, true, true, true, true, false, false, false, false, false, false]) rfl (fun _ _ _ h => h) (fun _ hm => ⟨hm.blkI 0 rfl, hm.blkI 1 rfl, hm.fact 0 rfl, hm.fact 1 rfl, hm.fact 2 rfl, hm.fact 3 rfl, trivial⟩) rfl ?_
    refine wa_take_off 12 rfl rfl rfl (by decide) (by kernel_rfl) (by kernel_rfl) (by kernel_rfl) (listed' := #[true, true, true, true, true, true, true, true, true, true, true, true, true, false, false, false, false, false]) rfl (fun _ _ _ h => h) (fun _ hm => ⟨hm.blkI 0 rfl, hm.blkI 1 rfl, hm.fact 0 rfl, hm.fact 1 rfl, hm.fact 2 rfl, hm.fact 3 rfl, trivial⟩) rfl ?_
    refine wa_take 13 rfl (by kernel_rfl) (by kernel_rfl) (by kernel_rfl) (listed' := #[true, true, true, true, true, true, true, true, true, true, true, true, true, true, false, false, false, false]) rfl (fun _ _ _ h => h) (fun _ hm => ⟨hm.blkI 0 rfl, hm.blkI 1 rfl, hm.fact 0 rfl, hm.fact 1 rfl, hm.fact 2 rfl, hm.fact 3 rfl, trivial⟩) (ov_pick_t rfl rfl) rfl ?_
    refine wa_all [14] (by kernel_rfl) rfl ⟨⟨_, rfl, ?_⟩, trivial⟩
    refine wl_callw rfl cb39 rfl rfl (fun wx hm => (rwhen_any _ _ wx)) ?_
    refine wl_nil ?_
    refine nx_wa0 (listed' := #[true, true, true, true, true, true, true, true, true, true, true, true, true, true, true, false, false, false]) rfl (fun _ hm => ⟨hm.blkI 0 rfl, hm.blkI 1 rfl, hm.fact 0 rfl, hm.fact 1 rfl, hm.fact 2 rfl, hm.fact 3 rfl, trivial⟩) ?_
    refine wa_all [15] (by kernel_rfl) rfl ⟨⟨_, rfl, ?_⟩, trivial⟩
    refine wl_buildSlice (e := 29) (cs := [.int .i64 XE, .int .i64 AE, .int .i64 (whenE (!keyB c) 5), .int .i64 (timeE fr tt), .int .i64 (whenE true 1)]) rfl (by kernel_rfl) rfl fun g5 => ?_
    refine wl_nil ?_
    refine nx_wa0 (listed' := #[true, true, true, true, true, true, true, true, true, true, true, true, true, true, true, true, false, false]) rfl (fun _ hm => ⟨hm.blkI 1 rfl, hm.blkI 2 rfl, hm.fact 0 rfl, hm.fact 1 rfl, hm.fact 2 rfl, hm.fact 3 rfl, trivial⟩) ?_
    refine wa_all [16] (by kernel_rfl) rfl ⟨⟨_, rfl, ?_⟩, trivial⟩
    refine wl_callw rfl cb37 rfl rfl (fun wx hm => (errs_any [XE, AE, whenE (!keyB c) 5, timeE fr tt, whenE true 1] _ _ _ wx (hm.blkI 0 rfl) (by simp))) ?_
    refine wl_nil ?_
    refine nx_wa0 (listed' := #[true, true, true, true, true, true, true, true, true, true, true, true, true, true, true, true, true, false]) rfl (fun _ hm => ⟨hm.blkI 1 rfl, hm.blkI 2 rfl, hm.fact 0 rfl, hm.fact 1 rfl, hm.fact 2 rfl, hm.fact 3 rfl, trivial⟩) ?_
    refine wa_take 17 rfl (by kernel_rfl) (by kernel_rfl) (by kernel_rfl) (listed' := #[true, true, true, true, true, true, true, true, true, true, true, true, true, true, true, true, true, true]) rfl (fun _ _ _ h => h) (fun _ hm => ⟨hm.blkI 1 rfl, hm.blkI 2 rfl, hm.fact 0 rfl, hm.fact 1 rfl, hm.fact 2 rfl, hm.fact 3 rfl, trivial⟩) (ov_assign rfl) rfl ?_
    refine wa_done (by kernel_rfl) ?_
    refine nx_then ?_
    refine gw_seq ?_
    refine gw_region ?_
    refine wl_ov (ov_move rfl) rfl ?_
    refine wl_ov (ov_neq rfl rfl) rfl ?_
    refine wl_nil ?_
    refine nx_then ?_
    refine gw_cond rfl (fun hh => ?_) (fun hh => ?_)
    · have hz : ¬ (firstE [XE, AE, whenE (!keyB c) 5, timeE fr tt, whenE true 1] = 0) := by simpa using hh
      clear hh
      refine gw_seq ?_
      refine gw_region ?_
      have hz2 : ¬ bestCE l ks c fr tt cents = 0 := fun h => hz (hbe.symm.trans (hBE.trans h))
      have hv : (b1, b2) = (⟨#[]⟩, 0) := by rw [hBV]; unfold bestV; rw [if_neg hz2]
      obtain ⟨rfl, rfl⟩ : b1 = ⟨#[]⟩ ∧ b2 = 0 := by injection hv with e1 e2; exact ⟨e1, e2⟩
      refine wl_ov (ov_move rfl) rfl ?_
      refine wl_ov (ov_move rfl) rfl ?_
      refine wl_ov (ov_eql rfl rfl) rfl ?_
      refine wl_set 66 (v' := .bool true) rfl (congrArg Value.bool (decide_eq_true (hbe))) ?_
      refine wl_ov (ov_move rfl) rfl ?_
      refine wl_guard_on rfl rfl rfl ?_
      refine wl_ov (ov_move rfl) rfl ?_
      refine wl_guard_on rfl rfl rfl ?_
      refine wl_ov (ov_seql rfl rfl) rfl ?_
      refine wl_set 69 (v' := .bool true) rfl (congrArg Value.bool (beq_self_eq_true _)) ?_
      refine wl_ov (ov_pick_t rfl rfl) rfl ?_
      refine wl_ov (ov_move rfl) rfl ?_
      refine wl_guard_on rfl rfl rfl ?_
      refine wl_ov (ov_move rfl) rfl ?_
      refine wl_guard_on rfl rfl rfl ?_
      refine wl_ov (ov_eql rfl rfl) rfl ?_
      refine wl_set 73 (v' := .bool true) rfl (congrArg Value.bool (by decide)) ?_
      refine wl_ov (ov_pick_t rfl rfl) rfl ?_
      refine wl_ov (ov_move rfl) rfl ?_
      refine wl_guard_on rfl rfl rfl ?_
      refine wl_callv rfl cb41 rfl rfl (fun wx hm => (priced_any wx)) ?_
      refine wl_ov (ov_pick_t rfl rfl) rfl ?_
      refine wl_ov (ov_assign rfl) rfl ?_
      refine wl_nil ?_
      refine nx_then ?_
      refine gw_ret ?_
      refine nx_then_ret ?_
      refine nx_ret1 rfl rfl fun wx hm => ?_
      exact ⟨rfl, law_end hg1 hsb hm.g⟩
    · have hz : firstE [XE, AE, whenE (!keyB c) 5, timeE fr tt, whenE true 1] = 0 := by simpa using hh
      clear hh
      refine gw_skip ?_
      refine nx_then ?_
      refine gw_seq ?_
      refine gw_region ?_
      have hz2 : bestCE l ks c fr tt cents = 0 := hBE.symm.trans (hbe.trans hz)
      have hall := fe_all hz2
      have hx0 : codesE l = 0 := hall _ (by simp)
      have hask := (askE_ok (hall (askE (fun k => l.any (codeP k)) ks) (by simp))).2
      obtain ⟨h0, hlt, htt, _⟩ := timeE_ok (hall (timeE fr tt) (by simp))
      have hct : inB cents 0 1000000000 = true := by simpa using we_ok (by decide) (hall (whenE (!inB cents 0 1000000000) 1) (by simp))
      obtain ⟨hct0, hct1⟩ := inB_iff.1 hct
      have hsame := best_same (cls := c) (fr := fr) (tt := tt) hx0 hask hct0
      have hv : (b1, b2) = bestK l ks c fr tt cents := by rw [hBV]; unfold bestV; rw [if_pos hz2]
      rw [← hv, ← hCV] at hsame
      obtain ⟨hs1, hs2⟩ := hsame
      dsimp only at hs1 hs2
      have hbz : BE = 0 := hbe.trans hz
      refine wl_ov (ov_move rfl) rfl ?_
      refine wl_ov (ov_move rfl) rfl ?_
      refine wl_ov (ov_move rfl) rfl ?_
      refine wl_ov (ov_loads rz56 rfl (fun _ hm => hm.blkI 1 rfl) rfl rfl) rfl ?_
      refine wl_ov (ov_move rfl) rfl ?_
      refine wl_callv (v := .tuple #[.string d1, .int .i64 M2]) rfl cb64 rfl rfl (fun wx hm => (by have h := codeOf_any l A n c0 ks A1 n1 c1 c fr tt cents wx (hm.fact 3 rfl) (by omega) (hm.fact 2 rfl) (by omega) hx0 h0 hlt htt hct0 hct1; rw [← hCV, ← hM2] at h; exact h)) ?_
      refine wl_ov (ov_move rfl) rfl ?_
      refine wl_ov (ov_extract rfl rfl) rfl ?_
      refine wl_ov (ov_extract rfl rfl) rfl ?_
      refine wl_ov (ov_assign rfl) rfl ?_
      refine wl_ov (ov_assign rfl) rfl ?_
      refine wl_nil ?_
      refine nx_then ?_
      refine gw_seq ?_
      refine gw_region ?_
      refine wl_ov (ov_move rfl) rfl ?_
      refine wl_ov (ov_eql rfl rfl) rfl ?_
      refine wl_set 88 (v' := .bool true) rfl (congrArg Value.bool (decide_eq_true (hbz))) ?_
      refine wl_ov (ov_move rfl) rfl ?_
      refine wl_guard_on rfl rfl rfl ?_
      refine wl_ov (ov_move rfl) rfl ?_
      refine wl_guard_on rfl rfl rfl ?_
      refine wl_ov (ov_move rfl) rfl ?_
      refine wl_guard_on rfl rfl rfl ?_
      refine wl_ov (ov_seql rfl rfl) rfl ?_
      refine wl_set 92 (v' := .bool true) rfl (congrArg Value.bool (by rw [hs1]; exact beq_self_eq_true _)) ?_
      refine wl_ov (ov_pick_t rfl rfl) rfl ?_
      refine wl_ov (ov_move rfl) rfl ?_
      refine wl_guard_on rfl rfl rfl ?_
      refine wl_ov (ov_move rfl) rfl ?_
      refine wl_guard_on rfl rfl rfl ?_
      refine wl_ov (ov_move rfl) rfl ?_
      refine wl_guard_on rfl rfl rfl ?_
      refine wl_ov (ov_eql rfl rfl) rfl ?_
      refine wl_set 97 (v' := .bool true) rfl (congrArg Value.bool (decide_eq_true (hs2.trans hM2.symm))) ?_
      refine wl_ov (ov_pick_t rfl rfl) rfl ?_
      refine wl_ov (ov_move rfl) rfl ?_
      refine wl_guard_on rfl rfl rfl ?_
      refine wl_callv rfl cb41 rfl rfl (fun wx hm => (priced_any wx)) ?_
      refine wl_ov (ov_pick_t rfl rfl) rfl ?_
      refine wl_ov (ov_assign rfl) rfl ?_
      refine wl_nil ?_
      refine nx_then ?_
      refine gw_ret ?_
      refine nx_ret1 rfl rfl fun wx hm => ?_
      exact ⟨rfl, law_end hg1 hsb hm.g⟩
  · refine wa_set 55 rfl (congrArg Value.bool hd0) ?_
    have hbe : BE = firstE [XE, AE, whenE (!keyB c) 5, timeE fr tt, whenE (decide (1000000000 < cents)) 1] := by rw [hBE]; unfold bestCE; rw [← hXE, ← hAE, out_high hd0]
    refine wa_take_on 11 rfl rfl rfl (by kernel_rfl) (by kernel_rfl) (by kernel_rfl) (listed' := #[true, true, true, true, true, true, true, true, true, true, true, true, false, false, false, false, false, false]) rfl (fun _ _ _ h => h) (fun _ hm => ⟨hm.blkI 0 rfl, hm.blkI 1 rfl, hm.fact 0 rfl, hm.fact 1 rfl, hm.fact 2 rfl, hm.fact 3 rfl, trivial⟩) (ov_move rfl) rfl ?_
    refine wa_take_on 12 rfl rfl rfl (by kernel_rfl) (by kernel_rfl) (by kernel_rfl) (listed' := #[true, true, true, true, true, true, true, true, true, true, true, true, true, false, false, false, false, false]) rfl (fun _ _ _ h => h) (fun _ hm => ⟨hm.blkI 0 rfl, hm.blkI 1 rfl, hm.fact 0 rfl, hm.fact 1 rfl, hm.fact 2 rfl, hm.fact 3 rfl, trivial⟩) (ov_gtr rfl rfl) rfl ?_
    refine wa_take 13 rfl (by kernel_rfl) (by kernel_rfl) (by kernel_rfl) (listed' := #[true, true, true, true, true, true, true, true, true, true, true, true, true, true, false, false, false, false]) rfl (fun _ _ _ h => h) (fun _ hm => ⟨hm.blkI 0 rfl, hm.blkI 1 rfl, hm.fact 0 rfl, hm.fact 1 rfl, hm.fact 2 rfl, hm.fact 3 rfl, trivial⟩) (ov_pick_f rfl rfl) rfl ?_
    refine wa_all [14] (by kernel_rfl) rfl ⟨⟨_, rfl, ?_⟩, trivial⟩
    refine wl_callw rfl cb39 rfl rfl (fun wx hm => (rwhen_any _ _ wx)) ?_
    refine wl_nil ?_
    refine nx_wa0 (listed' := #[true, true, true, true, true, true, true, true, true, true, true, true, true, true, true, false, false, false]) rfl (fun _ hm => ⟨hm.blkI 0 rfl, hm.blkI 1 rfl, hm.fact 0 rfl, hm.fact 1 rfl, hm.fact 2 rfl, hm.fact 3 rfl, trivial⟩) ?_
    refine wa_all [15] (by kernel_rfl) rfl ⟨⟨_, rfl, ?_⟩, trivial⟩
    refine wl_buildSlice (e := 29) (cs := [.int .i64 XE, .int .i64 AE, .int .i64 (whenE (!keyB c) 5), .int .i64 (timeE fr tt), .int .i64 (whenE (decide (1000000000 < cents)) 1)]) rfl (by kernel_rfl) rfl fun g6 => ?_
    refine wl_nil ?_
    refine nx_wa0 (listed' := #[true, true, true, true, true, true, true, true, true, true, true, true, true, true, true, true, false, false]) rfl (fun _ hm => ⟨hm.blkI 1 rfl, hm.blkI 2 rfl, hm.fact 0 rfl, hm.fact 1 rfl, hm.fact 2 rfl, hm.fact 3 rfl, trivial⟩) ?_
    refine wa_all [16] (by kernel_rfl) rfl ⟨⟨_, rfl, ?_⟩, trivial⟩
    refine wl_callw rfl cb37 rfl rfl (fun wx hm => (errs_any [XE, AE, whenE (!keyB c) 5, timeE fr tt, whenE (decide (1000000000 < cents)) 1] _ _ _ wx (hm.blkI 0 rfl) (by simp))) ?_
    refine wl_nil ?_
    refine nx_wa0 (listed' := #[true, true, true, true, true, true, true, true, true, true, true, true, true, true, true, true, true, false]) rfl (fun _ hm => ⟨hm.blkI 1 rfl, hm.blkI 2 rfl, hm.fact 0 rfl, hm.fact 1 rfl, hm.fact 2 rfl, hm.fact 3 rfl, trivial⟩) ?_
    refine wa_take 17 rfl (by kernel_rfl) (by kernel_rfl) (by kernel_rfl) (listed' := #[true, true, true, true, true, true, true, true, true, true, true, true, true, true, true, true, true, true]) rfl (fun _ _ _ h => h) (fun _ hm => ⟨hm.blkI 1 rfl, hm.blkI 2 rfl, hm.fact 0 rfl, hm.fact 1 rfl, hm.fact 2 rfl, hm.fact 3 rfl, trivial⟩) (ov_assign rfl) rfl ?_
    refine wa_done (by kernel_rfl) ?_
    refine nx_then ?_
    refine gw_seq ?_
    refine gw_region ?_
    refine wl_ov (ov_move rfl) rfl ?_
    refine wl_ov (ov_neq rfl rfl) rfl ?_
    refine wl_nil ?_
    refine nx_then ?_
    refine gw_cond rfl (fun hh => ?_) (fun hh => ?_)
    · have hz : ¬ (firstE [XE, AE, whenE (!keyB c) 5, timeE fr tt, whenE (decide (1000000000 < cents)) 1] = 0) := by simpa using hh
      clear hh
      refine gw_seq ?_
      refine gw_region ?_
      have hz2 : ¬ bestCE l ks c fr tt cents = 0 := fun h => hz (hbe.symm.trans (hBE.trans h))
      have hv : (b1, b2) = (⟨#[]⟩, 0) := by rw [hBV]; unfold bestV; rw [if_neg hz2]
      obtain ⟨rfl, rfl⟩ : b1 = ⟨#[]⟩ ∧ b2 = 0 := by injection hv with e1 e2; exact ⟨e1, e2⟩
      refine wl_ov (ov_move rfl) rfl ?_
      refine wl_ov (ov_move rfl) rfl ?_
      refine wl_ov (ov_eql rfl rfl) rfl ?_
      refine wl_set 66 (v' := .bool true) rfl (congrArg Value.bool (decide_eq_true (hbe))) ?_
      refine wl_ov (ov_move rfl) rfl ?_
      refine wl_guard_on rfl rfl rfl ?_
      refine wl_ov (ov_move rfl) rfl ?_
      refine wl_guard_on rfl rfl rfl ?_
      refine wl_ov (ov_seql rfl rfl) rfl ?_
      refine wl_set 69 (v' := .bool true) rfl (congrArg Value.bool (beq_self_eq_true _)) ?_
      refine wl_ov (ov_pick_t rfl rfl) rfl ?_
      refine wl_ov (ov_move rfl) rfl ?_
      refine wl_guard_on rfl rfl rfl ?_
      refine wl_ov (ov_move rfl) rfl ?_
      refine wl_guard_on rfl rfl rfl ?_
      refine wl_ov (ov_eql rfl rfl) rfl ?_
      refine wl_set 73 (v' := .bool true) rfl (congrArg Value.bool (by decide)) ?_
      refine wl_ov (ov_pick_t rfl rfl) rfl ?_
      refine wl_ov (ov_move rfl) rfl ?_
      refine wl_guard_on rfl rfl rfl ?_
      refine wl_callv rfl cb41 rfl rfl (fun wx hm => (priced_any wx)) ?_
      refine wl_ov (ov_pick_t rfl rfl) rfl ?_
      refine wl_ov (ov_assign rfl) rfl ?_
      refine wl_nil ?_
      refine nx_then ?_
      refine gw_ret ?_
      refine nx_then_ret ?_
      refine nx_ret1 rfl rfl fun wx hm => ?_
      exact ⟨rfl, law_end hg1 hsb hm.g⟩
    · have hz : firstE [XE, AE, whenE (!keyB c) 5, timeE fr tt, whenE (decide (1000000000 < cents)) 1] = 0 := by simpa using hh
      clear hh
      refine gw_skip ?_
      refine nx_then ?_
      refine gw_seq ?_
      refine gw_region ?_
      have hz2 : bestCE l ks c fr tt cents = 0 := hBE.symm.trans (hbe.trans hz)
      have hall := fe_all hz2
      have hx0 : codesE l = 0 := hall _ (by simp)
      have hask := (askE_ok (hall (askE (fun k => l.any (codeP k)) ks) (by simp))).2
      obtain ⟨h0, hlt, htt, _⟩ := timeE_ok (hall (timeE fr tt) (by simp))
      have hct : inB cents 0 1000000000 = true := by simpa using we_ok (by decide) (hall (whenE (!inB cents 0 1000000000) 1) (by simp))
      obtain ⟨hct0, hct1⟩ := inB_iff.1 hct
      have hsame := best_same (cls := c) (fr := fr) (tt := tt) hx0 hask hct0
      have hv : (b1, b2) = bestK l ks c fr tt cents := by rw [hBV]; unfold bestV; rw [if_pos hz2]
      rw [← hv, ← hCV] at hsame
      obtain ⟨hs1, hs2⟩ := hsame
      dsimp only at hs1 hs2
      have hbz : BE = 0 := hbe.trans hz
      refine wl_ov (ov_move rfl) rfl ?_
      refine wl_ov (ov_move rfl) rfl ?_
      refine wl_ov (ov_move rfl) rfl ?_
      refine wl_ov (ov_loads rz56 rfl (fun _ hm => hm.blkI 1 rfl) rfl rfl) rfl ?_
      refine wl_ov (ov_move rfl) rfl ?_
      refine wl_callv (v := .tuple #[.string d1, .int .i64 M2]) rfl cb64 rfl rfl (fun wx hm => (by have h := codeOf_any l A n c0 ks A1 n1 c1 c fr tt cents wx (hm.fact 3 rfl) (by omega) (hm.fact 2 rfl) (by omega) hx0 h0 hlt htt hct0 hct1; rw [← hCV, ← hM2] at h; exact h)) ?_
      refine wl_ov (ov_move rfl) rfl ?_
      refine wl_ov (ov_extract rfl rfl) rfl ?_
      refine wl_ov (ov_extract rfl rfl) rfl ?_
      refine wl_ov (ov_assign rfl) rfl ?_
      refine wl_ov (ov_assign rfl) rfl ?_
      refine wl_nil ?_
      refine nx_then ?_
      refine gw_seq ?_
      refine gw_region ?_
      refine wl_ov (ov_move rfl) rfl ?_
      refine wl_ov (ov_eql rfl rfl) rfl ?_
      refine wl_set 88 (v' := .bool true) rfl (congrArg Value.bool (decide_eq_true (hbz))) ?_
      refine wl_ov (ov_move rfl) rfl ?_
      refine wl_guard_on rfl rfl rfl ?_
      refine wl_ov (ov_move rfl) rfl ?_
      refine wl_guard_on rfl rfl rfl ?_
      refine wl_ov (ov_move rfl) rfl ?_
      refine wl_guard_on rfl rfl rfl ?_
      refine wl_ov (ov_seql rfl rfl) rfl ?_
      refine wl_set 92 (v' := .bool true) rfl (congrArg Value.bool (by rw [hs1]; exact beq_self_eq_true _)) ?_
      refine wl_ov (ov_pick_t rfl rfl) rfl ?_
      refine wl_ov (ov_move rfl) rfl ?_
      refine wl_guard_on rfl rfl rfl ?_
      refine wl_ov (ov_move rfl) rfl ?_
      refine wl_guard_on rfl rfl rfl ?_
      refine wl_ov (ov_move rfl) rfl ?_
      refine wl_guard_on rfl rfl rfl ?_
      refine wl_ov (ov_eql rfl rfl) rfl ?_
      refine wl_set 97 (v' := .bool true) rfl (congrArg Value.bool (decide_eq_true (hs2.trans hM2.symm))) ?_
      refine wl_ov (ov_pick_t rfl rfl) rfl ?_
      refine wl_ov (ov_move rfl) rfl ?_
      refine wl_guard_on rfl rfl rfl ?_
      refine wl_callv rfl cb41 rfl rfl (fun wx hm => (priced_any wx)) ?_
      refine wl_ov (ov_pick_t rfl rfl) rfl ?_
      refine wl_ov (ov_assign rfl) rfl ?_
      refine wl_nil ?_
      refine nx_then ?_
      refine gw_ret ?_
      refine nx_ret1 rfl rfl fun wx hm => ?_
      exact ⟨rfl, law_end hg1 hsb hm.g⟩

end Go.Proofs.YtmpomocahgcebaaDoor
