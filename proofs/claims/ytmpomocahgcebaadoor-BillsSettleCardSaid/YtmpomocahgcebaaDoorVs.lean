/- The walks of hire.Settle and the law BillsSettle. -/
import Derived.Test.YtmpomocahgcebaaDoorLf
import Derived.Test.YtmpomocahgcebaaDoorGe
import Derived.Test.YtmpomocahgcebaaDoorRy
import Derived.Test.YtmpomocahgcebaaDoorTw
import Derived.Test.YtmpomocahgcebaaDoorSd
import Derived.Test.YtmpomocahgcebaaDoorSg
import Derived.Test.YtmpomocahgcebaaDoorSi
namespace Go.Proofs.YtmpomocahgcebaaDoor
open Go.RowKit

theorem deal_last {df dk de dg dh dd dp : Int} (h : dealE ⟨df, dk, de, dg, dh, dd, dp⟩ = 0) : 0 ≤ dp ∧ dp ≤ 1000000 := by
  have hb : dealB ⟨df, dk, de, dg, dh, dd, dp⟩ = true := by
    unfold dealE whenE at h
    cases hb : dealB ⟨df, dk, de, dg, dh, dd, dp⟩ with
    | true => rfl
    | false => rw [hb] at h; cases h
  unfold dealB at hb
  simp only [Bool.and_eq_true, inB_iff] at hb
  exact hb.2

set_option maxRecDepth 100000 in
set_option maxHeartbeats 400000 in
theorem settle_right (df dk de dg dh dd dp : Int) (ls : List Ln) (A2 : Option Addr) (n2 c2 : Nat) (paid : Int) (w : World) (hd : dealE ⟨df, dk, de, dg, dh, dd, dp⟩ = 0) (hle : linesE ls = 0) (hp0 : 0 ≤ paid) (hp1 : paid ≤ 1000000000) (hs : SlT lnEnc 3 133 w A2 n2 ls) (hlo : ∀ x ∈ ls, LnOk x) (hn2 : n2 ≤ 200) :
    Calls Tryd.prog 26 #[.agg #[.int .i64 df, .int .i64 dk, .int .i64 de, .int .i64 dg, .int .i64 dh, .int .i64 dd, .int .i64 dp], .slice A2 n2 c2, .int .i64 paid] w (fun e w' => ∃ bk du : Int, e = .returned (.tuple #[.int .i64 bk, .int .i64 du, .int .i64 0]) ∧ bk - du = paid + dp - sumBy centsOf ls ∧ (bk = 0 ∨ du = 0) ∧ 0 ≤ bk ∧ 0 ≤ du ∧ bk ≤ 10000000000000 ∧ du ≤ 10000000000000 ∧ w.grownBy w' none) := by
  refine gw_enter ⟨36, w, none, []⟩ Tryd.func26 rfl Tryd.ntmps26 rfl (mem0 (X := [SlOld lnEnc 3 133 w.heap.size none A2 n2 ls]) (allF_cons hs.old allF_nil) (allL_cons SlOld.lasts allL_nil)) ?_
  refine gw_seq ?_
  refine gw_region ?_
  obtain ⟨hd0, hd1⟩ := deal_last hd
  have hlb := (linesE_ok hle).2
  have hsum := sumBy_bound (l := ls) (f := centsOf) (a := -1000000000) (b := 1000000000) hlb
  have hlen := hs.len
  obtain ⟨SM, hSM⟩ : ∃ x, x = sumBy centsOf ls := ⟨_, rfl⟩
  rw [← hSM] at hsum ⊢
  have hs0 : -1000000000000 ≤ SM := by omega
  have hs1 : SM ≤ 1000000000000 := by omega
  clear hsum
  refine wl_box rfl rfl rfl fun g1 => ?_
  refine wl_ov (ov_assign rfl) rfl ?_
  refine wl_ov (ov_assign rfl) rfl ?_
  refine wl_ov (ov_assign rfl) rfl ?_
  refine wl_nil ?_
  refine nx_then ?_
  refine gw_seq ?_
  refine gw_seq ?_
  refine gw_region ?_
  refine wl_ov (ov_loads rz42 rfl (fun _ hm => hm.blkI 0 rfl) rfl rfl) rfl ?_
  refine wl_callv (v := .int .i64 0) rfl cb25 rfl rfl (fun wx hm => (by have h := checkDeal_any ⟨df, dk, de, dg, dh, dd, dp⟩ wx; rw [hd] at h; exact h)) ?_
  refine wl_ov (ov_move rfl) rfl ?_
  refine wl_callv (v := .int .i64 0) rfl cb80 rfl rfl (fun wx hm => (by have h := checkLines_any ls A2 n2 c2 wx (hm.fact 0 rfl).1 hlo (by omega); rw [hle] at h; exact h)) ?_
  refine wl_ov (ov_move rfl) rfl ?_
  refine wl_callw rfl cb99 rfl rfl (fun wx hm => (in_any _ _ _ wx)) ?_
  refine wl_ov (ov_un_not rfl) rfl ?_
  refine wl_callw rfl cb98 rfl rfl (fun wx hm => (when_any _ _ wx)) ?_
  refine wl_buildSlice (e := 29) (cs := [.int .i64 0, .int .i64 0, .int .i64 (whenE (!(inB paid 0 1000000000)) 1)]) rfl (by kernel_rfl) rfl fun g2 => ?_
  refine wl_callw rfl cb97 rfl rfl (fun wx hm => (first_any [0, 0, whenE (!(inB paid 0 1000000000)) 1] _ _ _ wx (hm.blkI 0 rfl) (by simp))) ?_
  refine wl_ov (ov_assign rfl) rfl ?_
  refine wl_nil ?_
  refine nx_then ?_
  refine gw_seq ?_
  refine gw_region ?_
  refine wl_ov (ov_move rfl) rfl ?_
  refine wl_ov (ov_neq rfl rfl) rfl ?_
  refine wl_nil ?_
  refine nx_then ?_
  refine gw_cond rfl (fun hh => ?_) (fun hh => ?_)
  · have hE : ¬ (firstE [0, 0, whenE (!(inB paid 0 1000000000)) 1] = 0) := by simpa using hh
    clear hh
    refine gw_seq ?_
    refine gw_region ?_
    exact absurd (by rw [inB_iff.2 ⟨hp0, hp1⟩]; rfl) hE
  · have hE : firstE [0, 0, whenE (!(inB paid 0 1000000000)) 1] = 0 := by simpa using hh
    clear hh
    refine gw_skip ?_
    refine nx_then ?_
    refine gw_seq ?_
    refine gw_draw (fun wz => Blk wz g2 29 [.int .i64 0, .int .i64 0, .int .i64 (whenE (!(inB paid 0 1000000000)) 1)] ∧ Blk wz g1 42 [.int .i64 df, .int .i64 dk, .int .i64 de, .int .i64 dg, .int .i64 dh, .int .i64 dd, .int .i64 dp] ∧ (SlOld lnEnc 3 133 w.heap.size none A2 n2 ls) wz ∧ True) mixed ?_
    refine wa_take 0 rfl (by kernel_rfl) (by kernel_rfl) (by kernel_rfl) (listed' := #[true, false, false, false, false, false, false, false]) rfl (fun _ _ _ h => h) (fun _ hm => ⟨hm.blkI 0 rfl, hm.blkI 1 rfl, hm.fact 0 rfl, trivial⟩) (ov_move rfl) rfl ?_
    refine wa_take 1 rfl (by kernel_rfl) (by kernel_rfl) (by kernel_rfl) (listed' := #[true, true, false, false, false, false, false, false]) rfl (fun _ _ _ h => h) (fun _ hm => ⟨hm.blkI 0 rfl, hm.blkI 1 rfl, hm.fact 0 rfl, trivial⟩) (ov_field fo42_6 rfl rfl) rfl ?_
    refine wa_take 2 rfl (by kernel_rfl) (by kernel_rfl) (by kernel_rfl) (listed' := #[true, true, true, false, false, false, false, false]) rfl (fun _ _ _ h => h) (fun _ hm => ⟨hm.blkI 0 rfl, hm.blkI 1 rfl, hm.fact 0 rfl, trivial⟩) (ov_load sc3 rfl (fun _ hm => hm.2.1) rfl) rfl ?_
    refine wa_take 3 rfl (by kernel_rfl) (by kernel_rfl) (by kernel_rfl) (listed' := #[true, true, true, true, false, false, false, false]) rfl (fun _ _ _ h => h) (fun _ hm => ⟨hm.blkI 0 rfl, hm.blkI 1 rfl, hm.fact 0 rfl, trivial⟩) (ov_add rfl rfl (by omega) (by omega)) rfl ?_
    refine wa_take 4 rfl (by kernel_rfl) (by kernel_rfl) (by kernel_rfl) (listed' := #[true, true, true, true, true, false, false, false]) rfl (fun _ _ _ h => h) (fun _ hm => ⟨hm.blkI 0 rfl, hm.blkI 1 rfl, hm.fact 0 rfl, trivial⟩) (ov_move rfl) rfl ?_
    refine wa_all [5] (by kernel_rfl) rfl ⟨⟨_, rfl, ?_⟩, trivial⟩
    refine wl_callv (v := .int .i64 SM) rfl cb103 rfl rfl (fun wx hm => (by rw [hSM]; exact sum_any ls A2 n2 c2 wx (hm.fact 0 rfl).1 (fun x hx => by have := hlb x hx; omega) (by omega))) ?_
    refine wl_nil ?_
    refine nx_wa0 (listed' := #[true, true, true, true, true, true, false, false]) rfl (fun _ hm => ⟨hm.blkI 0 rfl, hm.blkI 1 rfl, hm.fact 0 rfl, trivial⟩) ?_
    refine wa_take 6 rfl (by kernel_rfl) (by kernel_rfl) (by kernel_rfl) (listed' := #[true, true, true, true, true, true, true, false]) rfl (fun _ _ _ h => h) (fun _ hm => ⟨hm.blkI 0 rfl, hm.blkI 1 rfl, hm.fact 0 rfl, trivial⟩) (ov_sub rfl rfl (by omega) (by omega)) rfl ?_
    refine wa_take 7 rfl (by kernel_rfl) (by kernel_rfl) (by kernel_rfl) (listed' := #[true, true, true, true, true, true, true, true]) rfl (fun _ _ _ h => h) (fun _ hm => ⟨hm.blkI 0 rfl, hm.blkI 1 rfl, hm.fact 0 rfl, trivial⟩) (ov_assign rfl) rfl ?_
    refine wa_done (by kernel_rfl) ?_
    refine nx_then ?_
    refine gw_seq ?_
    refine gw_region ?_
    refine wl_ov (ov_move rfl) rfl ?_
    refine wl_ov (ov_max rfl rfl) rfl ?_
    refine wl_ov (ov_move rfl) rfl ?_
    refine wl_ov (ov_neg rfl (by omega) (by omega)) rfl ?_
    refine wl_ov (ov_max rfl rfl) rfl ?_
    refine wl_ov (ov_assign rfl) rfl ?_
    refine wl_ov (ov_assign rfl) rfl ?_
    refine wl_ov (ov_assign rfl) rfl ?_
    refine wl_nil ?_
    refine nx_then ?_
    refine gw_ret ?_
    refine nx_ret3 rfl rfl rfl rfl fun wx hm => ?_
    exact ⟨_, _, rfl, by omega, by omega, by omega, by omega, by omega, by omega, hm.g⟩

set_option maxRecDepth 100000 in
set_option maxHeartbeats 2000000 in
theorem settle_walk (a0 : Option Addr) (len0 cap0 : Nat) (z0 : List Int) (w : World) (hR : RowIn w a0 len0 cap0 z0) :
    Calls Tryd.prog 4 #[.slice a0 len0 cap0] w fun e w' => e = .returned (.bool true) ∧ Below w.heap.size w w' := by
  refine gw_enter ⟨81, w, none, []⟩ Tryd.func4 rfl Tryd.ntmps4 rfl (mem0 (X := []) allF_nil allL_nil) ?_
  refine gw_seq ?_
  refine gw_region ?_
  refine wl_ov (ov_assign rfl) rfl ?_
  refine wl_nil ?_
  refine nx_then ?_
  refine gw_seq ?_
  refine gw_region ?_
  refine wl_ov (ov_move rfl) rfl ?_
  refine wl_ov (ov_build (cs := [.slice a0 len0 cap0, .int .i64 0]) rfl (by kernel_rfl)) rfl ?_
  refine wl_box rfl rfl rfl fun sb => ?_
  refine wl_ov (ov_assign rfl) rfl ?_
  refine wl_nil ?_
  refine nx_then ?_
  refine gw_seq ?_
  refine gw_region ?_
  refine wl_ov (ov_move rfl) rfl ?_
  refine wl_law [133] hR 0 rfl fun w1 B hg1 hsb => ?_
  refine wl_calls (γ := Int × Int × Int × Int × Int × Int × Int) (val := (fun (g : Int × Int × Int × Int × Int × Int × Int) => .agg #[.int .i64 g.1, .int .i64 g.2.1, .int .i64 g.2.2.1, .int .i64 g.2.2.2.1, .int .i64 g.2.2.2.2.1, .int .i64 g.2.2.2.2.2.1, .int .i64 g.2.2.2.2.2.2])) (φ := (fun (g : Int × Int × Int × Int × Int × Int × Int) => dealE ⟨g.1, g.2.1, g.2.2.1, g.2.2.2.1, g.2.2.2.2.1, g.2.2.2.2.2.1, g.2.2.2.2.2.2⟩ = 0)) (Y := (fun (g : Int × Int × Int × Int × Int × Int × Int) => fun _ => True)) (m' := 0 + 400) rfl cb21 rfl rfl rfl rfl (fun wx hm => (rightDeal_any wx B sb _ hm.k (by omega)).mono fun _ _ ⟨⟨d0, d1, d2, d3, d4, d5, d6⟩, hd, he, hS, hg⟩ => ⟨(d0, d1, d2, d3, d4, d5, d6), he, hd, hS, hg, trivial⟩) (fun _ => Lasts2.true_) ?_
  rintro ⟨df, dk, de, dg, dh, dd, dp⟩ hd
  dsimp only at hd ⊢
  refine wl_ov (ov_move rfl) rfl ?_
  refine wl_calls (γ := Option Addr × Nat × Nat × List Ln) (val := (fun (g : Option Addr × Nat × Nat × List Ln) => .slice g.1 g.2.1 g.2.2.1)) (φ := (fun (g : Option Addr × Nat × Nat × List Ln) => (∀ x ∈ g.2.2.2, LnOk x) ∧ g.2.1 ≤ 6)) (Y := (fun (g : Option Addr × Nat × Nat × List Ln) => fun wy => SlT lnEnc 3 133 wy g.1 g.2.1 g.2.2.2)) (m' := 0 + 400 + 200) rfl cb22 rfl rfl rfl rfl (fun wx hm => (billLines_any wx B sb _ hm.k (by omega)).mono fun _ _ ⟨A2, n2, c2, ls, he, hsl, hok, hn, _, hS, hg⟩ => ⟨(A2, n2, c2, ls), he, ⟨hok, hn⟩, hS, hg, hsl⟩) (fun _ => SlT.lasts2 rfl) ?_
  rintro ⟨A2, n2, c2, ls⟩ hR2
  dsimp only at hR2 ⊢
  obtain ⟨hlo, hn6⟩ := hR2
  obtain ⟨LE, hLE⟩ : ∃ E, E = linesE ls := ⟨_, rfl⟩
  obtain ⟨SM, hSM⟩ : ∃ x, x = sumBy centsOf ls := ⟨_, rfl⟩
  refine wl_ov (ov_move rfl) rfl ?_
  refine wl_buildSlice (e := 3) (cs := [.int .i64 0, .int .i64 100, .int .i64 99999]) rfl (by kernel_rfl) rfl fun g2 => ?_
  refine wl_got (γ := Int) (val := fun v => .int .i64 v) (φ := fun v => v ∈ ([0, 100, 99999] : List Int)) rfl cb23 rfl rfl rfl rfl (fun wx hm => (pick_any [0, 100, 99999] _ _ _ wx B sb _ hm.k (by omega) (by simp) (by simp) (hm.blkI 0 rfl) (hm.neRow 0 rfl rfl))) fun v3 hv3 => ?_
  have bv3 : 0 ≤ v3 ∧ v3 ≤ 99999 := mem_rng hv3 (by decide)
  have bv30 := bv3.1
  have bv31 := bv3.2
  clear bv3
  refine wl_alloc zc42 rfl fun g4 => ?_
  refine wl_stores (cs' := [.int .i64 df, .int .i64 dk, .int .i64 de, .int .i64 dg, .int .i64 dh, .int .i64 dd, .int .i64 dp]) 0 rz42 rfl rfl rfl rfl rfl rfl rfl rfl ?_
  refine wl_ov (ov_assign rfl) rfl ?_
  refine wl_ov (ov_assign rfl) rfl ?_
  refine wl_nil ?_
  refine nx_then ?_
  refine gw_seq ?_
  refine gw_seq ?_
  refine gw_region ?_
  refine wl_ov (ov_move rfl) rfl ?_
  refine wl_callv (v := .int .i64 LE) rfl cb24 rfl rfl (fun wx hm => (by rw [hLE]; exact linesFault_any ls A2 n2 c2 wx (hm.fact 0 rfl) hlo (by omega))) ?_
  refine wl_ov (ov_neq rfl rfl) rfl ?_
  refine wl_nil ?_
  refine nx_then ?_
  refine gw_cond rfl (fun hh => ?_) (fun hh => ?_)
  · have hE : ¬ (LE = 0) := by simpa using hh
    clear hh
    refine gw_seq ?_
    refine gw_region ?_
    refine wl_ov (ov_loads rz42 rfl (fun _ hm => hm.blkI 0 rfl) rfl rfl) rfl ?_
    refine wl_callv (v := .int .i64 0) rfl cb25 rfl rfl (fun wx hm => (by have h := checkDeal_any ⟨df, dk, de, dg, dh, dd, dp⟩ wx; rw [hd] at h; exact h)) ?_
    refine wl_ov (ov_eql rfl rfl) rfl ?_
    refine wl_set 27 (v' := .bool true) rfl (congrArg Value.bool (by decide)) ?_
    refine wl_ov (ov_move rfl) rfl ?_
    refine wl_guard_on rfl rfl rfl ?_
    refine wl_callv rfl cb17 rfl rfl (fun wx hm => (ready_any wx)) ?_
    refine wl_ov (ov_pick_t rfl rfl) rfl ?_
    refine wl_ov (ov_assign rfl) rfl ?_
    refine wl_nil ?_
    refine nx_then ?_
    refine gw_ret ?_
    refine nx_then_ret ?_
    refine nx_ret1 rfl rfl fun wx hm => ?_
    exact ⟨rfl, law_end hg1 hsb hm.g⟩
  · have hE : LE = 0 := by simpa using hh
    clear hh
    refine gw_skip ?_
    refine nx_then ?_
    refine gw_seq ?_
    refine gw_region ?_
    have hle : linesE ls = 0 := hLE.symm.trans hE
    have hlb := (linesE_ok hle).2
    have hsum := sumBy_bound (l := ls) (f := centsOf) (a := -1000000000) (b := 1000000000) hlb
    have hll := (linesE_ok hle).1
    rw [← hSM] at hsum
    have hs0 : -1000000000000 ≤ SM := by omega
    have hs1 : SM ≤ 1000000000000 := by omega
    clear hsum
    obtain ⟨hd0, hd1⟩ := deal_last hd
    refine wl_ov (ov_loads rz42 rfl (fun _ hm => hm.blkI 0 rfl) rfl rfl) rfl ?_
    refine wl_ov (ov_move rfl) rfl ?_
    refine wl_ov (ov_move rfl) rfl ?_
    refine wl_callx (γ := Int × Int) (val := (fun (g : Int × Int) => .tuple #[.int .i64 g.1, .int .i64 g.2, .int .i64 0])) (φ := (fun (g : Int × Int) => g.1 - g.2 = v3 + dp - SM ∧ (g.1 = 0 ∨ g.2 = 0) ∧ 0 ≤ g.1 ∧ 0 ≤ g.2 ∧ g.1 ≤ 10000000000000 ∧ g.2 ≤ 10000000000000)) (Y := (fun (g : Int × Int) => fun _ => True)) rfl cb26 rfl rfl (fun wx hm => (settle_right df dk de dg dh dd dp ls A2 n2 c2 v3 wx hd hle (by omega) (by omega) (hm.fact 0 rfl) hlo (by omega)).mono fun _ _ ⟨bk, du, he, h1, h2, h3, h4, h5, h6, hg⟩ => ⟨(bk, du), he, ⟨by rw [hSM]; exact h1, h2, h3, h4, h5, h6⟩, hg, trivial⟩) (fun _ => Lasts2.true_) ?_
    rintro ⟨bk, du⟩ hR3
    dsimp only at hR3 ⊢
    obtain ⟨h1, h2, h3, h4, h5, h6⟩ := hR3
    refine wl_ov (ov_move rfl) rfl ?_
    refine wl_ov (ov_extract rfl rfl) rfl ?_
    refine wl_ov (ov_extract rfl rfl) rfl ?_
    refine wl_ov (ov_extract rfl rfl) rfl ?_
    refine wl_ov (ov_assign rfl) rfl ?_
    refine wl_ov (ov_assign rfl) rfl ?_
    refine wl_ov (ov_assign rfl) rfl ?_
    refine wl_nil ?_
    refine nx_then ?_
    refine gw_seq ?_
    refine gw_region ?_
    refine wl_ov (ov_move rfl) rfl ?_
    refine wl_callv (v := .tuple #[.int .i64 SM, .int .i64 0]) rfl cb27 rfl rfl (fun wx hm => (by have h := total_any ls A2 n2 c2 wx (hm.fact 1 rfl) hlo (by omega); unfold totalV at h; rw [if_pos hle, hle, ← hSM] at h; exact h)) ?_
    refine wl_ov (ov_move rfl) rfl ?_
    refine wl_ov (ov_extract rfl rfl) rfl ?_
    refine wl_ov (ov_extract rfl rfl) rfl ?_
    refine wl_ov (ov_assign rfl) rfl ?_
    refine wl_ov (ov_assign rfl) rfl ?_
    refine wl_nil ?_
    refine nx_then ?_
    refine gw_seq ?_
    refine gw_region ?_
    refine wl_ov (ov_move rfl) rfl ?_
    refine wl_ov (ov_eql rfl rfl) rfl ?_
    refine wl_set 45 (v' := .bool true) rfl (congrArg Value.bool (by decide)) ?_
    refine wl_ov (ov_move rfl) rfl ?_
    refine wl_guard_on rfl rfl rfl ?_
    refine wl_ov (ov_move rfl) rfl ?_
    refine wl_guard_on rfl rfl rfl ?_
    refine wl_ov (ov_eql rfl rfl) rfl ?_
    refine wl_set 48 (v' := .bool true) rfl (congrArg Value.bool (by decide)) ?_
    refine wl_ov (ov_pick_t rfl rfl) rfl ?_
    refine wl_ov (ov_move rfl) rfl ?_
    refine wl_guard_on rfl rfl rfl ?_
    refine wl_ov (ov_move rfl) rfl ?_
    refine wl_guard_on rfl rfl rfl ?_
    refine wl_ov (ov_move rfl) rfl ?_
    refine wl_guard_on rfl rfl rfl ?_
    refine wl_ov (ov_sub rfl rfl (by omega) (by omega)) rfl ?_
    refine wl_guard_on rfl rfl rfl ?_
    refine wl_ov (ov_move rfl) rfl ?_
    refine wl_guard_on rfl rfl rfl ?_
    refine wl_ov (ov_field fo42_6 rfl rfl) rfl ?_
    refine wl_guard_on rfl rfl rfl ?_
    refine wl_ov (ov_load sc3 rfl (fun _ hm => hm.blkI 0 rfl) rfl) rfl ?_
    refine wl_guard_on rfl rfl rfl ?_
    refine wl_ov (ov_add rfl rfl (by omega) (by omega)) rfl ?_
    refine wl_guard_on rfl rfl rfl ?_
    refine wl_ov (ov_move rfl) rfl ?_
    refine wl_guard_on rfl rfl rfl ?_
    refine wl_ov (ov_sub rfl rfl (by omega) (by omega)) rfl ?_
    refine wl_guard_on rfl rfl rfl ?_
    refine wl_ov (ov_eql rfl rfl) rfl ?_
    refine wl_set 60 (v' := .bool true) rfl (congrArg Value.bool (decide_eq_true h1)) ?_
    refine wl_ov (ov_pick_t rfl rfl) rfl ?_
    refine wl_ov (ov_move rfl) rfl ?_
    refine wl_guard_on rfl rfl rfl ?_
    refine wl_ov (ov_move rfl) rfl ?_
    refine wl_guard_on rfl rfl rfl ?_
    refine wl_ov (ov_eql rfl rfl) rfl ?_
    refine wl_guard_on rfl rfl rfl ?_
    refine wl_ov (ov_move rfl) rfl ?_
    rcases Bool.eq_false_or_eq_true (decide (bk = 0)) with hz | hz
    · refine wl_set 65 rfl (congrArg Value.bool hz) ?_
      refine wl_guard_off rfl rfl rfl (by decide) rfl ?_
      refine wl_guard_off rfl rfl rfl (by decide) rfl ?_
      refine wl_guard_on rfl rfl rfl ?_
      refine wl_ov (ov_pick_t rfl rfl) rfl ?_
      refine wl_ov (ov_pick_t rfl rfl) rfl ?_
      refine wl_ov (ov_move rfl) rfl ?_
      refine wl_guard_on rfl rfl rfl ?_
      refine wl_ov (ov_move rfl) rfl ?_
      refine wl_guard_on rfl rfl rfl ?_
      refine wl_ov (ov_geq rfl rfl) rfl ?_
      refine wl_set 72 (v' := .bool true) rfl (congrArg Value.bool (decide_eq_true h3)) ?_
      refine wl_ov (ov_pick_t rfl rfl) rfl ?_
      refine wl_ov (ov_move rfl) rfl ?_
      refine wl_guard_on rfl rfl rfl ?_
      refine wl_ov (ov_move rfl) rfl ?_
      refine wl_guard_on rfl rfl rfl ?_
      refine wl_ov (ov_geq rfl rfl) rfl ?_
      refine wl_set 76 (v' := .bool true) rfl (congrArg Value.bool (decide_eq_true h4)) ?_
      refine wl_ov (ov_pick_t rfl rfl) rfl ?_
      refine wl_ov (ov_move rfl) rfl ?_
      refine wl_guard_on rfl rfl rfl ?_
      refine wl_callv rfl cb17 rfl rfl (fun wx hm => (ready_any wx)) ?_
      refine wl_ov (ov_pick_t rfl rfl) rfl ?_
      refine wl_ov (ov_assign rfl) rfl ?_
      refine wl_nil ?_
      refine nx_then ?_
      refine gw_ret ?_
      refine nx_ret1 rfl rfl fun wx hm => ?_
      exact ⟨rfl, law_end hg1 hsb hm.g⟩
    · refine wl_set 65 rfl (congrArg Value.bool hz) ?_
      have hz2 : du = 0 := h2.resolve_left (of_decide_eq_false hz)
      refine wl_guard_on rfl rfl rfl ?_
      refine wl_ov (ov_move rfl) rfl ?_
      refine wl_guard_on rfl rfl rfl ?_
      refine wl_ov (ov_eql rfl rfl) rfl ?_
      refine wl_set 67 (v' := .bool true) rfl (congrArg Value.bool (decide_eq_true hz2)) ?_
      refine wl_guard_on rfl rfl rfl ?_
      refine wl_ov (ov_pick_f rfl rfl) rfl ?_
      refine wl_ov (ov_pick_t rfl rfl) rfl ?_
      refine wl_ov (ov_move rfl) rfl ?_
      refine wl_guard_on rfl rfl rfl ?_
      refine wl_ov (ov_move rfl) rfl ?_
      refine wl_guard_on rfl rfl rfl ?_
      refine wl_ov (ov_geq rfl rfl) rfl ?_
      refine wl_set 72 (v' := .bool true) rfl (congrArg Value.bool (decide_eq_true h3)) ?_
      refine wl_ov (ov_pick_t rfl rfl) rfl ?_
      refine wl_ov (ov_move rfl) rfl ?_
      refine wl_guard_on rfl rfl rfl ?_
      refine wl_ov (ov_move rfl) rfl ?_
      refine wl_guard_on rfl rfl rfl ?_
      refine wl_ov (ov_geq rfl rfl) rfl ?_
      refine wl_set 76 (v' := .bool true) rfl (congrArg Value.bool (decide_eq_true h4)) ?_
      refine wl_ov (ov_pick_t rfl rfl) rfl ?_
      refine wl_ov (ov_move rfl) rfl ?_
      refine wl_guard_on rfl rfl rfl ?_
      refine wl_callv rfl cb17 rfl rfl (fun wx hm => (ready_any wx)) ?_
      refine wl_ov (ov_pick_t rfl rfl) rfl ?_
      refine wl_ov (ov_assign rfl) rfl ?_
      refine wl_nil ?_
      refine nx_then ?_
      refine gw_ret ?_
      refine nx_ret1 rfl rfl fun wx hm => ?_
      exact ⟨rfl, law_end hg1 hsb hm.g⟩

end Go.Proofs.YtmpomocahgcebaaDoor
