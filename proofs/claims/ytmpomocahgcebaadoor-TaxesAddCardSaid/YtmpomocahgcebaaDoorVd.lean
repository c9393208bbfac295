/- The walk of the law TaxesAdd. -/
import Derived.Test.YtmpomocahgcebaaDoorVb
import Derived.Test.YtmpomocahgcebaaDoorVc
import Derived.Test.YtmpomocahgcebaaDoorTm
namespace Go.Proofs.YtmpomocahgcebaaDoor
open Go.RowKit

def tlE (l : List Tx) (ls : List Ln) : Int := firstE [taxesE l, linesE ls, whenE (ls.any isTax) 4]
theorem tlE_ok {l : List Tx} {ls : List Ln} (h : tlE l ls = 0) : taxesE l = 0 ∧ linesE ls = 0 := by
  have hz := fe_all h
  exact ⟨hz _ (by simp), hz _ (by simp)⟩
theorem tlE_two {l : List Tx} {ls : List Ln} (h : firstE [taxesE l, linesE ls] ≠ 0) : tlE l ls = firstE [taxesE l, linesE ls] := by
  unfold tlE
  simp only [firstE] at h ⊢
  by_cases h1 : taxesE l = 0
  · by_cases h2 : linesE ls = 0
    · simp [h1, h2] at h
    · simp [h1, h2]
  · simp [h1]
theorem tlE_has {l : List Tx} {ls : List Ln} (h : firstE [taxesE l, linesE ls] = 0) : tlE l ls = whenE (ls.any isTax) 4 := by
  have hz := fe_all h
  have h1 := hz (taxesE l) (by simp)
  have h2 := hz (linesE ls) (by simp)
  unfold tlE
  simp only [firstE, h1, h2]
  cases ls.any isTax <;> simp [whenE]

set_option maxRecDepth 100000 in
set_option maxHeartbeats 400000 in
theorem taxLines_any (l : List Tx) (A : Option Addr) (n c0 : Nat) (ls : List Ln) (A2 : Option Addr) (n2 c2 : Nat) (w : World) (hl : SlT txEnc 4 205 w A n l) (hg : Ons l w) (hok : ∀ x ∈ l, TxOk x) (hn : n ≤ 3) (hnc : n ≤ c0) (hs : SlT lnEnc 3 133 w A2 n2 ls) (hlo : ∀ x ∈ ls, LnOk x) (hn2 : n2 ≤ 200) :
    Calls Tryd.prog 77 #[.slice A n c0, .slice A2 n2 c2] w (fun e w' => ∃ A3 n3 c3, e = .returned (.tuple #[.slice A3 n3 c3, .int .i64 (tlE l ls)]) ∧ (tlE l ls = 0 → SlT lnEnc 3 133 w' A3 n3 (taxesV ls [] l)) ∧ (tlE l ls ≠ 0 → n3 = 0) ∧ n3 ≤ 3 ∧ w.grownBy w' none) := by
  refine gw_enter ⟨21, w, none, [133]⟩ Tryd.func77 rfl Tryd.ntmps77 rfl (mem0 (X := [SlOld txEnc 4 205 w.heap.size none A n l, OnsOld w.heap.size none l, SlOld lnEnc 3 133 w.heap.size none A2 n2 ls]) (allF_cons hl.old (allF_cons hg.old (allF_cons hs.old allF_nil))) (allL_cons SlOld.lasts (allL_cons OnsOld.lasts (allL_cons SlOld.lasts allL_nil)))) ?_
  refine gw_seq ?_
  refine gw_region ?_
  obtain ⟨TE, hTE⟩ : ∃ E, E = taxesE l := ⟨_, rfl⟩
  obtain ⟨LE, hLE⟩ : ∃ E, E = linesE ls := ⟨_, rfl⟩
  obtain ⟨HT, hHT⟩ : ∃ E, E = ls.any isTax := ⟨_, rfl⟩
  refine wl_ov (ov_assign rfl) rfl ?_
  refine wl_ov (ov_assign rfl) rfl ?_
  refine wl_nil ?_
  refine nx_then ?_
  refine gw_seq ?_
  refine gw_seq ?_
  refine gw_region ?_
  refine wl_ov (ov_move rfl) rfl ?_
  refine wl_callv (v := .int .i64 TE) rfl cb79 rfl rfl (fun wx hm => (by rw [hTE]; exact checkTaxes_any l A n c0 wx (hm.fact 0 rfl).1 (OnsOld.ons (hm.fact 1 rfl)) hok (by omega) hnc)) ?_
  refine wl_ov (ov_move rfl) rfl ?_
  refine wl_callv (v := .int .i64 LE) rfl cb80 rfl rfl (fun wx hm => (by rw [hLE]; exact checkLines_any ls A2 n2 c2 wx (hm.fact 2 rfl).1 hlo (by omega))) ?_
  refine wl_buildSlice (e := 29) (cs := [.int .i64 TE, .int .i64 LE]) rfl (by kernel_rfl) rfl fun g1 => ?_
  refine wl_callw rfl cb97 rfl rfl (fun wx hm => (first_any [TE, LE] _ _ _ wx (hm.blkI 0 rfl) (by simp))) ?_
  refine wl_ov (ov_assign rfl) rfl ?_
  refine wl_nil ?_
  refine nx_then ?_
  refine gw_seq ?_
  refine gw_region ?_
  refine wl_ov (ov_move rfl) rfl ?_
  refine wl_ov (ov_neq rfl rfl) rfl ?_
  refine wl_nil ?_
  refine nx_then ?_
  refine gw_cond rfl (fun hh => ?_) (fun hh => ?_)
  · have h1 : ¬ (firstE [TE, LE] = 0) := by simpa using hh
    clear hh
    refine gw_seq ?_
    refine gw_region ?_
    refine wl_ov (ov_move rfl) rfl ?_
    refine wl_ov (ov_assign rfl) rfl ?_
    refine wl_ov (ov_assign rfl) rfl ?_
    refine wl_nil ?_
    refine nx_then ?_
    refine gw_ret ?_
    refine nx_then_ret ?_
    have h2 : tlE l ls = firstE [TE, LE] := by rw [hTE, hLE] at h1 ⊢; exact tlE_two h1
    refine nx_ret2 rfl rfl rfl fun wx hm => ?_
    exact ⟨none, 0, 0, by rw [h2], fun h => absurd (h2.symm.trans h) h1, fun _ => rfl, by omega, hm.g⟩
  · have h1 : firstE [TE, LE] = 0 := by simpa using hh
    clear hh
    refine gw_skip ?_
    refine nx_then ?_
    refine gw_seq ?_
    refine gw_seq ?_
    refine gw_region ?_
    have h2 : tlE l ls = whenE HT 4 := by rw [hTE, hLE] at h1; rw [hHT]; exact tlE_has h1
    refine wl_ov (ov_move rfl) rfl ?_
    refine wl_callv (v := .bool HT) rfl cb82 rfl rfl (fun wx hm => (by rw [hHT]; exact hasTaxLine_c ls A2 n2 c2 wx (hm.fact 2 rfl).1 (by omega))) ?_
    refine wl_nil ?_
    refine nx_then ?_
    refine gw_cond rfl (fun hh => ?_) (fun hh => ?_)
    · have h3 : HT = true := by simpa using hh
      clear hh
      refine gw_seq ?_
      refine gw_region ?_
      refine wl_ov (ov_assign rfl) rfl ?_
      refine wl_ov (ov_assign rfl) rfl ?_
      refine wl_nil ?_
      refine nx_then ?_
      refine gw_ret ?_
      refine nx_then_ret ?_
      refine nx_ret2 rfl rfl rfl fun wx hm => ?_
      exact ⟨none, 0, 0, by rw [h2, h3]; rfl, fun h => by (rw [h2, h3] at h; cases h), fun _ => rfl, by omega, hm.g⟩
    · have h3 : HT = false := by simpa using hh
      clear hh
      refine gw_skip ?_
      refine nx_then ?_
      refine gw_seq ?_
      refine gw_region ?_
      have h4 : tlE l ls = 0 := by rw [h2, h3]; rfl
      obtain ⟨h5, h6⟩ := tlE_ok h4
      refine wl_ov (ov_move rfl) rfl ?_
      refine wl_ov (ov_move rfl) rfl ?_
      refine wl_callx (γ := Option Addr × Nat × Nat) (val := (fun (g : Option Addr × Nat × Nat) => .slice g.1 g.2.1 g.2.2)) (φ := (fun (g : Option Addr × Nat × Nat) => g.2.1 ≤ 3)) (Y := (fun (g : Option Addr × Nat × Nat) => fun wy => SlT lnEnc 3 133 wy g.1 g.2.1 (taxesV ls [] l))) rfl cb136 rfl rfl (fun wx hm => (taxes_any l A n c0 ls A2 n2 c2 wx (hm.fact 0 rfl).1 (OnsOld.ons (hm.fact 1 rfl)) hok hn (hm.fact 2 rfl).1 hn2 (taxesE_mille h5).2 (linesE_ok h6).2).mono fun _ _ ⟨A3, n3, c3, he, hs, hn, hg⟩ => ⟨(A3, n3, c3), he, hn, hg, hs⟩) (fun _ => SlT.lasts2 rfl) ?_
      rintro ⟨A3, n3, c3⟩ hn3
      dsimp only at hn3 ⊢
      refine wl_ov (ov_assign rfl) rfl ?_
      refine wl_ov (ov_assign rfl) rfl ?_
      refine wl_nil ?_
      refine nx_then ?_
      refine gw_ret ?_
      refine nx_ret2 rfl rfl rfl fun wx hm => ?_
      exact ⟨A3, n3, c3, by rw [h4], fun _ => (hm.fact 0 rfl), fun h => absurd h4 h, hn3, hm.g⟩

theorem lasts_imp {N : Nat} {row : Option Nat} {Tt : List TypeId} {p : Prop} {Y : World → Prop} (h : p → Lasts2 N row Tt Y) : Lasts2 N row Tt (fun w => p → Y w) :=
  ⟨fun w w' g x hp => (h hp).gr w w' g (x hp), fun w w' r T c h1 h2 h3 h4 x hp => (h hp).st w w' r T c h1 h2 h3 h4 (x hp)⟩
set_option maxRecDepth 100000 in
set_option maxHeartbeats 2000000 in
theorem taxes_walk (a0 : Option Addr) (len0 cap0 : Nat) (z0 : List Int) (w : World) (hR : RowIn w a0 len0 cap0 z0) :
    Calls Tryd.prog 12 #[.slice a0 len0 cap0] w fun e w' => e = .returned (.bool true) ∧ Below w.heap.size w w' := by
  refine gw_enter ⟨102, w, none, []⟩ Tryd.func12 rfl Tryd.ntmps12 rfl (mem0 (X := []) allF_nil allL_nil) ?_
  refine gw_seq ?_
  refine gw_region ?_
  refine wl_ov (ov_assign rfl) rfl ?_
  refine wl_nil ?_
  refine nx_then ?_
  refine gw_seq ?_
  refine gw_region ?_
  refine wl_ov (ov_move rfl) rfl ?_
  refine wl_ov (ov_build (cs := [.slice a0 len0 cap0, .int .i64 0]) rfl (by kernel_rfl)) rfl ?_
  refine wl_box rfl rfl rfl fun sb => ?_
  refine wl_ov (ov_assign rfl) rfl ?_
  refine wl_nil ?_
  refine nx_then ?_
  refine gw_seq ?_
  refine gw_region ?_
  refine wl_ov (ov_move rfl) rfl ?_
  refine wl_law [205, 3, 133] hR 0 rfl fun w1 B hg1 hsb => ?_
  refine wl_calls (γ := Option Addr × Nat × Nat × List Tx) (val := (fun (g : Option Addr × Nat × Nat × List Tx) => .slice g.1 g.2.1 g.2.2.1)) (φ := (fun (g : Option Addr × Nat × Nat × List Tx) => (∀ x ∈ g.2.2.2, TxOk x) ∧ g.2.1 ≤ 3 ∧ g.2.1 ≤ g.2.2.1)) (Y := (fun (g : Option Addr × Nat × Nat × List Tx) => fun wy => SlT txEnc 4 205 wy g.1 g.2.1 g.2.2.2 ∧ Ons g.2.2.2 wy)) (m' := 0 + 400) rfl cb76 rfl rfl rfl rfl (fun wx hm => (gtaxes_any wx B sb _ hm.k (by omega)).mono fun _ _ ⟨A, n, c0, l, he, hsl, hons, hok, hn, hnc, hS, hg⟩ => ⟨(A, n, c0, l), he, ⟨hok, hn, hnc⟩, hS, hg, hsl, hons⟩) (fun _ => (SlT.lasts2 rfl).and_ (Ons.lasts rfl)) ?_
  rintro ⟨A, n, c0, l⟩ hR1
  dsimp only at hR1 ⊢
  obtain ⟨hok, hn3, hnc⟩ := hR1
  refine wl_ov (ov_move rfl) rfl ?_
  refine wl_calls (γ := Option Addr × Nat × Nat × List Ln) (val := (fun (g : Option Addr × Nat × Nat × List Ln) => .slice g.1 g.2.1 g.2.2.1)) (φ := (fun (g : Option Addr × Nat × Nat × List Ln) => (∀ x ∈ g.2.2.2, LnOk x) ∧ g.2.1 ≤ 6)) (Y := (fun (g : Option Addr × Nat × Nat × List Ln) => fun wy => SlT lnEnc 3 133 wy g.1 g.2.1 g.2.2.2)) (m' := 0 + 400 + 200) rfl cb22 rfl rfl rfl rfl (fun wx hm => (billLines_any wx B sb _ hm.k (by omega)).mono fun _ _ ⟨A2, n2, c2, ls, he, hsl, hok, hn, _, hS, hg⟩ => ⟨(A2, n2, c2, ls), he, ⟨hok, hn⟩, hS, hg, hsl⟩) (fun _ => SlT.lasts2 rfl) ?_
  rintro ⟨A2, n2, c2, ls⟩ hR2
  dsimp only at hR2 ⊢
  obtain ⟨hlo, hn6⟩ := hR2
  refine wl_ov (ov_assign rfl) rfl ?_
  refine wl_ov (ov_assign rfl) rfl ?_
  refine wl_nil ?_
  refine nx_then ?_
  refine gw_seq ?_
  refine gw_region ?_
  refine wl_ov (ov_move rfl) rfl ?_
  refine wl_ov (ov_move rfl) rfl ?_
  refine wl_nest none [133] fun w2 hm_w2 => ⟨_, _, _, _, mem0 (X := [SlOld txEnc 4 205 w2.heap.size none A n l, OnsOld w2.heap.size none l, SlOld lnEnc 3 133 w2.heap.size none A2 n2 ls]) (allF_cons (SlT.old (hm_w2.fact 1 rfl).1) (allF_cons (Ons.old (hm_w2.fact 1 rfl).2) (allF_cons (SlT.old (hm_w2.fact 0 rfl)) allF_nil))) (allL_cons SlOld.lasts (allL_cons OnsOld.lasts (allL_cons SlOld.lasts allL_nil))), ?_⟩
  obtain ⟨TE, hTE⟩ : ∃ E, E = taxesE l := ⟨_, rfl⟩
  obtain ⟨LE, hLE⟩ : ∃ E, E = linesE ls := ⟨_, rfl⟩
  obtain ⟨HT, hHT⟩ : ∃ E, E = ls.any isTax := ⟨_, rfl⟩
  obtain ⟨NV, hNV⟩ : ∃ E, E = totalV ls := ⟨_, rfl⟩
  have hXE : tlE l ls = firstE [TE, LE, whenE HT 4] := by rw [hTE, hLE, hHT]; rfl
  refine wl_callx (γ := Option Addr × Nat × Nat) (val := (fun (g : Option Addr × Nat × Nat) => .tuple #[.slice g.1 g.2.1 g.2.2, .int .i64 (firstE [TE, LE, whenE HT 4])])) (φ := (fun (g : Option Addr × Nat × Nat) => (firstE [TE, LE, whenE HT 4] ≠ 0 → g.2.1 = 0) ∧ g.2.1 ≤ 3)) (Y := (fun (g : Option Addr × Nat × Nat) => fun wy => (firstE [TE, LE, whenE HT 4] = 0 → SlT lnEnc 3 133 wy g.1 g.2.1 (taxesV ls [] l)))) rfl cb77 rfl rfl (fun wx hm => (by have h := taxLines_any l A n c0 ls A2 n2 c2 wx (hm.fact 0 rfl).1 (OnsOld.ons (hm.fact 1 rfl)) hok hn3 hnc (hm.fact 2 rfl).1 hlo (by omega); rw [hXE] at h; exact h.mono fun _ _ ⟨A3, n3, c3, he, hs, hz, hn, hg⟩ => ⟨(A3, n3, c3), he, ⟨hz, hn⟩, hg, hs⟩)) (fun _ => lasts_imp fun _ => SlT.lasts2 rfl) ?_
  rintro ⟨A3, n3, c3⟩ hn3b
  dsimp only at hn3b ⊢
  refine wl_ov (ov_move rfl) rfl ?_
  refine wl_ov (ov_extract rfl rfl) rfl ?_
  refine wl_ov (ov_extract rfl rfl) rfl ?_
  refine wl_ov (ov_assign rfl) rfl ?_
  refine wl_ov (ov_assign rfl) rfl ?_
  refine wl_nil ?_
  refine nx_then ?_
  refine gw_seq ?_
  refine gw_region ?_
  refine wl_ov (ov_move rfl) rfl ?_
  refine wl_callv (v := .tuple #[.int .i64 NV, .int .i64 LE]) rfl cb27 rfl rfl (fun wx hm => (by rw [hNV, hLE]; exact total_any ls A2 n2 c2 wx (hm.fact 3 rfl).1 hlo (by omega))) ?_
  refine wl_ov (ov_move rfl) rfl ?_
  refine wl_ov (ov_extract rfl rfl) rfl ?_
  refine wl_ov (ov_extract rfl rfl) rfl ?_
  refine wl_ov (ov_assign rfl) rfl ?_
  refine wl_ov (ov_assign rfl) rfl ?_
  refine wl_nil ?_
  refine nx_then ?_
  refine gw_seq ?_
  refine gw_region ?_
  refine wl_ov (ov_move rfl) rfl ?_
  refine wl_callv (v := .int .i64 TE) rfl cb78 rfl rfl (fun wx hm => (by rw [hTE]; exact taxesFault_any l A n c0 wx (hm.fact 1 rfl).1 (OnsOld.ons (hm.fact 2 rfl)) hok (by omega) hnc)) ?_
  refine wl_ov (ov_move rfl) rfl ?_
  refine wl_callv (v := .int .i64 LE) rfl cb24 rfl rfl (fun wx hm => (by rw [hLE]; exact linesFault_any ls A2 n2 c2 wx (hm.fact 3 rfl).1 hlo (by omega))) ?_
  by_cases hL : LE = 0
  · subst hL
    obtain rfl : NV = sumBy centsOf ls := by rw [hNV]; unfold totalV; rw [if_pos hLE.symm]
    have hlb := (linesE_ok hLE.symm).2
    refine wl_ov (ov_assign rfl) rfl ?_
    refine wl_ov (ov_assign rfl) rfl ?_
    refine wl_nil ?_
    refine nx_then ?_
    refine gw_seq ?_
    refine gw_seq ?_
    refine gw_region ?_
    refine wl_ov (ov_move rfl) rfl ?_
    refine wl_callv (v := .int .i64 TE) rfl cb79 rfl rfl (fun wx hm => (by rw [hTE]; exact checkTaxes_any l A n c0 wx (hm.fact 1 rfl).1 (OnsOld.ons (hm.fact 2 rfl)) hok (by omega) hnc)) ?_
    refine wl_ov (ov_move rfl) rfl ?_
    refine wl_ov (ov_neq rfl rfl) rfl ?_
    refine wl_set 39 (v' := .bool false) rfl (congrArg Value.bool (by simp)) ?_
    refine wl_ov (ov_move rfl) rfl ?_
    refine wl_guard_on rfl rfl rfl ?_
    refine wl_ov (ov_move rfl) rfl ?_
    refine wl_guard_on rfl rfl rfl ?_
    refine wl_callv (v := .int .i64 0) rfl cb80 rfl rfl (fun wx hm => (by rw [hLE]; exact checkLines_any ls A2 n2 c2 wx (hm.fact 3 rfl).1 hlo (by omega))) ?_
    refine wl_guard_on rfl rfl rfl ?_
    refine wl_ov (ov_move rfl) rfl ?_
    refine wl_guard_on rfl rfl rfl ?_
    refine wl_ov (ov_neq rfl rfl) rfl ?_
    refine wl_set 44 (v' := .bool false) rfl (congrArg Value.bool (by decide)) ?_
    refine wl_ov (ov_pick_f rfl rfl) rfl ?_
    refine wl_ov (ov_move rfl) rfl ?_
    refine wl_guard_on rfl rfl rfl ?_
    refine wl_ov (ov_move rfl) rfl ?_
    refine wl_guard_on rfl rfl rfl ?_
    refine wl_ov (ov_move rfl) rfl ?_
    refine wl_guard_on rfl rfl rfl ?_
    refine wl_ov (ov_neq rfl rfl) rfl ?_
    refine wl_set 49 (v' := .bool false) rfl (congrArg Value.bool (by decide)) ?_
    refine wl_ov (ov_pick_f rfl rfl) rfl ?_
    refine wl_ov (ov_move rfl) rfl ?_
    refine wl_guard_on rfl rfl rfl ?_
    refine wl_ov (ov_move rfl) rfl ?_
    refine wl_guard_on rfl rfl rfl ?_
    refine wl_ov (ov_eql rfl rfl) rfl ?_
    refine wl_set 53 (v' := .bool true) rfl (congrArg Value.bool (by decide)) ?_
    refine wl_guard_on rfl rfl rfl ?_
    refine wl_ov (ov_move rfl) rfl ?_
    refine wl_guard_on rfl rfl rfl ?_
    refine wl_ov (ov_move rfl) rfl ?_
    refine wl_guard_on rfl rfl rfl ?_
    refine wl_ov (ov_move rfl) rfl ?_
    refine wl_guard_on rfl rfl rfl ?_
    refine wl_callv rfl cb81 rfl rfl (fun wx hm => (sumOf_any ls A2 n2 c2 wx (hm.fact 3 rfl).1 (fun x hx => by have := hlb x hx; omega) (by omega))) ?_
    refine wl_guard_on rfl rfl rfl ?_
    refine wl_ov (ov_neq rfl rfl) rfl ?_
    refine wl_set 58 (v' := .bool false) rfl (congrArg Value.bool (by simp)) ?_
    refine wl_guard_on rfl rfl rfl ?_
    refine wl_ov (ov_pick_t rfl rfl) rfl ?_
    refine wl_ov (ov_pick_f rfl rfl) rfl ?_
    refine wl_ov (ov_move rfl) rfl ?_
    refine wl_guard_on rfl rfl rfl ?_
    refine wl_ov (ov_move rfl) rfl ?_
    refine wl_guard_on rfl rfl rfl ?_
    refine wl_ov (ov_neq rfl rfl) rfl ?_
    refine wl_set 63 (v' := .bool false) rfl (congrArg Value.bool (by decide)) ?_
    refine wl_guard_on rfl rfl rfl ?_
    refine wl_ov (ov_move rfl) rfl ?_
    refine wl_guard_off rfl rfl rfl (by decide) rfl ?_
    refine wl_guard_off rfl rfl rfl (by decide) rfl ?_
    refine wl_guard_on rfl rfl rfl ?_
    refine wl_ov (ov_pick_f rfl rfl) rfl ?_
    refine wl_ov (ov_pick_f rfl rfl) rfl ?_
    refine wl_nil ?_
    refine nx_then ?_
    refine gw_cond rfl (fun hh => by cases hh) (fun _ => ?_)
    refine gw_skip ?_
    refine nx_then ?_
    refine gw_seq ?_
    refine gw_region ?_
    refine wl_ov (ov_move rfl) rfl ?_
    refine wl_callv (v := .bool HT) rfl cb82 rfl rfl (fun wx hm => (by rw [hHT]; exact hasTaxLine_r ls A2 n2 c2 wx (hm.fact 3 rfl).1 (by omega))) ?_
    refine wl_ov (ov_assign rfl) rfl ?_
    refine wl_nil ?_
    refine nx_then ?_
    refine gw_seq ?_
    refine gw_seq ?_
    refine gw_region ?_
    refine wl_ov (ov_move rfl) rfl ?_
    refine wl_ov (ov_move rfl) rfl ?_
    refine wl_ov (ov_move rfl) rfl ?_
    refine wl_callw rfl cb39 rfl rfl (fun wx hm => (rwhen_any _ _ wx)) ?_
    refine wl_buildSlice (e := 29) (cs := [.int .i64 TE, .int .i64 0, .int .i64 (whenE HT 4)]) rfl (by kernel_rfl) rfl fun g1 => ?_
    refine wl_callw rfl cb37 rfl rfl (fun wx hm => (errs_any [TE, 0, whenE HT 4] _ _ _ wx (hm.blkI 0 rfl) (by simp))) ?_
    refine wl_ov (ov_assign rfl) rfl ?_
    refine wl_nil ?_
    refine nx_then ?_
    refine gw_seq ?_
    refine gw_region ?_
    refine wl_ov (ov_move rfl) rfl ?_
    refine wl_ov (ov_neq rfl rfl) rfl ?_
    refine wl_nil ?_
    refine nx_then ?_
    refine gw_cond rfl (fun hh => ?_) (fun hh => ?_)
    · have hE : ¬ (firstE [TE, 0, whenE HT 4] = 0) := by simpa using hh
      clear hh
      refine gw_seq ?_
      refine gw_region ?_
      obtain rfl : n3 = 0 := hn3b.1 hE
      refine wl_ov (ov_move rfl) rfl ?_
      refine wl_ov (ov_move rfl) rfl ?_
      refine wl_ov (ov_eql rfl rfl) rfl ?_
      refine wl_set 81 (v' := .bool true) rfl (congrArg Value.bool (by simp)) ?_
      refine wl_ov (ov_move rfl) rfl ?_
      refine wl_guard_on rfl rfl rfl ?_
      refine wl_ov (ov_move rfl) rfl ?_
      refine wl_guard_on rfl rfl rfl ?_
      refine wl_ov (ov_len es44 rfl) rfl ?_
      refine wl_set 84 (v' := .int .i64 0) rfl rfl ?_
      refine wl_guard_on rfl rfl rfl ?_
      refine wl_ov (ov_eql rfl rfl) rfl ?_
      refine wl_set 85 (v' := .bool true) rfl (congrArg Value.bool (by decide)) ?_
      refine wl_ov (ov_pick_t rfl rfl) rfl ?_
      refine wl_ov (ov_move rfl) rfl ?_
      refine wl_guard_on rfl rfl rfl ?_
      refine wl_callv rfl cb41 rfl rfl (fun wx hm => (priced_any wx)) ?_
      refine wl_ov (ov_pick_t rfl rfl) rfl ?_
      refine wl_ov (ov_assign rfl) rfl ?_
      refine wl_nil ?_
      refine nx_then ?_
      refine gw_ret ?_
      refine nx_then_ret ?_
      refine nx_ret1 rfl rfl fun wx hm => ?_
      exact ⟨rfl, law_end hg1 hsb (grow_trans hm_w2.g (grow_weak hm.g))⟩
    · have hE : firstE [TE, 0, whenE HT 4] = 0 := by simpa using hh
      clear hh
      refine gw_skip ?_
      refine nx_then ?_
      refine gw_seq ?_
      refine gw_region ?_
      refine wl_ov (ov_move rfl) rfl ?_
      refine wl_ov (ov_eql rfl rfl) rfl ?_
      refine wl_set 91 (v' := .bool true) rfl (congrArg Value.bool (decide_eq_true hE)) ?_
      refine wl_ov (ov_move rfl) rfl ?_
      refine wl_guard_on rfl rfl rfl ?_
      refine wl_ov (ov_move rfl) rfl ?_
      refine wl_guard_on rfl rfl rfl ?_
      refine wl_ov (ov_move rfl) rfl ?_
      refine wl_guard_on rfl rfl rfl ?_
      refine wl_ov (ov_move rfl) rfl ?_
      refine wl_guard_on rfl rfl rfl ?_
      have hX0 : tlE l ls = 0 := hXE.trans hE
      obtain ⟨h5, h6⟩ := tlE_ok hX0
      refine wl_callx (γ := Option Addr × Nat × Nat) (val := (fun (g : Option Addr × Nat × Nat) => .slice g.1 g.2.1 g.2.2)) (φ := (fun (g : Option Addr × Nat × Nat) => g.2.1 ≤ 3)) (Y := (fun (g : Option Addr × Nat × Nat) => fun wy => SlT lnEnc 3 133 wy g.1 g.2.1 (taxesV ls [] l))) rfl cb85 rfl rfl (fun wx hm => (taxesOf_any l A n c0 ls A2 n2 c2 wx (hm.fact 1 rfl).1 (OnsOld.ons (hm.fact 2 rfl)) hok hn3 (hm.fact 3 rfl).1 (by omega) (taxesE_mille h5).2 (linesE_ok h6).2).mono fun _ _ ⟨A4, n4, c4, he, hs, hn, hg⟩ => ⟨(A4, n4, c4), he, hn, hg, hs⟩) (fun _ => SlT.lasts2 rfl) ?_
      rintro ⟨A4, n4, c4⟩ hn4
      dsimp only at hn4 ⊢
      refine wl_look (R := n4 = n3) (fun wx hm => ((hm.fact 0 rfl)).len.symm.trans ((hm.fact 1 rfl) hE).len) ?_
      intro hn43
      subst hn43
      refine wl_guard_on rfl rfl rfl ?_
      refine wl_callv rfl cb84 rfl rfl (fun wx hm => (equal_line_any (taxesV ls [] l) A3 A4 n4 c3 c4 wx ((hm.fact 1 rfl) hE) (hm.fact 0 rfl) (by omega))) ?_
      refine wl_ov (ov_pick_t rfl rfl) rfl ?_
      refine wl_ov (ov_move rfl) rfl ?_
      refine wl_guard_on rfl rfl rfl ?_
      refine wl_callv rfl cb41 rfl rfl (fun wx hm => (priced_any wx)) ?_
      refine wl_ov (ov_pick_t rfl rfl) rfl ?_
      refine wl_ov (ov_assign rfl) rfl ?_
      refine wl_nil ?_
      refine nx_then ?_
      refine gw_ret ?_
      refine nx_ret1 rfl rfl fun wx hm => ?_
      exact ⟨rfl, law_end hg1 hsb (grow_trans hm_w2.g (grow_weak hm.g))⟩
  · obtain rfl : NV = 0 := by rw [hNV]; unfold totalV; rw [if_neg (fun h => hL (hLE.trans h))]
    refine wl_ov (ov_assign rfl) rfl ?_
    refine wl_ov (ov_assign rfl) rfl ?_
    refine wl_nil ?_
    refine nx_then ?_
    refine gw_seq ?_
    refine gw_seq ?_
    refine gw_region ?_
    refine wl_ov (ov_move rfl) rfl ?_
    refine wl_callv (v := .int .i64 TE) rfl cb79 rfl rfl (fun wx hm => (by rw [hTE]; exact checkTaxes_any l A n c0 wx (hm.fact 1 rfl).1 (OnsOld.ons (hm.fact 2 rfl)) hok (by omega) hnc)) ?_
    refine wl_ov (ov_move rfl) rfl ?_
    refine wl_ov (ov_neq rfl rfl) rfl ?_
    refine wl_set 39 (v' := .bool false) rfl (congrArg Value.bool (by simp)) ?_
    refine wl_ov (ov_move rfl) rfl ?_
    refine wl_guard_on rfl rfl rfl ?_
    refine wl_ov (ov_move rfl) rfl ?_
    refine wl_guard_on rfl rfl rfl ?_
    refine wl_callv (v := .int .i64 LE) rfl cb80 rfl rfl (fun wx hm => (by rw [hLE]; exact checkLines_any ls A2 n2 c2 wx (hm.fact 3 rfl).1 hlo (by omega))) ?_
    refine wl_guard_on rfl rfl rfl ?_
    refine wl_ov (ov_move rfl) rfl ?_
    refine wl_guard_on rfl rfl rfl ?_
    refine wl_ov (ov_neq rfl rfl) rfl ?_
    refine wl_set 44 (v' := .bool false) rfl (congrArg Value.bool (by simp)) ?_
    refine wl_ov (ov_pick_f rfl rfl) rfl ?_
    refine wl_ov (ov_move rfl) rfl ?_
    refine wl_guard_on rfl rfl rfl ?_
    refine wl_ov (ov_move rfl) rfl ?_
    refine wl_guard_on rfl rfl rfl ?_
    refine wl_ov (ov_move rfl) rfl ?_
    refine wl_guard_on rfl rfl rfl ?_
    refine wl_ov (ov_neq rfl rfl) rfl ?_
    refine wl_set 49 (v' := .bool false) rfl (congrArg Value.bool (by simp)) ?_
    refine wl_ov (ov_pick_f rfl rfl) rfl ?_
    refine wl_ov (ov_move rfl) rfl ?_
    refine wl_guard_on rfl rfl rfl ?_
    refine wl_ov (ov_move rfl) rfl ?_
    refine wl_guard_on rfl rfl rfl ?_
    refine wl_ov (ov_eql rfl rfl) rfl ?_
    refine wl_set 53 (v' := .bool false) rfl (congrArg Value.bool (decide_eq_false hL)) ?_
    refine wl_guard_on rfl rfl rfl ?_
    refine wl_ov (ov_move rfl) rfl ?_
    refine wl_guard_off rfl rfl rfl (by decide) rfl ?_
    refine wl_guard_off rfl rfl rfl (by decide) rfl ?_
    refine wl_guard_off rfl rfl rfl (by decide) rfl ?_
    refine wl_guard_off rfl rfl rfl (by decide) rfl ?_
    refine wl_guard_on rfl rfl rfl ?_
    refine wl_ov (ov_pick_f rfl rfl) rfl ?_
    refine wl_ov (ov_pick_f rfl rfl) rfl ?_
    refine wl_ov (ov_move rfl) rfl ?_
    refine wl_guard_on rfl rfl rfl ?_
    refine wl_ov (ov_move rfl) rfl ?_
    refine wl_guard_on rfl rfl rfl ?_
    refine wl_ov (ov_neq rfl rfl) rfl ?_
    refine wl_set 63 (v' := .bool true) rfl (congrArg (fun b => Value.bool !b) (decide_eq_false hL)) ?_
    refine wl_guard_on rfl rfl rfl ?_
    refine wl_ov (ov_move rfl) rfl ?_
    refine wl_guard_on rfl rfl rfl ?_
    refine wl_ov (ov_move rfl) rfl ?_
    refine wl_guard_on rfl rfl rfl ?_
    refine wl_ov (ov_neq rfl rfl) rfl ?_
    refine wl_set 66 (v' := .bool false) rfl (congrArg Value.bool (by decide)) ?_
    refine wl_guard_on rfl rfl rfl ?_
    refine wl_ov (ov_pick_t rfl rfl) rfl ?_
    refine wl_ov (ov_pick_f rfl rfl) rfl ?_
    refine wl_nil ?_
    refine nx_then ?_
    refine gw_cond rfl (fun hh => by cases hh) (fun _ => ?_)
    refine gw_skip ?_
    refine nx_then ?_
    refine gw_seq ?_
    refine gw_region ?_
    refine wl_ov (ov_move rfl) rfl ?_
    refine wl_callv (v := .bool HT) rfl cb82 rfl rfl (fun wx hm => (by rw [hHT]; exact hasTaxLine_r ls A2 n2 c2 wx (hm.fact 3 rfl).1 (by omega))) ?_
    refine wl_ov (ov_assign rfl) rfl ?_
    refine wl_nil ?_
    refine nx_then ?_
    refine gw_seq ?_
    refine gw_seq ?_
    refine gw_region ?_
    refine wl_ov (ov_move rfl) rfl ?_
    refine wl_ov (ov_move rfl) rfl ?_
    refine wl_ov (ov_move rfl) rfl ?_
    refine wl_callw rfl cb39 rfl rfl (fun wx hm => (rwhen_any _ _ wx)) ?_
    refine wl_buildSlice (e := 29) (cs := [.int .i64 TE, .int .i64 LE, .int .i64 (whenE HT 4)]) rfl (by kernel_rfl) rfl fun g2 => ?_
    refine wl_callw rfl cb37 rfl rfl (fun wx hm => (errs_any [TE, LE, whenE HT 4] _ _ _ wx (hm.blkI 0 rfl) (by simp))) ?_
    refine wl_ov (ov_assign rfl) rfl ?_
    refine wl_nil ?_
    refine nx_then ?_
    refine gw_seq ?_
    refine gw_region ?_
    refine wl_ov (ov_move rfl) rfl ?_
    refine wl_ov (ov_neq rfl rfl) rfl ?_
    refine wl_nil ?_
    refine nx_then ?_
    refine gw_cond rfl (fun hh => ?_) (fun hh => ?_)
    · have hE : ¬ (firstE [TE, LE, whenE HT 4] = 0) := by simpa using hh
      clear hh
      refine gw_seq ?_
      refine gw_region ?_
      obtain rfl : n3 = 0 := hn3b.1 hE
      refine wl_ov (ov_move rfl) rfl ?_
      refine wl_ov (ov_move rfl) rfl ?_
      refine wl_ov (ov_eql rfl rfl) rfl ?_
      refine wl_set 81 (v' := .bool true) rfl (congrArg Value.bool (by simp)) ?_
      refine wl_ov (ov_move rfl) rfl ?_
      refine wl_guard_on rfl rfl rfl ?_
      refine wl_ov (ov_move rfl) rfl ?_
      refine wl_guard_on rfl rfl rfl ?_
      refine wl_ov (ov_len es44 rfl) rfl ?_
      refine wl_set 84 (v' := .int .i64 0) rfl rfl ?_
      refine wl_guard_on rfl rfl rfl ?_
      refine wl_ov (ov_eql rfl rfl) rfl ?_
      refine wl_set 85 (v' := .bool true) rfl (congrArg Value.bool (by decide)) ?_
      refine wl_ov (ov_pick_t rfl rfl) rfl ?_
      refine wl_ov (ov_move rfl) rfl ?_
      refine wl_guard_on rfl rfl rfl ?_
      refine wl_callv rfl cb41 rfl rfl (fun wx hm => (priced_any wx)) ?_
      refine wl_ov (ov_pick_t rfl rfl) rfl ?_
      refine wl_ov (ov_assign rfl) rfl ?_
      refine wl_nil ?_
      refine nx_then ?_
      refine gw_ret ?_
      refine nx_then_ret ?_
      refine nx_ret1 rfl rfl fun wx hm => ?_
      exact ⟨rfl, law_end hg1 hsb (grow_trans hm_w2.g (grow_weak hm.g))⟩
    · have hE : firstE [TE, LE, whenE HT 4] = 0 := by simpa using hh
      clear hh
      refine gw_skip ?_
      refine nx_then ?_
      refine gw_seq ?_
      refine gw_region ?_
      exact absurd ((fe_all hE) LE (by simp)) hL

end Go.Proofs.YtmpomocahgcebaaDoor
