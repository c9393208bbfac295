/- The walk of the law PartsCost. -/
import Derived.Test.YtmpomocahgcebaaDoorTq
import Derived.Test.YtmpomocahgcebaaDoorTb
import Derived.Test.YtmpomocahgcebaaDoorTm
import Derived.Test.YtmpomocahgcebaaDoorSg
namespace Go.Proofs.YtmpomocahgcebaaDoor
open Go.RowKit

theorem exCost_bad {l : List Ex} {k : ByteArray} {n : Int} (h : extrasE l ≠ 0) : exCostE l k n = extrasE l ∧ exCostV l k n = 0 := by
  have e : exCostE l k n = extrasE l := by unfold exCostE firstE; rw [if_neg h]
  exact ⟨e, by unfold exCostV; rw [e, if_neg h]⟩
theorem exCost_ok {l : List Ex} {k : ByteArray} {n : Int} (h : extrasE l = 0) : exCostE l k n = firstE [whenE (!decide (0 ≤ ixP (exP k) l 0)) 8, whenE (!inB n 1 120) 1] := by
  have e : decide (ixP (exP k) l 0 < 0) = !decide (0 ≤ ixP (exP k) l 0) := by
    by_cases h : ixP (exP k) l 0 < 0
    · rw [decide_eq_true h, decide_eq_false (by omega)]; rfl
    · rw [decide_eq_false h, decide_eq_true (by omega)]; rfl
  unfold exCostE
  rw [h, e]
  simp only [firstE, if_true]
theorem one_low {d hi e : Int} (h : decide (d < 1) = true) : whenE (!inB d 1 hi) e = whenE true e := by
  have h := of_decide_eq_true h
  rw [inB_false.2 (by omega)]; rfl
theorem one_high {d hi e : Int} (h : decide (d < 1) = false) : whenE (!inB d 1 hi) e = whenE (decide (hi < d)) e := by
  have h := of_decide_eq_false h
  by_cases h2 : hi < d
  · rw [inB_false.2 (by omega), decide_eq_true h2]; rfl
  · rw [inB_iff.2 (by omega), decide_eq_false h2]; rfl
theorem fee_C (l : List Fe) (a b : ByteArray) : feeOfC l a b = firstE [feesE l, whenE (!keyB a) 5, whenE (!keyB b) 5] := by
  unfold feeOfC
  cases keyB a <;> cases keyB b <;> by_cases h : feesE l = 0 <;> simp [firstE, h, whenE]
theorem fee_ok {l : List Fe} {a b : ByteArray} (h : feeOfC l a b = 0) : feeOfE l a b = whenE (!(decide (0 ≤ ixP (feP a b) l 0) || (a.toList == b.toList))) 8 ∧ feeOfV l a b = (if 0 ≤ ixP (feP a b) l 0 then feAt l a b else 0) := by
  have h0 : feesE l = 0 := fe_all h _ (by simp)
  unfold feeOfE feeOfV
  rw [if_pos h, if_pos h]
  cases hab : (a.toList == b.toList)
  · simp only [Bool.or_false]
    by_cases h1 : 0 ≤ ixP (feP a b) l 0
    · simp [h1, whenE]
    · simp [h1, whenE]
  · have h1 := feP_self h0 hab
    simp [h1, whenE]
theorem fee_bad {l : List Fe} {a b : ByteArray} (h : ¬ feeOfC l a b = 0) : feeOfE l a b = feeOfC l a b ∧ feeOfV l a b = 0 := by
  unfold feeOfE feeOfV
  rw [if_neg h, if_neg h]
  exact ⟨rfl, rfl⟩
theorem fo_all : ∀ {l : List Int}, firstE l = 0 → ∀ e ∈ l, e = 0 := fe_all

set_option maxRecDepth 100000 in
set_option maxHeartbeats 2000000 in
theorem parts_walk (a0 : Option Addr) (len0 cap0 : Nat) (z0 : List Int) (w : World) (hR : RowIn w a0 len0 cap0 z0) :
    Calls Tryd.prog 11 #[.slice a0 len0 cap0] w fun e w' => e = .returned (.bool true) ∧ Below w.heap.size w w' := by
  refine gw_enter ⟨136, w, none, []⟩ Tryd.func11 rfl Tryd.ntmps11 rfl (mem0 (X := []) allF_nil allL_nil) ?_
  refine gw_seq ?_
  refine gw_region ?_
  refine wl_ov (ov_assign rfl) rfl ?_
  refine wl_nil ?_
  refine nx_then ?_
  refine gw_seq ?_
  refine gw_region ?_
  refine wl_ov (ov_move rfl) rfl ?_
  refine wl_ov (ov_build (cs := [.slice a0 len0 cap0, .int .i64 0]) rfl (by kernel_rfl)) rfl ?_
  refine wl_box rfl rfl rfl fun sb => ?_
  refine wl_ov (ov_assign rfl) rfl ?_
  refine wl_nil ?_
  refine nx_then ?_
  refine gw_seq ?_
  refine gw_region ?_
  refine wl_ov (ov_move rfl) rfl ?_
  refine wl_law [197, 201] hR 0 rfl fun w1 B hg1 hsb => ?_
  refine wl_calls (γ := Option Addr × Nat × Nat × List Ex) (val := (fun (g : Option Addr × Nat × Nat × List Ex) => .slice g.1 g.2.1 g.2.2.1)) (φ := (fun (g : Option Addr × Nat × Nat × List Ex) => (∀ x ∈ g.2.2.2, ExOk x) ∧ g.2.1 ≤ 2 ∧ g.2.1 ≤ g.2.2.1 ∧ g.2.2.2.length = g.2.1)) (Y := (fun (g : Option Addr × Nat × Nat × List Ex) => fun wy => SlT exEnc 4 197 wy g.1 g.2.1 g.2.2.2)) (m' := 0 + 30) rfl cb65 rfl rfl rfl rfl (fun wx hm => (gextras_any wx B sb _ hm.k (by omega)).mono fun _ _ ⟨A, n, c0, l, he, hsl, hok, hn, hnc, hS, hg⟩ => ⟨(A, n, c0, l), he, ⟨hok, hn, hnc, hsl.len⟩, hS, hg, hsl⟩) (fun _ => SlT.lasts2 rfl) ?_
  rintro ⟨A, n, c0, l⟩ hR1
  dsimp only at hR1 ⊢
  obtain ⟨hok, hn2, hnc, hlen⟩ := hR1
  refine wl_ov (ov_move rfl) rfl ?_
  refine wl_buildSlice (e := 9) (cs := [.string ⟨#[109, 97, 112]⟩, .string ⟨#[115, 101, 97, 116]⟩, .string ⟨#[115, 101, 97, 116]⟩, .string ⟨#[110, 111, 110, 101]⟩]) rfl (by kernel_rfl) rfl fun g1 => ?_
  refine wl_got (γ := ByteArray) (val := fun v => .string v) (φ := fun v => v ∈ ([⟨#[109, 97, 112]⟩, ⟨#[115, 101, 97, 116]⟩, ⟨#[115, 101, 97, 116]⟩, ⟨#[110, 111, 110, 101]⟩] : List ByteArray)) rfl cb66 rfl rfl rfl rfl (fun wx hm => (some_any [⟨#[109, 97, 112]⟩, ⟨#[115, 101, 97, 116]⟩, ⟨#[115, 101, 97, 116]⟩, ⟨#[110, 111, 110, 101]⟩] _ _ _ wx B sb _ hm.k (by omega) (by simp) (by simp) (hm.blkI 0 rfl) (hm.neRow 0 rfl rfl))) fun ky hky => ?_
  have zky : ky.size ≤ 100 := mem_sz hky (by decide)
  refine wl_ov (ov_move rfl) rfl ?_
  refine wl_buildSlice (e := 3) (cs := [.int .i64 1, .int .i64 2, .int .i64 7, .int .i64 120, .int .i64 0, .int .i64 121]) rfl (by kernel_rfl) rfl fun g2 => ?_
  refine wl_got (γ := Int) (val := fun v => .int .i64 v) (φ := fun v => v ∈ ([1, 2, 7, 120, 0, 121] : List Int)) rfl cb23 rfl rfl rfl rfl (fun wx hm => (pick_any [1, 2, 7, 120, 0, 121] _ _ _ wx B sb _ hm.k (by omega) (by simp) (by simp) (hm.blkI 0 rfl) (hm.neRow 0 rfl rfl))) fun dv hdv => ?_
  have bdv : 0 ≤ dv ∧ dv ≤ 121 := mem_rng hdv (by decide)
  have bdv0 := bdv.1
  have bdv1 := bdv.2
  clear bdv
  refine wl_ov (ov_assign rfl) rfl ?_
  refine wl_ov (ov_assign rfl) rfl ?_
  refine wl_ov (ov_assign rfl) rfl ?_
  refine wl_nil ?_
  refine nx_then ?_
  refine gw_seq ?_
  refine gw_region ?_
  refine wl_ov (ov_move rfl) rfl ?_
  refine wl_calls (γ := Option Addr × Nat × Nat × List Fe) (val := (fun (g : Option Addr × Nat × Nat × List Fe) => .slice g.1 g.2.1 g.2.2.1)) (φ := (fun (g : Option Addr × Nat × Nat × List Fe) => (∀ x ∈ g.2.2.2, FeOk x) ∧ g.2.1 ≤ 5 ∧ g.2.1 ≤ g.2.2.1 ∧ g.2.2.2.length = g.2.1)) (Y := (fun (g : Option Addr × Nat × Nat × List Fe) => fun wy => SlT feEnc 3 201 wy g.1 g.2.1 g.2.2.2)) (m' := 0 + 30 + 1 + 1 + 30) rfl cb67 rfl rfl rfl rfl (fun wx hm => (gfees_any wx B sb _ hm.k (by omega)).mono fun _ _ ⟨A, n, c0, l, he, hsl, hok, hn, hnc, hS, hg⟩ => ⟨(A, n, c0, l), he, ⟨hok, hn, hnc, hsl.len⟩, hS, hg, hsl⟩) (fun _ => SlT.lasts2 rfl) ?_
  rintro ⟨A1, n1, c1, l1⟩ hR2
  dsimp only at hR2 ⊢
  obtain ⟨hok1, hn21, hnc1, hlen1⟩ := hR2
  refine wl_ov (ov_move rfl) rfl ?_
  refine wl_buildSlice (e := 9) (cs := [.string ⟨#[115, 49]⟩, .string ⟨#[115, 49]⟩, .string ⟨#[115, 50]⟩, .string ⟨#[115, 51]⟩, .string ⟨#[]⟩]) rfl (by kernel_rfl) rfl fun g3 => ?_
  refine wl_got (γ := ByteArray) (val := fun v => .string v) (φ := fun v => v ∈ ([⟨#[115, 49]⟩, ⟨#[115, 49]⟩, ⟨#[115, 50]⟩, ⟨#[115, 51]⟩, ⟨#[]⟩] : List ByteArray)) rfl cb66 rfl rfl rfl rfl (fun wx hm => (some_any [⟨#[115, 49]⟩, ⟨#[115, 49]⟩, ⟨#[115, 50]⟩, ⟨#[115, 51]⟩, ⟨#[]⟩] _ _ _ wx B sb _ hm.k (by omega) (by simp) (by simp) (hm.blkI 0 rfl) (hm.neRow 0 rfl rfl))) fun sa hsa => ?_
  have zsa : sa.size ≤ 100 := mem_sz hsa (by decide)
  refine wl_ov (ov_move rfl) rfl ?_
  refine wl_buildSlice (e := 9) (cs := [.string ⟨#[115, 49]⟩, .string ⟨#[115, 50]⟩, .string ⟨#[115, 51]⟩, .string ⟨#[65]⟩]) rfl (by kernel_rfl) rfl fun g4 => ?_
  refine wl_got (γ := ByteArray) (val := fun v => .string v) (φ := fun v => v ∈ ([⟨#[115, 49]⟩, ⟨#[115, 50]⟩, ⟨#[115, 51]⟩, ⟨#[65]⟩] : List ByteArray)) rfl cb66 rfl rfl rfl rfl (fun wx hm => (some_any [⟨#[115, 49]⟩, ⟨#[115, 50]⟩, ⟨#[115, 51]⟩, ⟨#[65]⟩] _ _ _ wx B sb _ hm.k (by omega) (by simp) (by simp) (hm.blkI 0 rfl) (hm.neRow 0 rfl rfl))) fun sz hsz => ?_
  have zsz : sz.size ≤ 100 := mem_sz hsz (by decide)
  obtain ⟨XE, hXE⟩ : ∃ E, E = extrasE l := ⟨_, rfl⟩
  obtain ⟨YE, hYE⟩ : ∃ E, E = feesE l1 := ⟨_, rfl⟩
  obtain ⟨CE, hCE⟩ : ∃ E, E = exCostE l ky dv := ⟨_, rfl⟩
  obtain ⟨CV, hCV⟩ : ∃ E, E = exCostV l ky dv := ⟨_, rfl⟩
  obtain ⟨GE, hGE⟩ : ∃ E, E = feeOfE l1 sa sz := ⟨_, rfl⟩
  obtain ⟨GV, hGV⟩ : ∃ E, E = feeOfV l1 sa sz := ⟨_, rfl⟩
  obtain ⟨IX, hIX⟩ : ∃ E, E = ixP (exP ky) l 0 := ⟨_, rfl⟩
  obtain ⟨IY, hIY⟩ : ∃ E, E = ixP (feP sa sz) l1 0 := ⟨_, rfl⟩
  obtain ⟨nn, hnn⟩ := Int.eq_ofNat_of_zero_le (show 0 ≤ min (max dv 0) 120 by omega)
  obtain ⟨OV, hOV⟩ : ∃ E, E = (if 0 ≤ IX then exAt l ky ((nn : Nat) : Int) else 0) := ⟨_, rfl⟩
  obtain ⟨FV, hFV⟩ : ∃ E, E = (if 0 ≤ IY then feAt l1 sa sz else 0) := ⟨_, rfl⟩
  have hFC := fee_C l1 sa sz
  rw [← hYE] at hFC
  refine wl_ov (ov_assign rfl) rfl ?_
  refine wl_ov (ov_assign rfl) rfl ?_
  refine wl_ov (ov_assign rfl) rfl ?_
  refine wl_nil ?_
  refine nx_then ?_
  refine gw_seq ?_
  refine gw_region ?_
  refine wl_ov (ov_move rfl) rfl ?_
  refine wl_ov (ov_move rfl) rfl ?_
  refine wl_ov (ov_move rfl) rfl ?_
  refine wl_callv (v := .tuple #[.int .i64 CV, .int .i64 CE]) rfl cb68 rfl rfl (fun wx hm => (by rw [hCV, hCE]; exact tExtraCost_any l A n c0 ky dv wx (hm.fact 1 rfl) hok (by omega))) ?_
  refine wl_ov (ov_move rfl) rfl ?_
  refine wl_ov (ov_extract rfl rfl) rfl ?_
  refine wl_ov (ov_extract rfl rfl) rfl ?_
  refine wl_ov (ov_assign rfl) rfl ?_
  refine wl_ov (ov_assign rfl) rfl ?_
  refine wl_nil ?_
  refine nx_then ?_
  refine gw_seq ?_
  refine gw_region ?_
  refine wl_ov (ov_move rfl) rfl ?_
  refine wl_ov (ov_move rfl) rfl ?_
  refine wl_ov (ov_move rfl) rfl ?_
  refine wl_callv (v := .tuple #[.int .i64 GV, .int .i64 GE]) rfl cb69 rfl rfl (fun wx hm => (by rw [hGV, hGE]; exact tFeeOf_any l1 A1 n1 c1 sa sz wx (hm.fact 0 rfl) hok1 (by omega) (by omega) (by omega))) ?_
  refine wl_ov (ov_move rfl) rfl ?_
  refine wl_ov (ov_extract rfl rfl) rfl ?_
  refine wl_ov (ov_extract rfl rfl) rfl ?_
  refine wl_ov (ov_assign rfl) rfl ?_
  refine wl_ov (ov_assign rfl) rfl ?_
  refine wl_nil ?_
  refine nx_then ?_
  refine gw_seq ?_
  refine gw_region ?_
  refine wl_ov (ov_move rfl) rfl ?_
  refine wl_callv (v := .int .i64 XE) rfl cb70 rfl rfl (fun wx hm => (by rw [hXE]; exact extrasFault_any l A n c0 wx (hm.fact 1 rfl) hok (by omega))) ?_
  refine wl_ov (ov_move rfl) rfl ?_
  refine wl_callv (v := .int .i64 YE) rfl cb71 rfl rfl (fun wx hm => (by rw [hYE]; exact feesFault_any l1 A1 n1 c1 wx (hm.fact 0 rfl) hok1 (by omega))) ?_
  refine wl_ov (ov_assign rfl) rfl ?_
  refine wl_ov (ov_assign rfl) rfl ?_
  refine wl_nil ?_
  refine nx_then ?_
  refine gw_seq ?_
  refine gw_seq ?_
  refine gw_region ?_
  refine wl_ov (ov_move rfl) rfl ?_
  refine wl_callv (v := .int .i64 XE) rfl cb72 rfl rfl (fun wx hm => (by rw [hXE]; exact checkExtras_any l A n c0 wx (hm.fact 1 rfl) hok (by omega))) ?_
  refine wl_ov (ov_move rfl) rfl ?_
  refine wl_ov (ov_neq rfl rfl) rfl ?_
  refine wl_set 62 (v' := .bool false) rfl (congrArg Value.bool (by simp)) ?_
  refine wl_ov (ov_move rfl) rfl ?_
  refine wl_guard_on rfl rfl rfl ?_
  refine wl_ov (ov_move rfl) rfl ?_
  refine wl_guard_on rfl rfl rfl ?_
  refine wl_callv (v := .int .i64 YE) rfl cb73 rfl rfl (fun wx hm => (by rw [hYE]; exact checkFees_any l1 A1 n1 c1 wx (hm.fact 0 rfl) hok1 (by omega))) ?_
  refine wl_guard_on rfl rfl rfl ?_
  refine wl_ov (ov_move rfl) rfl ?_
  refine wl_guard_on rfl rfl rfl ?_
  refine wl_ov (ov_neq rfl rfl) rfl ?_
  refine wl_set 67 (v' := .bool false) rfl (congrArg Value.bool (by simp)) ?_
  refine wl_ov (ov_pick_f rfl rfl) rfl ?_
  refine wl_nil ?_
  refine nx_then ?_
  refine gw_cond rfl (fun hh => by cases hh) (fun _ => ?_)
  refine gw_skip ?_
  refine nx_then ?_
  refine gw_seq ?_
  refine gw_region ?_
  refine wl_ov (ov_assign rfl) rfl ?_
  refine wl_ov (ov_assign rfl) rfl ?_
  refine wl_nil ?_
  refine nx_then ?_
  refine gw_seq ?_
  refine gw_seq ?_
  refine gw_region ?_
  refine wl_ov (ov_move rfl) rfl ?_
  refine wl_ov (ov_eql rfl rfl) rfl ?_
  refine wl_nil ?_
  refine nx_then ?_
  refine gw_cond rfl (fun hh => ?_) (fun hh => ?_)
  · have hx : XE = 0 := by simpa using hh
    clear hh
    refine gw_seq ?_
    refine gw_region ?_
    have hx0 : extrasE l = 0 := hXE.symm.trans hx
    have ho := exCost_ok (k := ky) (n := dv) hx0
    rw [← hCE, ← hIX] at ho
    refine wl_ov (ov_move rfl) rfl ?_
    refine wl_ov (ov_move rfl) rfl ?_
    refine wl_ov (ov_move rfl) rfl ?_
    refine wl_ov (ov_max rfl rfl) rfl ?_
    refine wl_ov (ov_min rfl rfl) rfl ?_
    refine wl_set 76 (v' := .int .i64 ((nn : Nat) : Int)) rfl (congrArg (Value.int .i64) hnn) ?_
    refine wl_callv (v := .tuple #[.int .i64 OV, .bool (decide (0 ≤ IX))]) rfl cb74 rfl rfl (fun wx hm => (by rw [hOV, hIX]; exact extraOf_any l A n c0 ky nn wx (hm.fact 1 rfl) (by omega) hx0 (by omega))) ?_
    refine wl_ov (ov_move rfl) rfl ?_
    refine wl_ov (ov_extract rfl rfl) rfl ?_
    refine wl_ov (ov_extract rfl rfl) rfl ?_
    refine wl_ov (ov_assign rfl) rfl ?_
    refine wl_ov (ov_assign rfl) rfl ?_
    refine wl_nil ?_
    refine nx_then ?_
    refine gw_seq ?_
    refine gw_region ?_
    refine wl_ov (ov_move rfl) rfl ?_
    refine wl_ov (ov_un_not rfl) rfl ?_
    refine wl_callw rfl cb39 rfl rfl (fun wx hm => (rwhen_any _ _ wx)) ?_
    refine wl_ov (ov_move rfl) rfl ?_
    refine wl_ov (ov_lss rfl rfl) rfl ?_
    refine wl_ov (ov_move rfl) rfl ?_
    rcases Bool.eq_false_or_eq_true (decide (dv < 1)) with hd1 | hd1
    · refine wl_set 85 rfl (congrArg Value.bool hd1) ?_
      rw [one_low hd1] at ho
      refine wl_guard_off rfl rfl rfl (by decide) rfl ?_
      refine wl_guard_off rfl rfl rfl (by decide) rfl ?_
      refine wl_ov (ov_pick_t rfl rfl) rfl ?_
      refine wl_callw rfl cb39 rfl rfl (fun wx hm => (rwhen_any _ _ wx)) ?_
      refine wl_buildSlice (e := 29) (cs := [.int .i64 (whenE (!(decide (0 ≤ IX))) 8), .int .i64 (whenE true 1)]) rfl (by kernel_rfl) rfl fun g6 => ?_
      refine wl_callw rfl cb37 rfl rfl (fun wx hm => (errs_any [whenE (!(decide (0 ≤ IX))) 8, whenE true 1] _ _ _ wx (hm.blkI 0 rfl) (by simp))) ?_
      refine wl_ov (ov_assign rfl) rfl ?_
      refine wl_nil ?_
      refine nx_then ?_
      refine gw_seq ?_
      refine gw_region ?_
      refine wl_ov (ov_move rfl) rfl ?_
      refine wl_ov (ov_eql rfl rfl) rfl ?_
      refine wl_nil ?_
      refine nx_then ?_
      refine gw_cond rfl (fun hh => ?_) (fun hh => ?_)
      · have hz1 : firstE [whenE (!(decide (0 ≤ IX))) 8, whenE true 1] = 0 := by simpa using hh
        clear hh
        refine gw_region ?_
        have hcv : CV = OV := by
          have h0 : exCostE l ky dv = 0 := by rw [← hCE, ho]; exact hz1
          have hw := fo_all h0
          have h1 := we_ok (by decide) (hw (whenE (!inB dv 1 120) 1) (by simp))
          have h2 := we_ok (by decide) (hw (whenE (decide (ixP (exP ky) l 0 < 0)) 8) (by simp))
          rw [← hIX] at h2
          have h2 : ¬ IX < 0 := by simpa using h2
          have h1 : inB dv 1 120 = true := by simpa using h1
          have h1 := inB_iff.1 h1
          rw [hCV, hOV, if_pos (by omega)]
          unfold exCostV
          rw [if_pos h0, show dv = ((nn : Nat) : Int) by omega]
        refine wl_ov (ov_move rfl) rfl ?_
        refine wl_ov (ov_assign rfl) rfl ?_
        refine wl_nil ?_
        refine nx_then ?_
        refine gw_seq ?_
        refine gw_seq ?_
        refine gw_region ?_
        refine wl_ov (ov_move rfl) rfl ?_
        refine wl_ov (ov_move rfl) rfl ?_
        refine wl_callv rfl cb38 rfl rfl (fun wx hm => (keyFault_any sa wx (by omega))) ?_
        refine wl_ov (ov_move rfl) rfl ?_
        refine wl_callv rfl cb38 rfl rfl (fun wx hm => (keyFault_any sz wx (by omega))) ?_
        refine wl_buildSlice (e := 29) (cs := [.int .i64 YE, .int .i64 (whenE (!keyB sa) 5), .int .i64 (whenE (!keyB sz) 5)]) rfl (by kernel_rfl) rfl fun g7 => ?_
        refine wl_callw rfl cb37 rfl rfl (fun wx hm => (errs_any [YE, whenE (!keyB sa) 5, whenE (!keyB sz) 5] _ _ _ wx (hm.blkI 0 rfl) (by simp))) ?_
        refine wl_ov (ov_assign rfl) rfl ?_
        refine wl_nil ?_
        refine nx_then ?_
        refine gw_seq ?_
        refine gw_region ?_
        refine wl_ov (ov_move rfl) rfl ?_
        refine wl_ov (ov_eql rfl rfl) rfl ?_
        refine wl_nil ?_
        refine nx_then ?_
        refine gw_cond rfl (fun hh => ?_) (fun hh => ?_)
        · have hz : firstE [YE, whenE (!keyB sa) 5, whenE (!keyB sz) 5] = 0 := by simpa using hh
          clear hh
          refine gw_seq ?_
          refine gw_region ?_
          obtain ⟨he1, he2⟩ := fee_ok (hFC.trans hz)
          rw [← hGE, ← hIY] at he1
          rw [← hGV, ← hIY, ← hFV] at he2
          refine wl_ov (ov_move rfl) rfl ?_
          refine wl_ov (ov_move rfl) rfl ?_
          refine wl_ov (ov_move rfl) rfl ?_
          refine wl_callv (v := .tuple #[.int .i64 FV, .bool (decide (0 ≤ IY) || (sa.toList == sz.toList))]) rfl cb75 rfl rfl (fun wx hm => (by rw [hFV, hIY]; exact feeFrom_any l1 A1 n1 c1 sa sz wx (hm.fact 0 rfl) (by omega))) ?_
          refine wl_ov (ov_move rfl) rfl ?_
          refine wl_ov (ov_extract rfl rfl) rfl ?_
          refine wl_ov (ov_extract rfl rfl) rfl ?_
          refine wl_ov (ov_assign rfl) rfl ?_
          refine wl_ov (ov_assign rfl) rfl ?_
          refine wl_nil ?_
          refine nx_then ?_
          refine gw_region ?_
          refine wl_ov (ov_move rfl) rfl ?_
          refine wl_ov (ov_move rfl) rfl ?_
          refine wl_ov (ov_un_not rfl) rfl ?_
          refine wl_callw rfl cb39 rfl rfl (fun wx hm => (rwhen_any _ _ wx)) ?_
          refine wl_ov (ov_assign rfl) rfl ?_
          refine wl_ov (ov_assign rfl) rfl ?_
          refine wl_nil ?_
          refine nx_then ?_
          refine gw_seq ?_
          refine gw_region ?_
          refine wl_ov (ov_move rfl) rfl ?_
          refine wl_ov (ov_move rfl) rfl ?_
          refine wl_ov (ov_eql rfl rfl) rfl ?_
          refine wl_set 117 (v' := .bool true) rfl (congrArg Value.bool (decide_eq_true (ho))) ?_
          refine wl_ov (ov_move rfl) rfl ?_
          refine wl_guard_on rfl rfl rfl ?_
          refine wl_ov (ov_move rfl) rfl ?_
          refine wl_guard_on rfl rfl rfl ?_
          refine wl_ov (ov_move rfl) rfl ?_
          refine wl_guard_on rfl rfl rfl ?_
          refine wl_ov (ov_eql rfl rfl) rfl ?_
          refine wl_set 121 (v' := .bool true) rfl (congrArg Value.bool (decide_eq_true (hcv))) ?_
          refine wl_ov (ov_pick_t rfl rfl) rfl ?_
          refine wl_ov (ov_move rfl) rfl ?_
          refine wl_guard_on rfl rfl rfl ?_
          refine wl_ov (ov_move rfl) rfl ?_
          refine wl_guard_on rfl rfl rfl ?_
          refine wl_ov (ov_move rfl) rfl ?_
          refine wl_guard_on rfl rfl rfl ?_
          refine wl_ov (ov_eql rfl rfl) rfl ?_
          refine wl_set 126 (v' := .bool true) rfl (congrArg Value.bool (decide_eq_true (he1))) ?_
          refine wl_ov (ov_pick_t rfl rfl) rfl ?_
          refine wl_ov (ov_move rfl) rfl ?_
          refine wl_guard_on rfl rfl rfl ?_
          refine wl_ov (ov_move rfl) rfl ?_
          refine wl_guard_on rfl rfl rfl ?_
          refine wl_ov (ov_move rfl) rfl ?_
          refine wl_guard_on rfl rfl rfl ?_
          refine wl_ov (ov_eql rfl rfl) rfl ?_
          refine wl_set 131 (v' := .bool true) rfl (congrArg Value.bool (decide_eq_true (he2))) ?_
          refine wl_ov (ov_pick_t rfl rfl) rfl ?_
          refine wl_ov (ov_move rfl) rfl ?_
          refine wl_guard_on rfl rfl rfl ?_
          refine wl_callv rfl cb41 rfl rfl (fun wx hm => (priced_any wx)) ?_
          refine wl_ov (ov_pick_t rfl rfl) rfl ?_
          refine wl_ov (ov_assign rfl) rfl ?_
          refine wl_nil ?_
          refine nx_then ?_
          refine gw_ret ?_
          refine nx_ret1 rfl rfl fun wx hm => ?_
          exact ⟨rfl, law_end hg1 hsb hm.g⟩
        · have hz : ¬ (firstE [YE, whenE (!keyB sa) 5, whenE (!keyB sz) 5] = 0) := by simpa using hh
          clear hh
          refine gw_skip ?_
          refine nx_then ?_
          refine gw_seq ?_
          refine gw_region ?_
          obtain ⟨he1, he2⟩ := fee_bad (fun h => hz (hFC.symm.trans h))
          rw [← hGE, hFC] at he1
          rw [← hGV] at he2
          refine wl_ov (ov_move rfl) rfl ?_
          refine wl_ov (ov_move rfl) rfl ?_
          refine wl_ov (ov_eql rfl rfl) rfl ?_
          refine wl_set 117 (v' := .bool true) rfl (congrArg Value.bool (decide_eq_true (ho))) ?_
          refine wl_ov (ov_move rfl) rfl ?_
          refine wl_guard_on rfl rfl rfl ?_
          refine wl_ov (ov_move rfl) rfl ?_
          refine wl_guard_on rfl rfl rfl ?_
          refine wl_ov (ov_move rfl) rfl ?_
          refine wl_guard_on rfl rfl rfl ?_
          refine wl_ov (ov_eql rfl rfl) rfl ?_
          refine wl_set 121 (v' := .bool true) rfl (congrArg Value.bool (decide_eq_true (hcv))) ?_
          refine wl_ov (ov_pick_t rfl rfl) rfl ?_
          refine wl_ov (ov_move rfl) rfl ?_
          refine wl_guard_on rfl rfl rfl ?_
          refine wl_ov (ov_move rfl) rfl ?_
          refine wl_guard_on rfl rfl rfl ?_
          refine wl_ov (ov_move rfl) rfl ?_
          refine wl_guard_on rfl rfl rfl ?_
          refine wl_ov (ov_eql rfl rfl) rfl ?_
          refine wl_set 126 (v' := .bool true) rfl (congrArg Value.bool (decide_eq_true (he1))) ?_
          refine wl_ov (ov_pick_t rfl rfl) rfl ?_
          refine wl_ov (ov_move rfl) rfl ?_
          refine wl_guard_on rfl rfl rfl ?_
          refine wl_ov (ov_move rfl) rfl ?_
          refine wl_guard_on rfl rfl rfl ?_
          refine wl_ov (ov_move rfl) rfl ?_
          refine wl_guard_on rfl rfl rfl ?_
          refine wl_ov (ov_eql rfl rfl) rfl ?_
          refine wl_set 131 (v' := .bool true) rfl (congrArg Value.bool (decide_eq_true (he2))) ?_
          refine wl_ov (ov_pick_t rfl rfl) rfl ?_
          refine wl_ov (ov_move rfl) rfl ?_
          refine wl_guard_on rfl rfl rfl ?_
          refine wl_callv rfl cb41 rfl rfl (fun wx hm => (priced_any wx)) ?_
          refine wl_ov (ov_pick_t rfl rfl) rfl ?_
          refine wl_ov (ov_assign rfl) rfl ?_
          refine wl_nil ?_
          refine nx_then ?_
          refine gw_ret ?_
          refine nx_ret1 rfl rfl fun wx hm => ?_
          exact ⟨rfl, law_end hg1 hsb hm.g⟩
      · have hz1 : ¬ (firstE [whenE (!(decide (0 ≤ IX))) 8, whenE true 1] = 0) := by simpa using hh
        clear hh
        refine gw_skip ?_
        refine nx_then ?_
        refine gw_seq ?_
        refine gw_seq ?_
        refine gw_region ?_
        have hcv : CV = 0 := by rw [hCV]; unfold exCostV; rw [if_neg (fun h => hz1 (by rw [← ho, hCE]; exact h))]
        refine wl_ov (ov_move rfl) rfl ?_
        refine wl_ov (ov_move rfl) rfl ?_
        refine wl_callv rfl cb38 rfl rfl (fun wx hm => (keyFault_any sa wx (by omega))) ?_
        refine wl_ov (ov_move rfl) rfl ?_
        refine wl_callv rfl cb38 rfl rfl (fun wx hm => (keyFault_any sz wx (by omega))) ?_
        refine wl_buildSlice (e := 29) (cs := [.int .i64 YE, .int .i64 (whenE (!keyB sa) 5), .int .i64 (whenE (!keyB sz) 5)]) rfl (by kernel_rfl) rfl fun g8 => ?_
        refine wl_callw rfl cb37 rfl rfl (fun wx hm => (errs_any [YE, whenE (!keyB sa) 5, whenE (!keyB sz) 5] _ _ _ wx (hm.blkI 0 rfl) (by simp))) ?_
        refine wl_ov (ov_assign rfl) rfl ?_
        refine wl_nil ?_
        refine nx_then ?_
        refine gw_seq ?_
        refine gw_region ?_
        refine wl_ov (ov_move rfl) rfl ?_
        refine wl_ov (ov_eql rfl rfl) rfl ?_
        refine wl_nil ?_
        refine nx_then ?_
        refine gw_cond rfl (fun hh => ?_) (fun hh => ?_)
        · have hz : firstE [YE, whenE (!keyB sa) 5, whenE (!keyB sz) 5] = 0 := by simpa using hh
          clear hh
          refine gw_seq ?_
          refine gw_region ?_
          obtain ⟨he1, he2⟩ := fee_ok (hFC.trans hz)
          rw [← hGE, ← hIY] at he1
          rw [← hGV, ← hIY, ← hFV] at he2
          refine wl_ov (ov_move rfl) rfl ?_
          refine wl_ov (ov_move rfl) rfl ?_
          refine wl_ov (ov_move rfl) rfl ?_
          refine wl_callv (v := .tuple #[.int .i64 FV, .bool (decide (0 ≤ IY) || (sa.toList == sz.toList))]) rfl cb75 rfl rfl (fun wx hm => (by rw [hFV, hIY]; exact feeFrom_any l1 A1 n1 c1 sa sz wx (hm.fact 0 rfl) (by omega))) ?_
          refine wl_ov (ov_move rfl) rfl ?_
          refine wl_ov (ov_extract rfl rfl) rfl ?_
          refine wl_ov (ov_extract rfl rfl) rfl ?_
          refine wl_ov (ov_assign rfl) rfl ?_
          refine wl_ov (ov_assign rfl) rfl ?_
          refine wl_nil ?_
          refine nx_then ?_
          refine gw_region ?_
          refine wl_ov (ov_move rfl) rfl ?_
          refine wl_ov (ov_move rfl) rfl ?_
          refine wl_ov (ov_un_not rfl) rfl ?_
          refine wl_callw rfl cb39 rfl rfl (fun wx hm => (rwhen_any _ _ wx)) ?_
          refine wl_ov (ov_assign rfl) rfl ?_
          refine wl_ov (ov_assign rfl) rfl ?_
          refine wl_nil ?_
          refine nx_then ?_
          refine gw_seq ?_
          refine gw_region ?_
          refine wl_ov (ov_move rfl) rfl ?_
          refine wl_ov (ov_move rfl) rfl ?_
          refine wl_ov (ov_eql rfl rfl) rfl ?_
          refine wl_set 117 (v' := .bool true) rfl (congrArg Value.bool (decide_eq_true (ho))) ?_
          refine wl_ov (ov_move rfl) rfl ?_
          refine wl_guard_on rfl rfl rfl ?_
          refine wl_ov (ov_move rfl) rfl ?_
          refine wl_guard_on rfl rfl rfl ?_
          refine wl_ov (ov_move rfl) rfl ?_
          refine wl_guard_on rfl rfl rfl ?_
          refine wl_ov (ov_eql rfl rfl) rfl ?_
          refine wl_set 121 (v' := .bool true) rfl (congrArg Value.bool (decide_eq_true (hcv))) ?_
          refine wl_ov (ov_pick_t rfl rfl) rfl ?_
          refine wl_ov (ov_move rfl) rfl ?_
          refine wl_guard_on rfl rfl rfl ?_
          refine wl_ov (ov_move rfl) rfl ?_
          refine wl_guard_on rfl rfl rfl ?_
          refine wl_ov (ov_move rfl) rfl ?_
          refine wl_guard_on rfl rfl rfl ?_
          refine wl_ov (ov_eql rfl rfl) rfl ?_
          refine wl_set 126 (v' := .bool true) rfl (congrArg Value.bool (decide_eq_true (he1))) ?_
          refine wl_ov (ov_pick_t rfl rfl) rfl ?_
          refine wl_ov (ov_move rfl) rfl ?_
          refine wl_guard_on rfl rfl rfl ?_
          refine wl_ov (ov_move rfl) rfl ?_
          refine wl_guard_on rfl rfl rfl ?_
          refine wl_ov (ov_move rfl) rfl ?_
          refine wl_guard_on rfl rfl rfl ?_
          refine wl_ov (ov_eql rfl rfl) rfl ?_
          refine wl_set 131 (v' := .bool true) rfl (congrArg Value.bool (decide_eq_true (he2))) ?_
          refine wl_ov (ov_pick_t rfl rfl) rfl ?_
          refine wl_ov (ov_move rfl) rfl ?_
          refine wl_guard_on rfl rfl rfl ?_
          refine wl_callv rfl cb41 rfl rfl (fun wx hm => (priced_any wx)) ?_
          refine wl_ov (ov_pick_t rfl rfl) rfl ?_
          refine wl_ov (ov_assign rfl) rfl ?_
          refine wl_nil ?_
          refine nx_then ?_
          refine gw_ret ?_
          refine nx_ret1 rfl rfl fun wx hm => ?_
          exact ⟨rfl, law_end hg1 hsb hm.g⟩
        · have hz : ¬ (firstE [YE, whenE (!keyB sa) 5, whenE (!keyB sz) 5] = 0) := by simpa using hh
          clear hh
          refine gw_skip ?_
          refine nx_then ?_
          refine gw_seq ?_
          refine gw_region ?_
          obtain ⟨he1, he2⟩ := fee_bad (fun h => hz (hFC.symm.trans h))
          rw [← hGE, hFC] at he1
          rw [← hGV] at he2
          refine wl_ov (ov_move rfl) rfl ?_
          refine wl_ov (ov_move rfl) rfl ?_
          refine wl_ov (ov_eql rfl rfl) rfl ?_
          refine wl_set 117 (v' := .bool true) rfl (congrArg Value.bool (decide_eq_true (ho))) ?_
          refine wl_ov (ov_move rfl) rfl ?_
          refine wl_guard_on rfl rfl rfl ?_
          refine wl_ov (ov_move rfl) rfl ?_
          refine wl_guard_on rfl rfl rfl ?_
          refine wl_ov (ov_move rfl) rfl ?_
          refine wl_guard_on rfl rfl rfl ?_
          refine wl_ov (ov_eql rfl rfl) rfl ?_
          refine wl_set 121 (v' := .bool true) rfl (congrArg Value.bool (decide_eq_true (hcv))) ?_
          refine wl_ov (ov_pick_t rfl rfl) rfl ?_
          refine wl_ov (ov_move rfl) rfl ?_
          refine wl_guard_on rfl rfl rfl ?_
          refine wl_ov (ov_move rfl) rfl ?_
          refine wl_guard_on rfl rfl rfl ?_
          refine wl_ov (ov_move rfl) rfl ?_
          refine wl_guard_on rfl rfl rfl ?_
          refine wl_ov (ov_eql rfl rfl) rfl ?_
          refine wl_set 126 (v' := .bool true) rfl (congrArg Value.bool (decide_eq_true (he1))) ?_
          refine wl_ov (ov_pick_t rfl rfl) rfl ?_
          refine wl_ov (ov_move rfl) rfl ?_
          refine wl_guard_on rfl rfl rfl ?_
          refine wl_ov (ov_move rfl) rfl ?_
          refine wl_guard_on rfl rfl rfl ?_
          refine wl_ov (ov_move rfl) rfl ?_
          refine wl_guard_on rfl rfl rfl ?_
          refine wl_ov (ov_eql rfl rfl) rfl ?_
          refine wl_set 131 (v' := .bool true) rfl (congrArg Value.bool (decide_eq_true (he2))) ?_
          refine wl_ov (ov_pick_t rfl rfl) rfl ?_
          refine wl_ov (ov_move rfl) rfl ?_
          refine wl_guard_on rfl rfl rfl ?_
          refine wl_callv rfl cb41 rfl rfl (fun wx hm => (priced_any wx)) ?_
          refine wl_ov (ov_pick_t rfl rfl) rfl ?_
          refine wl_ov (ov_assign rfl) rfl ?_
          refine wl_nil ?_
          refine nx_then ?_
          refine gw_ret ?_
          refine nx_ret1 rfl rfl fun wx hm => ?_
          exact ⟨rfl, law_end hg1 hsb hm.g⟩
    · refine wl_set 85 rfl (congrArg Value.bool hd1) ?_
      rw [one_high hd1] at ho
      refine wl_guard_on rfl rfl rfl ?_
      refine wl_ov (ov_move rfl) rfl ?_
      refine wl_guard_on rfl rfl rfl ?_
      refine wl_ov (ov_gtr rfl rfl) rfl ?_
      refine wl_ov (ov_pick_f rfl rfl) rfl ?_
      refine wl_callw rfl cb39 rfl rfl (fun wx hm => (rwhen_any _ _ wx)) ?_
      refine wl_buildSlice (e := 29) (cs := [.int .i64 (whenE (!(decide (0 ≤ IX))) 8), .int .i64 (whenE (decide (120 < dv)) 1)]) rfl (by kernel_rfl) rfl fun g9 => ?_
      refine wl_callw rfl cb37 rfl rfl (fun wx hm => (errs_any [whenE (!(decide (0 ≤ IX))) 8, whenE (decide (120 < dv)) 1] _ _ _ wx (hm.blkI 0 rfl) (by simp))) ?_
      refine wl_ov (ov_assign rfl) rfl ?_
      refine wl_nil ?_
      refine nx_then ?_
      refine gw_seq ?_
      refine gw_region ?_
      refine wl_ov (ov_move rfl) rfl ?_
      refine wl_ov (ov_eql rfl rfl) rfl ?_
      refine wl_nil ?_
      refine nx_then ?_
      refine gw_cond rfl (fun hh => ?_) (fun hh => ?_)
      · have hz1 : firstE [whenE (!(decide (0 ≤ IX))) 8, whenE (decide (120 < dv)) 1] = 0 := by simpa using hh
        clear hh
        refine gw_region ?_
        have hcv : CV = OV := by
          have h0 : exCostE l ky dv = 0 := by rw [← hCE, ho]; exact hz1
          have hw := fo_all h0
          have h1 := we_ok (by decide) (hw (whenE (!inB dv 1 120) 1) (by simp))
          have h2 := we_ok (by decide) (hw (whenE (decide (ixP (exP ky) l 0 < 0)) 8) (by simp))
          rw [← hIX] at h2
          have h2 : ¬ IX < 0 := by simpa using h2
          have h1 : inB dv 1 120 = true := by simpa using h1
          have h1 := inB_iff.1 h1
          rw [hCV, hOV, if_pos (by omega)]
          unfold exCostV
          rw [if_pos h0, show dv = ((nn : Nat) : Int) by omega]
        refine wl_ov (ov_move rfl) rfl ?_
        refine wl_ov (ov_assign rfl) rfl ?_
        refine wl_nil ?_
        refine nx_then ?_
        refine gw_seq ?_
        refine gw_seq ?_
        refine gw_region ?_
        refine wl_ov (ov_move rfl) rfl ?_
        refine wl_ov (ov_move rfl) rfl ?_
        refine wl_callv rfl cb38 rfl rfl (fun wx hm => (keyFault_any sa wx (by omega))) ?_
        refine wl_ov (ov_move rfl) rfl ?_
        refine wl_callv rfl cb38 rfl rfl (fun wx hm => (keyFault_any sz wx (by omega))) ?_
        refine wl_buildSlice (e := 29) (cs := [.int .i64 YE, .int .i64 (whenE (!keyB sa) 5), .int .i64 (whenE (!keyB sz) 5)]) rfl (by kernel_rfl) rfl fun g10 => ?_
        refine wl_callw rfl cb37 rfl rfl (fun wx hm => (errs_any [YE, whenE (!keyB sa) 5, whenE (!keyB sz) 5] _ _ _ wx (hm.blkI 0 rfl) (by simp))) ?_
        refine wl_ov (ov_assign rfl) rfl ?_
        refine wl_nil ?_
        refine nx_then ?_
        refine gw_seq ?_
        refine gw_region ?_
        refine wl_ov (ov_move rfl) rfl ?_
        refine wl_ov (ov_eql rfl rfl) rfl ?_
        refine wl_nil ?_
        refine nx_then ?_
        refine gw_cond rfl (fun hh => ?_) (fun hh => ?_)
        · have hz : firstE [YE, whenE (!keyB sa) 5, whenE (!keyB sz) 5] = 0 := by simpa using hh
          clear hh
          refine gw_seq ?_
          refine gw_region ?_
          obtain ⟨he1, he2⟩ := fee_ok (hFC.trans hz)
          rw [← hGE, ← hIY] at he1
          rw [← hGV, ← hIY, ← hFV] at he2
          refine wl_ov (ov_move rfl) rfl ?_
          refine wl_ov (ov_move rfl) rfl ?_
          refine wl_ov (ov_move rfl) rfl ?_
          refine wl_callv (v := .tuple #[.int .i64 FV, .bool (decide (0 ≤ IY) || (sa.toList == sz.toList))]) rfl cb75 rfl rfl (fun wx hm => (by rw [hFV, hIY]; exact feeFrom_any l1 A1 n1 c1 sa sz wx (hm.fact 0 rfl) (by omega))) ?_
          refine wl_ov (ov_move rfl) rfl ?_
          refine wl_ov (ov_extract rfl rfl) rfl ?_
          refine wl_ov (ov_extract rfl rfl) rfl ?_
          refine wl_ov (ov_assign rfl) rfl ?_
          refine wl_ov (ov_assign rfl) rfl ?_
          refine wl_nil ?_
          refine nx_then ?_
          refine gw_region ?_
          refine wl_ov (ov_move rfl) rfl ?_
          refine wl_ov (ov_move rfl) rfl ?_
          refine wl_ov (ov_un_not rfl) rfl ?_
          refine wl_callw rfl cb39 rfl rfl (fun wx hm => (rwhen_any _ _ wx)) ?_
          refine wl_ov (ov_assign rfl) rfl ?_
          refine wl_ov (ov_assign rfl) rfl ?_
          refine wl_nil ?_
          refine nx_then ?_
          refine gw_seq ?_
          refine gw_region ?_
          refine wl_ov (ov_move rfl) rfl ?_
          refine wl_ov (ov_move rfl) rfl ?_
          refine wl_ov (ov_eql rfl rfl) rfl ?_
          refine wl_set 117 (v' := .bool true) rfl (congrArg Value.bool (decide_eq_true (ho))) ?_
          refine wl_ov (ov_move rfl) rfl ?_
          refine wl_guard_on rfl rfl rfl ?_
          refine wl_ov (ov_move rfl) rfl ?_
          refine wl_guard_on rfl rfl rfl ?_
          refine wl_ov (ov_move rfl) rfl ?_
          refine wl_guard_on rfl rfl rfl ?_
          refine wl_ov (ov_eql rfl rfl) rfl ?_
          refine wl_set 121 (v' := .bool true) rfl (congrArg Value.bool (decide_eq_true (hcv))) ?_
          refine wl_ov (ov_pick_t rfl rfl) rfl ?_
          refine wl_ov (ov_move rfl) rfl ?_
          refine wl_guard_on rfl rfl rfl ?_
          refine wl_ov (ov_move rfl) rfl ?_
          refine wl_guard_on rfl rfl rfl ?_
          refine wl_ov (ov_move rfl) rfl ?_
          refine wl_guard_on rfl rfl rfl ?_
          refine wl_ov (ov_eql rfl rfl) rfl ?_
          refine wl_set 126 (v' := .bool true) rfl (congrArg Value.bool (decide_eq_true (he1))) ?_
          refine wl_ov (ov_pick_t rfl rfl) rfl ?_
          refine wl_ov (ov_move rfl) rfl ?_
          refine wl_guard_on rfl rfl rfl ?_
          refine wl_ov (ov_move rfl) rfl ?_
          refine wl_guard_on rfl rfl rfl ?_
          refine wl_ov (ov_move rfl) rfl ?_
          refine wl_guard_on rfl rfl rfl ?_
          refine wl_ov (ov_eql rfl rfl) rfl ?_
          refine wl_set 131 (v' := .bool true) rfl (congrArg Value.bool (decide_eq_true (he2))) ?_
          refine wl_ov (ov_pick_t rfl rfl) rfl ?_
          refine wl_ov (ov_move rfl) rfl ?_
          refine wl_guard_on rfl rfl rfl ?_
          refine wl_callv rfl cb41 rfl rfl (fun wx hm => (priced_any wx)) ?_
          refine wl_ov (ov_pick_t rfl rfl) rfl ?_
          refine wl_ov (ov_assign rfl) rfl ?_
          refine wl_nil ?_
          refine nx_then ?_
          refine gw_ret ?_
          refine nx_ret1 rfl rfl fun wx hm => ?_
          exact ⟨rfl, law_end hg1 hsb hm.g⟩
        · have hz : ¬ (firstE [YE, whenE (!keyB sa) 5, whenE (!keyB sz) 5] = 0) := by simpa using hh
          clear hh
          refine gw_skip ?_
          refine nx_then ?_
          refine gw_seq ?_
          refine gw_region ?_
          obtain ⟨he1, he2⟩ := fee_bad (fun h => hz (hFC.symm.trans h))
          rw [← hGE, hFC] at he1
          rw [← hGV] at he2
          refine wl_ov (ov_move rfl) rfl ?_
          refine wl_ov (ov_move rfl) rfl ?_
          refine wl_ov (ov_eql rfl rfl) rfl ?_
          refine wl_set 117 (v' := .bool true) rfl (congrArg Value.bool (decide_eq_true (ho))) ?_
          refine wl_ov (ov_move rfl) rfl ?_
          refine wl_guard_on rfl rfl rfl ?_
          refine wl_ov (ov_move rfl) rfl ?_
          refine wl_guard_on rfl rfl rfl ?_
          refine wl_ov (ov_move rfl) rfl ?_
          refine wl_guard_on rfl rfl rfl ?_
          refine wl_ov (ov_eql rfl rfl) rfl ?_
          refine wl_set 121 (v' := .bool true) rfl (congrArg Value.bool (decide_eq_true (hcv))) ?_
          refine wl_ov (ov_pick_t rfl rfl) rfl ?_
          refine wl_ov (ov_move rfl) rfl ?_
          refine wl_guard_on rfl rfl rfl ?_
          refine wl_ov (ov_move rfl) rfl ?_
          refine wl_guard_on rfl rfl rfl ?_
          refine wl_ov (ov_move rfl) rfl ?_
          refine wl_guard_on rfl rfl rfl ?_
          refine wl_ov (ov_eql rfl rfl) rfl ?_
          refine wl_set 126 (v' := .bool true) rfl (congrArg Value.bool (decide_eq_true (he1))) ?_
          refine wl_ov (ov_pick_t rfl rfl) rfl ?_
          refine wl_ov (ov_move rfl) rfl ?_
          refine wl_guard_on rfl rfl rfl ?_
          refine wl_ov (ov_move rfl) rfl ?_
          refine wl_guard_on rfl rfl rfl ?_
          refine wl_ov (ov_move rfl) rfl ?_
          refine wl_guard_on rfl rfl rfl ?_
          refine wl_ov (ov_eql rfl rfl) rfl ?_
          refine wl_set 131 (v' := .bool true) rfl (congrArg Value.bool (decide_eq_true (he2))) ?_
          refine wl_ov (ov_pick_t rfl rfl) rfl ?_
          refine wl_ov (ov_move rfl) rfl ?_
          refine wl_guard_on rfl rfl rfl ?_
          refine wl_callv rfl cb41 rfl rfl (fun wx hm => (priced_any wx)) ?_
          refine wl_ov (ov_pick_t rfl rfl) rfl ?_
          refine wl_ov (ov_assign rfl) rfl ?_
          refine wl_nil ?_
          refine nx_then ?_
          refine gw_ret ?_
          refine nx_ret1 rfl rfl fun wx hm => ?_
          exact ⟨rfl, law_end hg1 hsb hm.g⟩
      · have hz1 : ¬ (firstE [whenE (!(decide (0 ≤ IX))) 8, whenE (decide (120 < dv)) 1] = 0) := by simpa using hh
        clear hh
        refine gw_skip ?_
        refine nx_then ?_
        refine gw_seq ?_
        refine gw_seq ?_
        refine gw_region ?_
        have hcv : CV = 0 := by rw [hCV]; unfold exCostV; rw [if_neg (fun h => hz1 (by rw [← ho, hCE]; exact h))]
        refine wl_ov (ov_move rfl) rfl ?_
        refine wl_ov (ov_move rfl) rfl ?_
        refine wl_callv rfl cb38 rfl rfl (fun wx hm => (keyFault_any sa wx (by omega))) ?_
        refine wl_ov (ov_move rfl) rfl ?_
        refine wl_callv rfl cb38 rfl rfl (fun wx hm => (keyFault_any sz wx (by omega))) ?_
        refine wl_buildSlice (e := 29) (cs := [.int .i64 YE, .int .i64 (whenE (!keyB sa) 5), .int .i64 (whenE (!keyB sz) 5)]) rfl (by kernel_rfl) rfl fun g11 => ?_
        refine wl_callw rfl cb37 rfl rfl (fun wx hm => (errs_any [YE, whenE (!keyB sa) 5, whenE (!keyB sz) 5] _ _ _ wx (hm.blkI 0 rfl) (by simp))) ?_
        refine wl_ov (ov_assign rfl) rfl ?_
        refine wl_nil ?_
        refine nx_then ?_
        refine gw_seq ?_
        refine gw_region ?_
        refine wl_ov (ov_move rfl) rfl ?_
        refine wl_ov (ov_eql rfl rfl) rfl ?_
        refine wl_nil ?_
        refine nx_then ?_
        refine gw_cond rfl (fun hh => ?_) (fun hh => ?_)
        · have hz : firstE [YE, whenE (!keyB sa) 5, whenE (!keyB sz) 5] = 0 := by simpa using hh
          clear hh
          refine gw_seq ?_
          refine gw_region ?_
          obtain ⟨he1, he2⟩ := fee_ok (hFC.trans hz)
          rw [← hGE, ← hIY] at he1
          rw [← hGV, ← hIY, ← hFV] at he2
          refine wl_ov (ov_move rfl) rfl ?_
          refine wl_ov (ov_move rfl) rfl ?_
          refine wl_ov (ov_move rfl) rfl ?_
          refine wl_callv (v := .tuple #[.int .i64 FV, .bool (decide (0 ≤ IY) || (sa.toList == sz.toList))]) rfl cb75 rfl rfl (fun wx hm => (by rw [hFV, hIY]; exact feeFrom_any l1 A1 n1 c1 sa sz wx (hm.fact 0 rfl) (by omega))) ?_
          refine wl_ov (ov_move rfl) rfl ?_
          refine wl_ov (ov_extract rfl rfl) rfl ?_
          refine wl_ov (ov_extract rfl rfl) rfl ?_
          refine wl_ov (ov_assign rfl) rfl ?_
          refine wl_ov (ov_assign rfl) rfl ?_
          refine wl_nil ?_
          refine nx_then ?_
          refine gw_region ?_
          refine wl_ov (ov_move rfl) rfl ?_
          refine wl_ov (ov_move rfl) rfl ?_
          refine wl_ov (ov_un_not rfl) rfl ?_
          refine wl_callw rfl cb39 rfl rfl (fun wx hm => (rwhen_any _ _ wx)) ?_
          refine wl_ov (ov_assign rfl) rfl ?_
          refine wl_ov (ov_assign rfl) rfl ?_
          refine wl_nil ?_
          refine nx_then ?_
          refine gw_seq ?_
          refine gw_region ?_
          refine wl_ov (ov_move rfl) rfl ?_
          refine wl_ov (ov_move rfl) rfl ?_
          refine wl_ov (ov_eql rfl rfl) rfl ?_
          refine wl_set 117 (v' := .bool true) rfl (congrArg Value.bool (decide_eq_true (ho))) ?_
          refine wl_ov (ov_move rfl) rfl ?_
          refine wl_guard_on rfl rfl rfl ?_
          refine wl_ov (ov_move rfl) rfl ?_
          refine wl_guard_on rfl rfl rfl ?_
          refine wl_ov (ov_move rfl) rfl ?_
          refine wl_guard_on rfl rfl rfl ?_
          refine wl_ov (ov_eql rfl rfl) rfl ?_
          refine wl_set 121 (v' := .bool true) rfl (congrArg Value.bool (decide_eq_true (hcv))) ?_
          refine wl_ov (ov_pick_t rfl rfl) rfl ?_
          refine wl_ov (ov_move rfl) rfl ?_
          refine wl_guard_on rfl rfl rfl ?_
          refine wl_ov (ov_move rfl) rfl ?_
          refine wl_guard_on rfl rfl rfl ?_
          refine wl_ov (ov_move rfl) rfl ?_
          refine wl_guard_on rfl rfl rfl ?_
          refine wl_ov (ov_eql rfl rfl) rfl ?_
          refine wl_set 126 (v' := .bool true) rfl (congrArg Value.bool (decide_eq_true (he1))) ?_
          refine wl_ov (ov_pick_t rfl rfl) rfl ?_
          refine wl_ov (ov_move rfl) rfl ?_
          refine wl_guard_on rfl rfl rfl ?_
          refine wl_ov (ov_move rfl) rfl ?_
          refine wl_guard_on rfl rfl rfl ?_
          refine wl_ov (ov_move rfl) rfl ?_
          refine wl_guard_on rfl rfl rfl ?_
          refine wl_ov (ov_eql rfl rfl) rfl ?_
          refine wl_set 131 (v' := .bool true) rfl (congrArg Value.bool (decide_eq_true (he2))) ?_
          refine wl_ov (ov_pick_t rfl rfl) rfl ?_
          refine wl_ov (ov_move rfl) rfl ?_
          refine wl_guard_on rfl rfl rfl ?_
          refine wl_callv rfl cb41 rfl rfl (fun wx hm => (priced_any wx)) ?_
          refine wl_ov (ov_pick_t rfl rfl) rfl ?_
          refine wl_ov (ov_assign rfl) rfl ?_
          refine wl_nil ?_
          refine nx_then ?_
          refine gw_ret ?_
          refine nx_ret1 rfl rfl fun wx hm => ?_
          exact ⟨rfl, law_end hg1 hsb hm.g⟩
        · have hz : ¬ (firstE [YE, whenE (!keyB sa) 5, whenE (!keyB sz) 5] = 0) := by simpa using hh
          clear hh
          refine gw_skip ?_
          refine nx_then ?_
          refine gw_seq ?_
          refine gw_region ?_
          obtain ⟨he1, he2⟩ := fee_bad (fun h => hz (hFC.symm.trans h))
          rw [← hGE, hFC] at he1
          rw [← hGV] at he2
          refine wl_ov (ov_move rfl) rfl ?_
          refine wl_ov (ov_move rfl) rfl ?_
          refine wl_ov (ov_eql rfl rfl) rfl ?_
          refine wl_set 117 (v' := .bool true) rfl (congrArg Value.bool (decide_eq_true (ho))) ?_
          refine wl_ov (ov_move rfl) rfl ?_
          refine wl_guard_on rfl rfl rfl ?_
          refine wl_ov (ov_move rfl) rfl ?_
          refine wl_guard_on rfl rfl rfl ?_
          refine wl_ov (ov_move rfl) rfl ?_
          refine wl_guard_on rfl rfl rfl ?_
          refine wl_ov (ov_eql rfl rfl) rfl ?_
          refine wl_set 121 (v' := .bool true) rfl (congrArg Value.bool (decide_eq_true (hcv))) ?_
          refine wl_ov (ov_pick_t rfl rfl) rfl ?_
          refine wl_ov (ov_move rfl) rfl ?_
          refine wl_guard_on rfl rfl rfl ?_
          refine wl_ov (ov_move rfl) rfl ?_
          refine wl_guard_on rfl rfl rfl ?_
          refine wl_ov (ov_move rfl) rfl ?_
          refine wl_guard_on rfl rfl rfl ?_
          refine wl_ov (ov_eql rfl rfl) rfl ?_
          refine wl_set 126 (v' := .bool true) rfl (congrArg Value.bool (decide_eq_true (he1))) ?_
          refine wl_ov (ov_pick_t rfl rfl) rfl ?_
          refine wl_ov (ov_move rfl) rfl ?_
          refine wl_guard_on rfl rfl rfl ?_
          refine wl_ov (ov_move rfl) rfl ?_
          refine wl_guard_on rfl rfl rfl ?_
          refine wl_ov (ov_move rfl) rfl ?_
          refine wl_guard_on rfl rfl rfl ?_
          refine wl_ov (ov_eql rfl rfl) rfl ?_
          refine wl_set 131 (v' := .bool true) rfl (congrArg Value.bool (decide_eq_true (he2))) ?_
          refine wl_ov (ov_pick_t rfl rfl) rfl ?_
          refine wl_ov (ov_move rfl) rfl ?_
          refine wl_guard_on rfl rfl rfl ?_
          refine wl_callv rfl cb41 rfl rfl (fun wx hm => (priced_any wx)) ?_
          refine wl_ov (ov_pick_t rfl rfl) rfl ?_
          refine wl_ov (ov_assign rfl) rfl ?_
          refine wl_nil ?_
          refine nx_then ?_
          refine gw_ret ?_
          refine nx_ret1 rfl rfl fun wx hm => ?_
          exact ⟨rfl, law_end hg1 hsb hm.g⟩
  · have hx : ¬ (XE = 0) := by simpa using hh
    clear hh
    refine gw_skip ?_
    refine nx_then ?_
    refine gw_seq ?_
    refine gw_seq ?_
    refine gw_region ?_
    obtain ⟨hb1, hb2⟩ := exCost_bad (l := l) (k := ky) (n := dv) (fun h => hx (hXE.trans h))
    rw [← hCE, ← hXE] at hb1
    rw [← hCV] at hb2
    refine wl_ov (ov_move rfl) rfl ?_
    refine wl_ov (ov_move rfl) rfl ?_
    refine wl_callv rfl cb38 rfl rfl (fun wx hm => (keyFault_any sa wx (by omega))) ?_
    refine wl_ov (ov_move rfl) rfl ?_
    refine wl_callv rfl cb38 rfl rfl (fun wx hm => (keyFault_any sz wx (by omega))) ?_
    refine wl_buildSlice (e := 29) (cs := [.int .i64 YE, .int .i64 (whenE (!keyB sa) 5), .int .i64 (whenE (!keyB sz) 5)]) rfl (by kernel_rfl) rfl fun g5 => ?_
    refine wl_callw rfl cb37 rfl rfl (fun wx hm => (errs_any [YE, whenE (!keyB sa) 5, whenE (!keyB sz) 5] _ _ _ wx (hm.blkI 0 rfl) (by simp))) ?_
    refine wl_ov (ov_assign rfl) rfl ?_
    refine wl_nil ?_
    refine nx_then ?_
    refine gw_seq ?_
    refine gw_region ?_
    refine wl_ov (ov_move rfl) rfl ?_
    refine wl_ov (ov_eql rfl rfl) rfl ?_
    refine wl_nil ?_
    refine nx_then ?_
    refine gw_cond rfl (fun hh => ?_) (fun hh => ?_)
    · have hz : firstE [YE, whenE (!keyB sa) 5, whenE (!keyB sz) 5] = 0 := by simpa using hh
      clear hh
      refine gw_seq ?_
      refine gw_region ?_
      obtain ⟨he1, he2⟩ := fee_ok (hFC.trans hz)
      rw [← hGE, ← hIY] at he1
      rw [← hGV, ← hIY, ← hFV] at he2
      refine wl_ov (ov_move rfl) rfl ?_
      refine wl_ov (ov_move rfl) rfl ?_
      refine wl_ov (ov_move rfl) rfl ?_
      refine wl_callv (v := .tuple #[.int .i64 FV, .bool (decide (0 ≤ IY) || (sa.toList == sz.toList))]) rfl cb75 rfl rfl (fun wx hm => (by rw [hFV, hIY]; exact feeFrom_any l1 A1 n1 c1 sa sz wx (hm.fact 0 rfl) (by omega))) ?_
      refine wl_ov (ov_move rfl) rfl ?_
      refine wl_ov (ov_extract rfl rfl) rfl ?_
      refine wl_ov (ov_extract rfl rfl) rfl ?_
      refine wl_ov (ov_assign rfl) rfl ?_
      refine wl_ov (ov_assign rfl) rfl ?_
      refine wl_nil ?_
      refine nx_then ?_
      refine gw_region ?_
      refine wl_ov (ov_move rfl) rfl ?_
      refine wl_ov (ov_move rfl) rfl ?_
      refine wl_ov (ov_un_not rfl) rfl ?_
      refine wl_callw rfl cb39 rfl rfl (fun wx hm => (rwhen_any _ _ wx)) ?_
      refine wl_ov (ov_assign rfl) rfl ?_
      refine wl_ov (ov_assign rfl) rfl ?_
      refine wl_nil ?_
      refine nx_then ?_
      refine gw_seq ?_
      refine gw_region ?_
      refine wl_ov (ov_move rfl) rfl ?_
      refine wl_ov (ov_move rfl) rfl ?_
      refine wl_ov (ov_eql rfl rfl) rfl ?_
      refine wl_set 117 (v' := .bool true) rfl (congrArg Value.bool (decide_eq_true (hb1))) ?_
      refine wl_ov (ov_move rfl) rfl ?_
      refine wl_guard_on rfl rfl rfl ?_
      refine wl_ov (ov_move rfl) rfl ?_
      refine wl_guard_on rfl rfl rfl ?_
      refine wl_ov (ov_move rfl) rfl ?_
      refine wl_guard_on rfl rfl rfl ?_
      refine wl_ov (ov_eql rfl rfl) rfl ?_
      refine wl_set 121 (v' := .bool true) rfl (congrArg Value.bool (decide_eq_true (hb2))) ?_
      refine wl_ov (ov_pick_t rfl rfl) rfl ?_
      refine wl_ov (ov_move rfl) rfl ?_
      refine wl_guard_on rfl rfl rfl ?_
      refine wl_ov (ov_move rfl) rfl ?_
      refine wl_guard_on rfl rfl rfl ?_
      refine wl_ov (ov_move rfl) rfl ?_
      refine wl_guard_on rfl rfl rfl ?_
      refine wl_ov (ov_eql rfl rfl) rfl ?_
      refine wl_set 126 (v' := .bool true) rfl (congrArg Value.bool (decide_eq_true (he1))) ?_
      refine wl_ov (ov_pick_t rfl rfl) rfl ?_
      refine wl_ov (ov_move rfl) rfl ?_
      refine wl_guard_on rfl rfl rfl ?_
      refine wl_ov (ov_move rfl) rfl ?_
      refine wl_guard_on rfl rfl rfl ?_
      refine wl_ov (ov_move rfl) rfl ?_
      refine wl_guard_on rfl rfl rfl ?_
      refine wl_ov (ov_eql rfl rfl) rfl ?_
      refine wl_set 131 (v' := .bool true) rfl (congrArg Value.bool (decide_eq_true (he2))) ?_
      refine wl_ov (ov_pick_t rfl rfl) rfl ?_
      refine wl_ov (ov_move rfl) rfl ?_
      refine wl_guard_on rfl rfl rfl ?_
      refine wl_callv rfl cb41 rfl rfl (fun wx hm => (priced_any wx)) ?_
      refine wl_ov (ov_pick_t rfl rfl) rfl ?_
      refine wl_ov (ov_assign rfl) rfl ?_
      refine wl_nil ?_
      refine nx_then ?_
      refine gw_ret ?_
      refine nx_ret1 rfl rfl fun wx hm => ?_
      exact ⟨rfl, law_end hg1 hsb hm.g⟩
    · have hz : ¬ (firstE [YE, whenE (!keyB sa) 5, whenE (!keyB sz) 5] = 0) := by simpa using hh
      clear hh
      refine gw_skip ?_
      refine nx_then ?_
      refine gw_seq ?_
      refine gw_region ?_
      obtain ⟨he1, he2⟩ := fee_bad (fun h => hz (hFC.symm.trans h))
      rw [← hGE, hFC] at he1
      rw [← hGV] at he2
      refine wl_ov (ov_move rfl) rfl ?_
      refine wl_ov (ov_move rfl) rfl ?_
      refine wl_ov (ov_eql rfl rfl) rfl ?_
      refine wl_set 117 (v' := .bool true) rfl (congrArg Value.bool (decide_eq_true (hb1))) ?_
      refine wl_ov (ov_move rfl) rfl ?_
      refine wl_guard_on rfl rfl rfl ?_
      refine wl_ov (ov_move rfl) rfl ?_
      refine wl_guard_on rfl rfl rfl ?_
      refine wl_ov (ov_move rfl) rfl ?_
      refine wl_guard_on rfl rfl rfl ?_
      refine wl_ov (ov_eql rfl rfl) rfl ?_
      refine wl_set 121 (v' := .bool true) rfl (congrArg Value.bool (decide_eq_true (hb2))) ?_
      refine wl_ov (ov_pick_t rfl rfl) rfl ?_
      refine wl_ov (ov_move rfl) rfl ?_
      refine wl_guard_on rfl rfl rfl ?_
      refine wl_ov (ov_move rfl) rfl ?_
      refine wl_guard_on rfl rfl rfl ?_
      refine wl_ov (ov_move rfl) rfl ?_
      refine wl_guard_on rfl rfl rfl ?_
      refine wl_ov (ov_eql rfl rfl) rfl ?_
      refine wl_set 126 (v' := .bool true) rfl (congrArg Value.bool (decide_eq_true (he1))) ?_
      refine wl_ov (ov_pick_t rfl rfl) rfl ?_
      refine wl_ov (ov_move rfl) rfl ?_
      refine wl_guard_on rfl rfl rfl ?_
      refine wl_ov (ov_move rfl) rfl ?_
      refine wl_guard_on rfl rfl rfl ?_
      refine wl_ov (ov_move rfl) rfl ?_
      refine wl_guard_on rfl rfl rfl ?_
      refine wl_ov (ov_eql rfl rfl) rfl ?_
      refine wl_set 131 (v' := .bool true) rfl (congrArg Value.bool (decide_eq_true (he2))) ?_
      refine wl_ov (ov_pick_t rfl rfl) rfl ?_
      refine wl_ov (ov_move rfl) rfl ?_
      refine wl_guard_on rfl rfl rfl ?_
      refine wl_callv rfl cb41 rfl rfl (fun wx hm => (priced_any wx)) ?_
      refine wl_ov (ov_pick_t rfl rfl) rfl ?_
      refine wl_ov (ov_assign rfl) rfl ?_
      refine wl_nil ?_
      refine nx_then ?_
      refine gw_ret ?_
      refine nx_ret1 rfl rfl fun wx hm => ?_
      exact ⟨rfl, law_end hg1 hsb hm.g⟩

end Go.Proofs.YtmpomocahgcebaaDoor
