/- The walk of the law RateChecks. -/
import Derived.Test.YtmpomocahgcebaaDoorTm
import Derived.Test.YtmpomocahgcebaaDoorTb
import Derived.Test.YtmpomocahgcebaaDoorSg
import Derived.Test.YtmpomocahgcebaaDoorGt
import Derived.Test.YtmpomocahgcebaaDoorRt
namespace Go.Proofs.YtmpomocahgcebaaDoor
open Go.RowKit

set_option maxRecDepth 100000 in
theorem same_rate_neq (x0 : ByteArray) (x1 : Int) (x2 : Int) (x3 : Int) (x4 : Int) (x5 : Int) (x6 : Int) (w : World) : (binOp .neq 61 (.agg #[.string x0, .int .i64 x1, .int .i64 x2, .int .i64 x3, .int .i64 x4, .int .i64 x5, .int .i64 x6]) (.agg #[.string x0, .int .i64 x1, .int .i64 x2, .int .i64 x3, .int .i64 x4, .int .i64 x5, .int .i64 x6])).run Tryd.prog w = .ok (.bool false) w := by
  have hS : Tryd.prog.underlying 61 = some (.struct (Tryd.prog.fieldsOf 61)) := by kernel_rfl
  have hp : Tryd.prog.stoodInHeld 61 = false := by kernel_rfl
  rw [run_neq_struct, show (10000 : Nat) = 9999 + 1 from rfl, run_equalIn_agg w 9999 61 _ _ hS hp]
  simp only [Program.fieldsOf, Tryd.underlying61]
  have u3 := Tryd.underlying3
  have u9 := Tryd.underlying9
  clear hS hp
  go_simp
set_option maxRecDepth 100000 in
theorem same_rate_eql (x0 : ByteArray) (x1 : Int) (x2 : Int) (x3 : Int) (x4 : Int) (x5 : Int) (x6 : Int) (w : World) : (binOp .eql 61 (.agg #[.string x0, .int .i64 x1, .int .i64 x2, .int .i64 x3, .int .i64 x4, .int .i64 x5, .int .i64 x6]) (.agg #[.string x0, .int .i64 x1, .int .i64 x2, .int .i64 x3, .int .i64 x4, .int .i64 x5, .int .i64 x6])).run Tryd.prog w = .ok (.bool true) w := by
  have hS : Tryd.prog.underlying 61 = some (.struct (Tryd.prog.fieldsOf 61)) := by kernel_rfl
  have hp : Tryd.prog.stoodInHeld 61 = false := by kernel_rfl
  rw [run_eql_struct, show (10000 : Nat) = 9999 + 1 from rfl, run_equalIn_agg w 9999 61 _ _ hS hp]
  simp only [Program.fieldsOf, Tryd.underlying61]
  have u3 := Tryd.underlying3
  have u9 := Tryd.underlying9
  clear hS hp
  go_simp
theorem guard_rate : Tryd.prog.eqGuardType Tryd.prog.depth 61 = false := by kernel_rfl

theorem out_low {d hi e : Int} (h : decide (d < 0) = true) : whenE (!inB d 0 hi) e = whenE true e := by
  have h := of_decide_eq_true h
  rw [inB_false.2 (by omega)]; rfl
theorem out_high {d hi e : Int} (h : decide (d < 0) = false) : whenE (!inB d 0 hi) e = whenE (decide (hi < d)) e := by
  have h := of_decide_eq_false h
  by_cases h2 : hi < d
  · rw [inB_false.2 (by omega), decide_eq_true h2]; rfl
  · rw [inB_iff.2 (by omega), decide_eq_false h2]; rfl

set_option maxRecDepth 100000 in
set_option maxHeartbeats 2000000 in
theorem rateChecks_walk (a0 : Option Addr) (len0 cap0 : Nat) (z0 : List Int) (w : World) (hR : RowIn w a0 len0 cap0 z0) :
    Calls Tryd.prog 5 #[.slice a0 len0 cap0] w fun e w' => e = .returned (.bool true) ∧ Below w.heap.size w w' := by
  refine gw_enter ⟨107, w, none, []⟩ Tryd.func5 rfl Tryd.ntmps5 rfl (mem0 (X := []) allF_nil allL_nil) ?_
  refine gw_seq ?_
  refine gw_region ?_
  refine wl_ov (ov_assign rfl) rfl ?_
  refine wl_nil ?_
  refine nx_then ?_
  refine gw_seq ?_
  refine gw_region ?_
  refine wl_ov (ov_move rfl) rfl ?_
  refine wl_ov (ov_build (cs := [.slice a0 len0 cap0, .int .i64 0]) rfl (by kernel_rfl)) rfl ?_
  refine wl_box rfl rfl rfl fun sb => ?_
  refine wl_ov (ov_assign rfl) rfl ?_
  refine wl_nil ?_
  refine nx_then ?_
  refine gw_seq ?_
  refine gw_region ?_
  refine wl_ov (ov_move rfl) rfl ?_
  refine wl_law [61] hR 0 rfl fun w1 B hg1 hsb => ?_
  refine wl_calls (γ := Option Addr × Nat × Nat × List Rt) (val := (fun (g : Option Addr × Nat × Nat × List Rt) => .slice g.1 g.2.1 g.2.2.1)) (φ := (fun (g : Option Addr × Nat × Nat × List Rt) => (∀ x ∈ g.2.2.2, RtOk x) ∧ g.2.1 ≤ 10 ∧ g.2.1 ≤ g.2.2.1 ∧ g.2.2.2.length = g.2.1)) (Y := (fun (g : Option Addr × Nat × Nat × List Rt) => fun wy => SlT rtEnc 7 61 wy g.1 g.2.1 g.2.2.2)) (m' := 0 + 200) rfl cb28 rfl rfl rfl rfl (fun wx hm => (grates_any wx B sb _ hm.k (by omega)).mono fun _ _ ⟨A, n, c0, l, he, hsl, hok, hn, hnc, hS, hg⟩ => ⟨(A, n, c0, l), he, ⟨hok, hn, hnc, hsl.len⟩, hS, hg, hsl⟩) (fun _ => SlT.lasts2 rfl) ?_
  rintro ⟨A, n, c0, l⟩ hR1
  dsimp only at hR1 ⊢
  obtain ⟨hok, hn10, hnc, hlen⟩ := hR1
  refine wl_ov (ov_move rfl) rfl ?_
  refine wl_calls (γ := Int × Int) (val := (fun (g : Int × Int) => .agg #[.int .i64 g.1, .int .i64 g.2])) (φ := (fun (g : Int × Int) => Far g.1 ∧ Far g.2)) (Y := (fun (g : Int × Int) => fun _ => True)) (m' := 0 + 200 + 10) rfl cb29 rfl rfl rfl rfl (fun wx hm => (gtime_any wx B sb _ hm.k (by omega)).mono fun _ _ ⟨fr, tt, h1, h2, he, hS, hg⟩ => ⟨(fr, tt), he, ⟨h1, h2⟩, hS, hg, trivial⟩) (fun _ => Lasts2.true_) ?_
  rintro ⟨fr, tt⟩ hT1
  dsimp only at hT1 ⊢
  obtain ⟨⟨hf0, hf1⟩, hf2, hf3⟩ := hT1
  refine wl_ov (ov_move rfl) rfl ?_
  refine wl_calls (γ := ByteArray) (val := (fun (g : ByteArray) => .string g)) (φ := (fun (g : ByteArray) => g.size ≤ 100)) (Y := (fun (g : ByteArray) => fun _ => True)) (m' := 0 + 200 + 10 + 1) rfl cb30 rfl rfl rfl rfl (fun wx hm => (gclassKey_any wx B sb _ hm.k (by omega)).mono fun _ _ ⟨v, he, hv, hS, hg⟩ => ⟨v, he, hv, hS, hg, trivial⟩) (fun _ => Lasts2.true_) ?_
  rintro c hc1
  refine wl_ov (ov_move rfl) rfl ?_
  refine wl_buildSlice (e := 3) (cs := [.int .i64 0, .int .i64 1, .int .i64 3, .int .i64 5, .int .i64 20, .int .i64 4000, .int .i64 (-1), .int .i64 4001]) rfl (by kernel_rfl) rfl fun g3 => ?_
  refine wl_got (γ := Int) (val := fun v => .int .i64 v) (φ := fun v => v ∈ ([0, 1, 3, 5, 20, 4000, -1, 4001] : List Int)) rfl cb23 rfl rfl rfl rfl (fun wx hm => (pick_any [0, 1, 3, 5, 20, 4000, -1, 4001] _ _ _ wx B sb _ hm.k (by omega) (by simp) (by simp) (hm.blkI 0 rfl) (hm.neRow 0 rfl rfl))) fun v4 hv4 => ?_
  have bv4 : -1 ≤ v4 ∧ v4 ≤ 4001 := mem_rng hv4 (by decide)
  have bv40 := bv4.1
  have bv41 := bv4.2
  clear bv4
  refine wl_alloc zc56 rfl fun g5 => ?_
  refine wl_ov (ov_assign rfl) rfl ?_
  refine wl_stores (cs' := [.int .i64 fr, .int .i64 tt]) 0 rz56 rfl rfl rfl rfl rfl rfl rfl rfl ?_
  refine wl_ov (ov_assign rfl) rfl ?_
  refine wl_ov (ov_assign rfl) rfl ?_
  refine wl_nil ?_
  refine nx_then ?_
  refine gw_seq ?_
  refine gw_region ?_
  refine wl_ov (ov_loads rz56 rfl (fun _ hm => hm.blkI 0 rfl) rfl rfl) rfl ?_
  refine wl_nest none [] fun w2 hm_w2 => ⟨_, _, _, _, mem0 (X := [BlkOld w2.heap.size none g5 56 [.int .i64 fr, .int .i64 tt], BlkOld w2.heap.size none g3 3 [.int .i64 0, .int .i64 1, .int .i64 3, .int .i64 5, .int .i64 20, .int .i64 4000, .int .i64 (-1), .int .i64 4001], SlOld rtEnc 7 61 w2.heap.size none A n l]) (allF_cons (hm_w2.blkI 0 rfl).old (allF_cons (hm_w2.blkI 1 rfl).old (allF_cons (SlT.old (hm_w2.fact 2 rfl)) allF_nil))) (allL_cons BlkOld.lasts (allL_cons BlkOld.lasts (allL_cons SlOld.lasts allL_nil))), ?_⟩
  obtain ⟨RE, hRE⟩ : ∃ E, E = ratesE l := ⟨_, rfl⟩
  obtain ⟨TE, hTE⟩ : ∃ E, E = timeE fr tt := ⟨_, rfl⟩
  obtain ⟨ND, hND⟩ : ∃ E, E = (if timeE fr tt = 0 then daysV fr tt else 0) := ⟨_, rfl⟩
  obtain ⟨OE, hOE⟩ : ∃ E, E = rateOnE l c v4 := ⟨_, rfl⟩
  obtain ⟨OV, hOV⟩ : ∃ E, E = rateOnV l c v4 := ⟨_, rfl⟩
  obtain ⟨r0, r1, r2, r3, r4, r5, r6⟩ := OV
  refine wl_callv (v := .tuple #[.int .i64 ND, .int .i64 TE]) rfl cb31 rfl rfl (fun wx hm => (by rw [hND, hTE]; exact tdays_any fr tt wx)) ?_
  refine wl_ov (ov_move rfl) rfl ?_
  refine wl_ov (ov_extract rfl rfl) rfl ?_
  refine wl_ov (ov_extract rfl rfl) rfl ?_
  refine wl_ov (ov_assign rfl) rfl ?_
  refine wl_ov (ov_assign rfl) rfl ?_
  refine wl_nil ?_
  refine nx_then ?_
  refine gw_seq ?_
  refine gw_region ?_
  refine wl_ov (ov_move rfl) rfl ?_
  refine wl_ov (ov_move rfl) rfl ?_
  refine wl_ov (ov_move rfl) rfl ?_
  refine wl_callv (v := .tuple #[.agg #[.string r0, .int .i64 r1, .int .i64 r2, .int .i64 r3, .int .i64 r4, .int .i64 r5, .int .i64 r6], .int .i64 OE]) rfl cb32 rfl rfl (fun wx hm => (by have h := tRateOn_any l A n c0 c v4 wx (hm.fact 2 rfl).1 hok (by omega) (by omega); rw [← hOE, ← hOV] at h; exact h)) ?_
  refine wl_ov (ov_move rfl) rfl ?_
  refine wl_ov (ov_extract rfl rfl) rfl ?_
  refine wl_ov (ov_extract rfl rfl) rfl ?_
  refine wl_alloc zc61 rfl fun g6 => ?_
  refine wl_stores (cs' := [.string r0, .int .i64 r1, .int .i64 r2, .int .i64 r3, .int .i64 r4, .int .i64 r5, .int .i64 r6]) 0 rz61 rfl rfl rfl rfl rfl rfl rfl rfl ?_
  refine wl_ov (ov_assign rfl) rfl ?_
  refine wl_nil ?_
  refine nx_then ?_
  refine gw_seq ?_
  refine gw_region ?_
  refine wl_ov (ov_move rfl) rfl ?_
  refine wl_callv (v := .int .i64 RE) rfl cb33 rfl rfl (fun wx hm => (by rw [hRE]; exact ratesFault_any l A n c0 wx (hm.fact 2 rfl).1 hok (by omega))) ?_
  refine wl_ov (ov_assign rfl) rfl ?_
  refine wl_nil ?_
  refine nx_then ?_
  refine gw_seq ?_
  refine gw_seq ?_
  refine gw_region ?_
  refine wl_ov (ov_move rfl) rfl ?_
  refine wl_callv (v := .int .i64 RE) rfl cb34 rfl rfl (fun wx hm => (by rw [hRE]; exact checkRates_any l A n c0 wx (hm.fact 2 rfl).1 hok (by omega))) ?_
  refine wl_ov (ov_move rfl) rfl ?_
  refine wl_ov (ov_neq rfl rfl) rfl ?_
  refine wl_set 45 (v' := .bool false) rfl (congrArg Value.bool (by simp)) ?_
  refine wl_ov (ov_move rfl) rfl ?_
  refine wl_guard_on rfl rfl rfl ?_
  refine wl_ov (ov_move rfl) rfl ?_
  refine wl_guard_on rfl rfl rfl ?_
  refine wl_ov (ov_loads rz56 rfl (fun _ hm => (hm.fact 0 rfl).2) rfl rfl) rfl ?_
  refine wl_guard_on rfl rfl rfl ?_
  refine wl_callv (v := .int .i64 TE) rfl cb35 rfl rfl (fun wx hm => (by rw [hTE]; exact timeFault_any _ _ wx)) ?_
  refine wl_guard_on rfl rfl rfl ?_
  refine wl_ov (ov_neq rfl rfl) rfl ?_
  refine wl_set 50 (v' := .bool false) rfl (congrArg Value.bool (by simp)) ?_
  refine wl_ov (ov_pick_f rfl rfl) rfl ?_
  refine wl_ov (ov_move rfl) rfl ?_
  refine wl_guard_on rfl rfl rfl ?_
  refine wl_ov (ov_move rfl) rfl ?_
  refine wl_guard_on rfl rfl rfl ?_
  refine wl_ov (ov_eql rfl rfl) rfl ?_
  refine wl_guard_on rfl rfl rfl ?_
  refine wl_ov (ov_move rfl) rfl ?_
  rcases Bool.eq_false_or_eq_true (decide (TE = 0)) with hte | hte
  · refine wl_set 55 rfl (congrArg Value.bool hte) ?_
    have hte := of_decide_eq_true hte
    obtain ⟨hq0, hq1, hq2, _⟩ := timeE_ok (hTE.symm.trans hte)
    have hnd : ND = daysV fr tt := by rw [hND, if_pos (hTE.symm.trans hte)]
    refine wl_guard_on rfl rfl rfl ?_
    refine wl_ov (ov_move rfl) rfl ?_
    refine wl_guard_on rfl rfl rfl ?_
    refine wl_ov (ov_loads rz56 rfl (fun _ hm => (hm.fact 0 rfl).2) rfl rfl) rfl ?_
    refine wl_guard_on rfl rfl rfl ?_
    refine wl_callv rfl cb36 rfl rfl (fun wx hm => (daysOf_any fr tt wx hq0 (by omega) hq2)) ?_
    refine wl_guard_on rfl rfl rfl ?_
    refine wl_ov (ov_neq rfl rfl) rfl ?_
    refine wl_set 59 (v' := .bool false) rfl (congrArg Value.bool (by rw [hnd]; simp)) ?_
    refine wl_guard_on rfl rfl rfl ?_
    refine wl_ov (ov_pick_t rfl rfl) rfl ?_
    refine wl_ov (ov_pick_f rfl rfl) rfl ?_
    refine wl_ov (ov_move rfl) rfl ?_
    refine wl_guard_on rfl rfl rfl ?_
    refine wl_ov (ov_move rfl) rfl ?_
    refine wl_guard_on rfl rfl rfl ?_
    refine wl_ov (ov_neq rfl rfl) rfl ?_
    refine wl_set 64 (v' := .bool false) rfl (congrArg Value.bool (by rw [decide_eq_true hte]; rfl)) ?_
    refine wl_guard_on rfl rfl rfl ?_
    refine wl_ov (ov_move rfl) rfl ?_
    refine wl_guard_off rfl rfl rfl (by decide) rfl ?_
    refine wl_guard_off rfl rfl rfl (by decide) rfl ?_
    refine wl_guard_on rfl rfl rfl ?_
    refine wl_ov (ov_pick_f rfl rfl) rfl ?_
    refine wl_ov (ov_pick_f rfl rfl) rfl ?_
    refine wl_nil ?_
    refine nx_then ?_
    refine gw_cond rfl (fun hh => by cases hh) (fun _ => ?_)
    refine gw_skip ?_
    refine nx_then ?_
    refine gw_seq ?_
    refine gw_region ?_
    refine wl_ov (ov_build (cs := [.string ⟨#[]⟩, .int .i64 0, .int .i64 0, .int .i64 0, .int .i64 0, .int .i64 0, .int .i64 0]) rfl (by kernel_rfl)) rfl ?_
    refine wl_alloc zc61 rfl fun g7 => ?_
    refine wl_stores (cs' := [.string ⟨#[]⟩, .int .i64 0, .int .i64 0, .int .i64 0, .int .i64 0, .int .i64 0, .int .i64 0]) 0 rz61 rfl rfl rfl rfl rfl rfl rfl rfl ?_
    refine wl_nil ?_
    refine nx_then ?_
    refine gw_seq ?_
    refine gw_seq ?_
    refine gw_region ?_
    refine wl_ov (ov_move rfl) rfl ?_
    refine wl_ov (ov_move rfl) rfl ?_
    refine wl_callv rfl cb38 rfl rfl (fun wx hm => (keyFault_any c wx (by omega))) ?_
    refine wl_ov (ov_move rfl) rfl ?_
    refine wl_ov (ov_lss rfl rfl) rfl ?_
    refine wl_ov (ov_move rfl) rfl ?_
    rcases Bool.eq_false_or_eq_true (decide (v4 < 0)) with hd0 | hd0
    · refine wl_set 76 rfl (congrArg Value.bool hd0) ?_
      have hw : whenE (!inB v4 0 4000) 1 = whenE true 1 := out_low hd0
      refine wl_guard_off rfl rfl rfl (by decide) rfl ?_
      refine wl_guard_off rfl rfl rfl (by decide) rfl ?_
      refine wl_ov (ov_pick_t rfl rfl) rfl ?_
      refine wl_callw rfl cb39 rfl rfl (fun wx hm => (rwhen_any _ _ wx)) ?_
      refine wl_buildSlice (e := 29) (cs := [.int .i64 RE, .int .i64 (whenE (!keyB c) 5), .int .i64 (whenE true 1)]) rfl (by kernel_rfl) rfl fun g8 => ?_
      refine wl_callw rfl cb37 rfl rfl (fun wx hm => (errs_any [RE, whenE (!keyB c) 5, whenE true 1] _ _ _ wx (hm.blkI 0 rfl) (by simp))) ?_
      refine wl_ov (ov_assign rfl) rfl ?_
      refine wl_nil ?_
      refine nx_then ?_
      refine gw_seq ?_
      refine gw_region ?_
      refine wl_ov (ov_move rfl) rfl ?_
      refine wl_ov (ov_eql rfl rfl) rfl ?_
      refine wl_nil ?_
      refine nx_then ?_
      refine gw_cond rfl (fun hh => ?_) (fun hh => ?_)
      · have hz : firstE [RE, whenE (!keyB c) 5, whenE true 1] = 0 := by simpa using hh
        clear hh
        refine gw_seq ?_
        refine gw_region ?_
        have hz2 : firstE [ratesE l, whenE (!keyB c) 5, whenE (!inB v4 0 4000) 1] = 0 := by rw [hw, ← hRE]; exact hz
        have hr0 : ratesE l = 0 := fe_all hz2 _ (by simp)
        have hpos := rt_pos hr0
        obtain ⟨IX, hIX⟩ : ∃ E, E = ixP (rateP c v4) l 0 := ⟨_, rfl⟩
        have hva : rateV l c v4 = ⟨r0, r1, r2, r3, r4, r5, r6⟩ := by rw [hOV]; unfold rateOnV; rw [if_pos hz2]
        have hoe : OE = whenE (!decide (0 ≤ IX)) 8 := by
          rw [hOE]; unfold rateOnE; rw [if_pos hz2, ← hIX]
          by_cases h : IX < 0
          · rw [if_pos h, decide_eq_false (by omega)]; rfl
          · rw [if_neg h, decide_eq_true (by omega)]; rfl
        refine wl_ov (ov_move rfl) rfl ?_
        refine wl_ov (ov_move rfl) rfl ?_
        refine wl_ov (ov_move rfl) rfl ?_
        refine wl_callv (v := .tuple #[.agg #[.string r0, .int .i64 r1, .int .i64 r2, .int .i64 r3, .int .i64 r4, .int .i64 r5, .int .i64 r6], .bool (decide (0 ≤ IX))]) rfl cb40 rfl rfl (fun wx hm => (by have h := rateAt_any l A n c0 c v4 wx (hm.fact 2 rfl).1 (by omega) hpos; rw [← hIX, hva] at h; exact h)) ?_
        refine wl_ov (ov_move rfl) rfl ?_
        refine wl_ov (ov_extract rfl rfl) rfl ?_
        refine wl_ov (ov_extract rfl rfl) rfl ?_
        refine wl_alloc zc61 rfl fun g9 => ?_
        refine wl_stores (cs' := [.string r0, .int .i64 r1, .int .i64 r2, .int .i64 r3, .int .i64 r4, .int .i64 r5, .int .i64 r6]) 0 rz61 rfl rfl rfl rfl rfl rfl rfl rfl ?_
        refine wl_ov (ov_assign rfl) rfl ?_
        refine wl_nil ?_
        refine nx_then ?_
        refine gw_draw (fun wz => Blk wz g9 61 [.string r0, .int .i64 r1, .int .i64 r2, .int .i64 r3, .int .i64 r4, .int .i64 r5, .int .i64 r6] ∧ Blk wz g8 29 [.int .i64 RE, .int .i64 (whenE (!keyB c) 5), .int .i64 (whenE true 1)] ∧ Blk wz g6 61 [.string r0, .int .i64 r1, .int .i64 r2, .int .i64 r3, .int .i64 r4, .int .i64 r5, .int .i64 r6] ∧ (BlkOld w2.heap.size none g5 56 [.int .i64 fr, .int .i64 tt]) wz ∧ (BlkOld w2.heap.size none g3 3 [.int .i64 0, .int .i64 1, .int .i64 3, .int .i64 5, .int .i64 20, .int .i64 4000, .int .i64 (-1), .int .i64 4001]) wz ∧ (SlOld rtEnc 7 61 w2.heap.size none A n l) wz ∧ True) mixed ?_
        refine wa_take 0 rfl (by kernel_rfl) (by kernel_rfl) (by kernel_rfl) (listed' := #[true, false, false, false, false, false]) rfl (fun _ _ _ h => h) (fun _ hm => ⟨hm.blkI 0 rfl, hm.blkI 1 rfl, hm.blkI 3 rfl, hm.fact 0 rfl, hm.fact 1 rfl, hm.fact 2 rfl, trivial⟩) (ov_loads rz61 rfl (fun _ hm => hm.1) rfl rfl) rfl ?_
        refine wa_take 1 rfl (by kernel_rfl) (by kernel_rfl) (by kernel_rfl) (listed' := #[true, true, false, false, false, false]) rfl (fun _ _ _ h => h) (fun _ hm => ⟨hm.blkI 0 rfl, hm.blkI 1 rfl, hm.blkI 3 rfl, hm.fact 0 rfl, hm.fact 1 rfl, hm.fact 2 rfl, trivial⟩) (ov_move rfl) rfl ?_
        refine wa_take 2 rfl (by kernel_rfl) (by kernel_rfl) (by kernel_rfl) (listed' := #[true, true, true, false, false, false]) rfl (fun _ _ _ h => h) (fun _ hm => ⟨hm.blkI 0 rfl, hm.blkI 1 rfl, hm.blkI 3 rfl, hm.fact 0 rfl, hm.fact 1 rfl, hm.fact 2 rfl, trivial⟩) (ov_un_not rfl) rfl ?_
        refine wa_all [3] (by kernel_rfl) rfl ⟨⟨_, rfl, ?_⟩, trivial⟩
        refine wl_callw rfl cb39 rfl rfl (fun wx hm => (rwhen_any _ _ wx)) ?_
        refine wl_nil ?_
        refine nx_wa0 (listed' := #[true, true, true, true, false, false]) rfl (fun _ hm => ⟨hm.blkI 0 rfl, hm.blkI 1 rfl, hm.blkI 3 rfl, hm.fact 0 rfl, hm.fact 1 rfl, hm.fact 2 rfl, trivial⟩) ?_
        refine wa_all [4] (by kernel_rfl) rfl ⟨⟨_, rfl, ?_⟩, trivial⟩
        refine wl_stores (cs' := [.string r0, .int .i64 r1, .int .i64 r2, .int .i64 r3, .int .i64 r4, .int .i64 r5, .int .i64 r6]) 2 rz61 rfl rfl rfl rfl rfl rfl rfl rfl ?_
        refine wl_nil ?_
        refine nx_wa0 (listed' := #[true, true, true, true, true, false]) rfl (fun _ hm => ⟨hm.blkI 0 rfl, hm.blkI 1 rfl, hm.blkI 3 rfl, hm.fact 0 rfl, hm.fact 1 rfl, hm.fact 2 rfl, trivial⟩) ?_
        refine wa_take 5 rfl (by kernel_rfl) (by kernel_rfl) (by kernel_rfl) (listed' := #[true, true, true, true, true, true]) rfl (fun _ _ _ h => h) (fun _ hm => ⟨hm.blkI 0 rfl, hm.blkI 1 rfl, hm.blkI 3 rfl, hm.fact 0 rfl, hm.fact 1 rfl, hm.fact 2 rfl, trivial⟩) (ov_assign rfl) rfl ?_
        refine wa_done (by kernel_rfl) ?_
        refine nx_then ?_
        refine gw_seq ?_
        refine gw_region ?_
        refine wl_ov (ov_move rfl) rfl ?_
        refine wl_ov (ov_move rfl) rfl ?_
        refine wl_ov (ov_eql rfl rfl) rfl ?_
        refine wl_set 98 (v' := .bool true) rfl (congrArg Value.bool (decide_eq_true hoe)) ?_
        refine wl_ov (ov_move rfl) rfl ?_
        refine wl_guard_on rfl rfl rfl ?_
        refine wl_ov (ov_loads rz61 rfl (fun _ hm => hm.blkI 3 rfl) rfl rfl) rfl ?_
        refine wl_guard_on rfl rfl rfl ?_
        refine wl_ov (ov_loads rz61 rfl (fun _ hm => hm.blkI 2 rfl) rfl rfl) rfl ?_
        refine wl_guard_on rfl rfl rfl ?_
        refine wl_ov (ov_bin rfl rfl (cmp_agg guard_rate (fun wx => same_rate_eql r0 r1 r2 r3 r4 r5 r6 wx))) rfl ?_
        refine wl_ov (ov_pick_t rfl rfl) rfl ?_
        refine wl_ov (ov_move rfl) rfl ?_
        refine wl_guard_on rfl rfl rfl ?_
        refine wl_callv rfl cb41 rfl rfl (fun wx hm => (priced_any wx)) ?_
        refine wl_ov (ov_pick_t rfl rfl) rfl ?_
        refine wl_ov (ov_assign rfl) rfl ?_
        refine wl_nil ?_
        refine nx_then ?_
        refine gw_ret ?_
        refine nx_ret1 rfl rfl fun wx hm => ?_
        exact ⟨rfl, law_end hg1 hsb (grow_trans hm_w2.g (grow_weak hm.g))⟩
      · have hz : ¬ (firstE [RE, whenE (!keyB c) 5, whenE true 1] = 0) := by simpa using hh
        clear hh
        refine gw_skip ?_
        refine nx_then ?_
        refine gw_seq ?_
        refine gw_region ?_
        have hz2 : ¬ firstE [ratesE l, whenE (!keyB c) 5, whenE (!inB v4 0 4000) 1] = 0 := by rw [hw, ← hRE]; exact hz
        have hva : (⟨r0, r1, r2, r3, r4, r5, r6⟩ : Rt) = rateZ := by rw [hOV]; unfold rateOnV; rw [if_neg hz2]
        obtain ⟨rfl, rfl, rfl, rfl, rfl, rfl, rfl⟩ : r0 = ⟨#[]⟩ ∧ r1 = 0 ∧ r2 = 0 ∧ r3 = 0 ∧ r4 = 0 ∧ r5 = 0 ∧ r6 = 0 := by unfold rateZ at hva; injection hva with e1 e2 e3 e4 e5 e6 e7; exact ⟨e1, e2, e3, e4, e5, e6, e7⟩
        have hoe : OE = firstE [RE, whenE (!keyB c) 5, whenE true 1] := by rw [hOE]; unfold rateOnE; rw [if_neg hz2, hw, ← hRE]
        refine wl_ov (ov_move rfl) rfl ?_
        refine wl_ov (ov_move rfl) rfl ?_
        refine wl_ov (ov_eql rfl rfl) rfl ?_
        refine wl_set 98 (v' := .bool true) rfl (congrArg Value.bool (decide_eq_true hoe)) ?_
        refine wl_ov (ov_move rfl) rfl ?_
        refine wl_guard_on rfl rfl rfl ?_
        refine wl_ov (ov_loads rz61 rfl (fun _ hm => hm.blkI 2 rfl) rfl rfl) rfl ?_
        refine wl_guard_on rfl rfl rfl ?_
        refine wl_ov (ov_loads rz61 rfl (fun _ hm => hm.blkI 1 rfl) rfl rfl) rfl ?_
        refine wl_guard_on rfl rfl rfl ?_
        refine wl_ov (ov_bin rfl rfl (cmp_agg guard_rate (fun wx => same_rate_eql ⟨#[]⟩ 0 0 0 0 0 0 wx))) rfl ?_
        refine wl_ov (ov_pick_t rfl rfl) rfl ?_
        refine wl_ov (ov_move rfl) rfl ?_
        refine wl_guard_on rfl rfl rfl ?_
        refine wl_callv rfl cb41 rfl rfl (fun wx hm => (priced_any wx)) ?_
        refine wl_ov (ov_pick_t rfl rfl) rfl ?_
        refine wl_ov (ov_assign rfl) rfl ?_
        refine wl_nil ?_
        refine nx_then ?_
        refine gw_ret ?_
        refine nx_ret1 rfl rfl fun wx hm => ?_
        exact ⟨rfl, law_end hg1 hsb (grow_trans hm_w2.g (grow_weak hm.g))⟩
    · refine wl_set 76 rfl (congrArg Value.bool hd0) ?_
      have hw : whenE (!inB v4 0 4000) 1 = whenE (decide (4000 < v4)) 1 := out_high hd0
      refine wl_guard_on rfl rfl rfl ?_
      refine wl_ov (ov_move rfl) rfl ?_
      refine wl_guard_on rfl rfl rfl ?_
      refine wl_ov (ov_gtr rfl rfl) rfl ?_
      refine wl_ov (ov_pick_f rfl rfl) rfl ?_
      refine wl_callw rfl cb39 rfl rfl (fun wx hm => (rwhen_any _ _ wx)) ?_
      refine wl_buildSlice (e := 29) (cs := [.int .i64 RE, .int .i64 (whenE (!keyB c) 5), .int .i64 (whenE (decide (4000 < v4)) 1)]) rfl (by kernel_rfl) rfl fun g10 => ?_
      refine wl_callw rfl cb37 rfl rfl (fun wx hm => (errs_any [RE, whenE (!keyB c) 5, whenE (decide (4000 < v4)) 1] _ _ _ wx (hm.blkI 0 rfl) (by simp))) ?_
      refine wl_ov (ov_assign rfl) rfl ?_
      refine wl_nil ?_
      refine nx_then ?_
      refine gw_seq ?_
      refine gw_region ?_
      refine wl_ov (ov_move rfl) rfl ?_
      refine wl_ov (ov_eql rfl rfl) rfl ?_
      refine wl_nil ?_
      refine nx_then ?_
      refine gw_cond rfl (fun hh => ?_) (fun hh => ?_)
      · have hz : firstE [RE, whenE (!keyB c) 5, whenE (decide (4000 < v4)) 1] = 0 := by simpa using hh
        clear hh
        refine gw_seq ?_
        refine gw_region ?_
        have hz2 : firstE [ratesE l, whenE (!keyB c) 5, whenE (!inB v4 0 4000) 1] = 0 := by rw [hw, ← hRE]; exact hz
        have hr0 : ratesE l = 0 := fe_all hz2 _ (by simp)
        have hpos := rt_pos hr0
        obtain ⟨IX, hIX⟩ : ∃ E, E = ixP (rateP c v4) l 0 := ⟨_, rfl⟩
        have hva : rateV l c v4 = ⟨r0, r1, r2, r3, r4, r5, r6⟩ := by rw [hOV]; unfold rateOnV; rw [if_pos hz2]
        have hoe : OE = whenE (!decide (0 ≤ IX)) 8 := by
          rw [hOE]; unfold rateOnE; rw [if_pos hz2, ← hIX]
          by_cases h : IX < 0
          · rw [if_pos h, decide_eq_false (by omega)]; rfl
          · rw [if_neg h, decide_eq_true (by omega)]; rfl
        refine wl_ov (ov_move rfl) rfl ?_
        refine wl_ov (ov_move rfl) rfl ?_
        refine wl_ov (ov_move rfl) rfl ?_
        refine wl_callv (v := .tuple #[.agg #[.string r0, .int .i64 r1, .int .i64 r2, .int .i64 r3, .int .i64 r4, .int .i64 r5, .int .i64 r6], .bool (decide (0 ≤ IX))]) rfl cb40 rfl rfl (fun wx hm => (by have h := rateAt_any l A n c0 c v4 wx (hm.fact 2 rfl).1 (by omega) hpos; rw [← hIX, hva] at h; exact h)) ?_
        refine wl_ov (ov_move rfl) rfl ?_
        refine wl_ov (ov_extract rfl rfl) rfl ?_
        refine wl_ov (ov_extract rfl rfl) rfl ?_
        refine wl_alloc zc61 rfl fun g11 => ?_
        refine wl_stores (cs' := [.string r0, .int .i64 r1, .int .i64 r2, .int .i64 r3, .int .i64 r4, .int .i64 r5, .int .i64 r6]) 0 rz61 rfl rfl rfl rfl rfl rfl rfl rfl ?_
        refine wl_ov (ov_assign rfl) rfl ?_
        refine wl_nil ?_
        refine nx_then ?_
        refine gw_draw (fun wz => Blk wz g11 61 [.string r0, .int .i64 r1, .int .i64 r2, .int .i64 r3, .int .i64 r4, .int .i64 r5, .int .i64 r6] ∧ Blk wz g10 29 [.int .i64 RE, .int .i64 (whenE (!keyB c) 5), .int .i64 (whenE (decide (4000 < v4)) 1)] ∧ Blk wz g6 61 [.string r0, .int .i64 r1, .int .i64 r2, .int .i64 r3, .int .i64 r4, .int .i64 r5, .int .i64 r6] ∧ (BlkOld w2.heap.size none g5 56 [.int .i64 fr, .int .i64 tt]) wz ∧ (BlkOld w2.heap.size none g3 3 [.int .i64 0, .int .i64 1, .int .i64 3, .int .i64 5, .int .i64 20, .int .i64 4000, .int .i64 (-1), .int .i64 4001]) wz ∧ (SlOld rtEnc 7 61 w2.heap.size none A n l) wz ∧ True) mixed ?_
        refine wa_take 0 rfl (by kernel_rfl) (by kernel_rfl) (by kernel_rfl) (listed' := #[true, false, false, false, false, false]) rfl (fun _ _ _ h => h) (fun _ hm => ⟨hm.blkI 0 rfl, hm.blkI 1 rfl, hm.blkI 3 rfl, hm.fact 0 rfl, hm.fact 1 rfl, hm.fact 2 rfl, trivial⟩) (ov_loads rz61 rfl (fun _ hm => hm.1) rfl rfl) rfl ?_
        refine wa_take 1 rfl (by kernel_rfl) (by kernel_rfl) (by kernel_rfl) (listed' := #[true, true, false, false, false, false]) rfl (fun _ _ _ h => h) (fun _ hm => ⟨hm.blkI 0 rfl, hm.blkI 1 rfl, hm.blkI 3 rfl, hm.fact 0 rfl, hm.fact 1 rfl, hm.fact 2 rfl, trivial⟩) (ov_move rfl) rfl ?_
        refine wa_take 2 rfl (by kernel_rfl) (by kernel_rfl) (by kernel_rfl) (listed' := #[true, true, true, false, false, false]) rfl (fun _ _ _ h => h) (fun _ hm => ⟨hm.blkI 0 rfl, hm.blkI 1 rfl, hm.blkI 3 rfl, hm.fact 0 rfl, hm.fact 1 rfl, hm.fact 2 rfl, trivial⟩) (ov_un_not rfl) rfl ?_
        refine wa_all [3] (by kernel_rfl) rfl ⟨⟨_, rfl, ?_⟩, trivial⟩
        refine wl_callw rfl cb39 rfl rfl (fun wx hm => (rwhen_any _ _ wx)) ?_
        refine wl_nil ?_
        refine nx_wa0 (listed' := #[true, true, true, true, false, false]) rfl (fun _ hm => ⟨hm.blkI 0 rfl, hm.blkI 1 rfl, hm.blkI 3 rfl, hm.fact 0 rfl, hm.fact 1 rfl, hm.fact 2 rfl, trivial⟩) ?_
        refine wa_all [4] (by kernel_rfl) rfl ⟨⟨_, rfl, ?_⟩, trivial⟩
        refine wl_stores (cs' := [.string r0, .int .i64 r1, .int .i64 r2, .int .i64 r3, .int .i64 r4, .int .i64 r5, .int .i64 r6]) 2 rz61 rfl rfl rfl rfl rfl rfl rfl rfl ?_
        refine wl_nil ?_
        refine nx_wa0 (listed' := #[true, true, true, true, true, false]) rfl (fun _ hm => ⟨hm.blkI 0 rfl, hm.blkI 1 rfl, hm.blkI 3 rfl, hm.fact 0 rfl, hm.fact 1 rfl, hm.fact 2 rfl, trivial⟩) ?_
        refine wa_take 5 rfl (by kernel_rfl) (by kernel_rfl) (by kernel_rfl) (listed' := #[true, true, true, true, true, true]) rfl (fun _ _ _ h => h) (fun _ hm => ⟨hm.blkI 0 rfl, hm.blkI 1 rfl, hm.blkI 3 rfl, hm.fact 0 rfl, hm.fact 1 rfl, hm.fact 2 rfl, trivial⟩) (ov_assign rfl) rfl ?_
        refine wa_done (by kernel_rfl) ?_
        refine nx_then ?_
        refine gw_seq ?_
        refine gw_region ?_
        refine wl_ov (ov_move rfl) rfl ?_
        refine wl_ov (ov_move rfl) rfl ?_
        refine wl_ov (ov_eql rfl rfl) rfl ?_
        refine wl_set 98 (v' := .bool true) rfl (congrArg Value.bool (decide_eq_true hoe)) ?_
        refine wl_ov (ov_move rfl) rfl ?_
        refine wl_guard_on rfl rfl rfl ?_
        refine wl_ov (ov_loads rz61 rfl (fun _ hm => hm.blkI 3 rfl) rfl rfl) rfl ?_
        refine wl_guard_on rfl rfl rfl ?_
        refine wl_ov (ov_loads rz61 rfl (fun _ hm => hm.blkI 2 rfl) rfl rfl) rfl ?_
        refine wl_guard_on rfl rfl rfl ?_
        refine wl_ov (ov_bin rfl rfl (cmp_agg guard_rate (fun wx => same_rate_eql r0 r1 r2 r3 r4 r5 r6 wx))) rfl ?_
        refine wl_ov (ov_pick_t rfl rfl) rfl ?_
        refine wl_ov (ov_move rfl) rfl ?_
        refine wl_guard_on rfl rfl rfl ?_
        refine wl_callv rfl cb41 rfl rfl (fun wx hm => (priced_any wx)) ?_
        refine wl_ov (ov_pick_t rfl rfl) rfl ?_
        refine wl_ov (ov_assign rfl) rfl ?_
        refine wl_nil ?_
        refine nx_then ?_
        refine gw_ret ?_
        refine nx_ret1 rfl rfl fun wx hm => ?_
        exact ⟨rfl, law_end hg1 hsb (grow_trans hm_w2.g (grow_weak hm.g))⟩
      · have hz : ¬ (firstE [RE, whenE (!keyB c) 5, whenE (decide (4000 < v4)) 1] = 0) := by simpa using hh
        clear hh
        refine gw_skip ?_
        refine nx_then ?_
        refine gw_seq ?_
        refine gw_region ?_
        have hz2 : ¬ firstE [ratesE l, whenE (!keyB c) 5, whenE (!inB v4 0 4000) 1] = 0 := by rw [hw, ← hRE]; exact hz
        have hva : (⟨r0, r1, r2, r3, r4, r5, r6⟩ : Rt) = rateZ := by rw [hOV]; unfold rateOnV; rw [if_neg hz2]
        obtain ⟨rfl, rfl, rfl, rfl, rfl, rfl, rfl⟩ : r0 = ⟨#[]⟩ ∧ r1 = 0 ∧ r2 = 0 ∧ r3 = 0 ∧ r4 = 0 ∧ r5 = 0 ∧ r6 = 0 := by unfold rateZ at hva; injection hva with e1 e2 e3 e4 e5 e6 e7; exact ⟨e1, e2, e3, e4, e5, e6, e7⟩
        have hoe : OE = firstE [RE, whenE (!keyB c) 5, whenE (decide (4000 < v4)) 1] := by rw [hOE]; unfold rateOnE; rw [if_neg hz2, hw, ← hRE]
        refine wl_ov (ov_move rfl) rfl ?_
        refine wl_ov (ov_move rfl) rfl ?_
        refine wl_ov (ov_eql rfl rfl) rfl ?_
        refine wl_set 98 (v' := .bool true) rfl (congrArg Value.bool (decide_eq_true hoe)) ?_
        refine wl_ov (ov_move rfl) rfl ?_
        refine wl_guard_on rfl rfl rfl ?_
        refine wl_ov (ov_loads rz61 rfl (fun _ hm => hm.blkI 2 rfl) rfl rfl) rfl ?_
        refine wl_guard_on rfl rfl rfl ?_
        refine wl_ov (ov_loads rz61 rfl (fun _ hm => hm.blkI 1 rfl) rfl rfl) rfl ?_
        refine wl_guard_on rfl rfl rfl ?_
        refine wl_ov (ov_bin rfl rfl (cmp_agg guard_rate (fun wx => same_rate_eql ⟨#[]⟩ 0 0 0 0 0 0 wx))) rfl ?_
        refine wl_ov (ov_pick_t rfl rfl) rfl ?_
        refine wl_ov (ov_move rfl) rfl ?_
        refine wl_guard_on rfl rfl rfl ?_
        refine wl_callv rfl cb41 rfl rfl (fun wx hm => (priced_any wx)) ?_
        refine wl_ov (ov_pick_t rfl rfl) rfl ?_
        refine wl_ov (ov_assign rfl) rfl ?_
        refine wl_nil ?_
        refine nx_then ?_
        refine gw_ret ?_
        refine nx_ret1 rfl rfl fun wx hm => ?_
        exact ⟨rfl, law_end hg1 hsb (grow_trans hm_w2.g (grow_weak hm.g))⟩
  · refine wl_set 55 rfl (congrArg Value.bool hte) ?_
    have hte := of_decide_eq_false hte
    have hnd : ND = 0 := by rw [hND, if_neg (fun h => hte (hTE.trans h))]
    refine wl_guard_off rfl rfl rfl (by decide) rfl ?_
    refine wl_guard_off rfl rfl rfl (by decide) rfl ?_
    refine wl_guard_off rfl rfl rfl (by decide) rfl ?_
    refine wl_guard_off rfl rfl rfl (by decide) rfl ?_
    refine wl_guard_on rfl rfl rfl ?_
    refine wl_ov (ov_pick_f rfl rfl) rfl ?_
    refine wl_ov (ov_pick_f rfl rfl) rfl ?_
    refine wl_ov (ov_move rfl) rfl ?_
    refine wl_guard_on rfl rfl rfl ?_
    refine wl_ov (ov_move rfl) rfl ?_
    refine wl_guard_on rfl rfl rfl ?_
    refine wl_ov (ov_neq rfl rfl) rfl ?_
    refine wl_set 64 (v' := .bool true) rfl (congrArg Value.bool (by rw [decide_eq_false hte]; rfl)) ?_
    refine wl_guard_on rfl rfl rfl ?_
    refine wl_ov (ov_move rfl) rfl ?_
    refine wl_guard_on rfl rfl rfl ?_
    refine wl_ov (ov_move rfl) rfl ?_
    refine wl_guard_on rfl rfl rfl ?_
    refine wl_ov (ov_neq rfl rfl) rfl ?_
    refine wl_set 67 (v' := .bool false) rfl (congrArg Value.bool (by rw [hnd]; rfl)) ?_
    refine wl_guard_on rfl rfl rfl ?_
    refine wl_ov (ov_pick_t rfl rfl) rfl ?_
    refine wl_ov (ov_pick_f rfl rfl) rfl ?_
    refine wl_nil ?_
    refine nx_then ?_
    refine gw_cond rfl (fun hh => by cases hh) (fun _ => ?_)
    refine gw_skip ?_
    refine nx_then ?_
    refine gw_seq ?_
    refine gw_region ?_
    refine wl_ov (ov_build (cs := [.string ⟨#[]⟩, .int .i64 0, .int .i64 0, .int .i64 0, .int .i64 0, .int .i64 0, .int .i64 0]) rfl (by kernel_rfl)) rfl ?_
    refine wl_alloc zc61 rfl fun g12 => ?_
    refine wl_stores (cs' := [.string ⟨#[]⟩, .int .i64 0, .int .i64 0, .int .i64 0, .int .i64 0, .int .i64 0, .int .i64 0]) 0 rz61 rfl rfl rfl rfl rfl rfl rfl rfl ?_
    refine wl_nil ?_
    refine nx_then ?_
    refine gw_seq ?_
    refine gw_seq ?_
    refine gw_region ?_
    refine wl_ov (ov_move rfl) rfl ?_
    refine wl_ov (ov_move rfl) rfl ?_
    refine wl_callv rfl cb38 rfl rfl (fun wx hm => (keyFault_any c wx (by omega))) ?_
    refine wl_ov (ov_move rfl) rfl ?_
    refine wl_ov (ov_lss rfl rfl) rfl ?_
    refine wl_ov (ov_move rfl) rfl ?_
    rcases Bool.eq_false_or_eq_true (decide (v4 < 0)) with hd0 | hd0
    · refine wl_set 76 rfl (congrArg Value.bool hd0) ?_
      have hw : whenE (!inB v4 0 4000) 1 = whenE true 1 := out_low hd0
      refine wl_guard_off rfl rfl rfl (by decide) rfl ?_
      refine wl_guard_off rfl rfl rfl (by decide) rfl ?_
      refine wl_ov (ov_pick_t rfl rfl) rfl ?_
      refine wl_callw rfl cb39 rfl rfl (fun wx hm => (rwhen_any _ _ wx)) ?_
      refine wl_buildSlice (e := 29) (cs := [.int .i64 RE, .int .i64 (whenE (!keyB c) 5), .int .i64 (whenE true 1)]) rfl (by kernel_rfl) rfl fun g13 => ?_
      refine wl_callw rfl cb37 rfl rfl (fun wx hm => (errs_any [RE, whenE (!keyB c) 5, whenE true 1] _ _ _ wx (hm.blkI 0 rfl) (by simp))) ?_
      refine wl_ov (ov_assign rfl) rfl ?_
      refine wl_nil ?_
      refine nx_then ?_
      refine gw_seq ?_
      refine gw_region ?_
      refine wl_ov (ov_move rfl) rfl ?_
      refine wl_ov (ov_eql rfl rfl) rfl ?_
      refine wl_nil ?_
      refine nx_then ?_
      refine gw_cond rfl (fun hh => ?_) (fun hh => ?_)
      · have hz : firstE [RE, whenE (!keyB c) 5, whenE true 1] = 0 := by simpa using hh
        clear hh
        refine gw_seq ?_
        refine gw_region ?_
        have hz2 : firstE [ratesE l, whenE (!keyB c) 5, whenE (!inB v4 0 4000) 1] = 0 := by rw [hw, ← hRE]; exact hz
        have hr0 : ratesE l = 0 := fe_all hz2 _ (by simp)
        have hpos := rt_pos hr0
        obtain ⟨IX, hIX⟩ : ∃ E, E = ixP (rateP c v4) l 0 := ⟨_, rfl⟩
        have hva : rateV l c v4 = ⟨r0, r1, r2, r3, r4, r5, r6⟩ := by rw [hOV]; unfold rateOnV; rw [if_pos hz2]
        have hoe : OE = whenE (!decide (0 ≤ IX)) 8 := by
          rw [hOE]; unfold rateOnE; rw [if_pos hz2, ← hIX]
          by_cases h : IX < 0
          · rw [if_pos h, decide_eq_false (by omega)]; rfl
          · rw [if_neg h, decide_eq_true (by omega)]; rfl
        refine wl_ov (ov_move rfl) rfl ?_
        refine wl_ov (ov_move rfl) rfl ?_
        refine wl_ov (ov_move rfl) rfl ?_
        refine wl_callv (v := .tuple #[.agg #[.string r0, .int .i64 r1, .int .i64 r2, .int .i64 r3, .int .i64 r4, .int .i64 r5, .int .i64 r6], .bool (decide (0 ≤ IX))]) rfl cb40 rfl rfl (fun wx hm => (by have h := rateAt_any l A n c0 c v4 wx (hm.fact 2 rfl).1 (by omega) hpos; rw [← hIX, hva] at h; exact h)) ?_
        refine wl_ov (ov_move rfl) rfl ?_
        refine wl_ov (ov_extract rfl rfl) rfl ?_
        refine wl_ov (ov_extract rfl rfl) rfl ?_
        refine wl_alloc zc61 rfl fun g14 => ?_
        refine wl_stores (cs' := [.string r0, .int .i64 r1, .int .i64 r2, .int .i64 r3, .int .i64 r4, .int .i64 r5, .int .i64 r6]) 0 rz61 rfl rfl rfl rfl rfl rfl rfl rfl ?_
        refine wl_ov (ov_assign rfl) rfl ?_
        refine wl_nil ?_
        refine nx_then ?_
        refine gw_draw (fun wz => Blk wz g14 61 [.string r0, .int .i64 r1, .int .i64 r2, .int .i64 r3, .int .i64 r4, .int .i64 r5, .int .i64 r6] ∧ Blk wz g13 29 [.int .i64 RE, .int .i64 (whenE (!keyB c) 5), .int .i64 (whenE true 1)] ∧ Blk wz g6 61 [.string r0, .int .i64 r1, .int .i64 r2, .int .i64 r3, .int .i64 r4, .int .i64 r5, .int .i64 r6] ∧ (BlkOld w2.heap.size none g5 56 [.int .i64 fr, .int .i64 tt]) wz ∧ (BlkOld w2.heap.size none g3 3 [.int .i64 0, .int .i64 1, .int .i64 3, .int .i64 5, .int .i64 20, .int .i64 4000, .int .i64 (-1), .int .i64 4001]) wz ∧ (SlOld rtEnc 7 61 w2.heap.size none A n l) wz ∧ True) mixed ?_
        refine wa_take 0 rfl (by kernel_rfl) (by kernel_rfl) (by kernel_rfl) (listed' := #[true, false, false, false, false, false]) rfl (fun _ _ _ h => h) (fun _ hm => ⟨hm.blkI 0 rfl, hm.blkI 1 rfl, hm.blkI 3 rfl, hm.fact 0 rfl, hm.fact 1 rfl, hm.fact 2 rfl, trivial⟩) (ov_loads rz61 rfl (fun _ hm => hm.1) rfl rfl) rfl ?_
        refine wa_take 1 rfl (by kernel_rfl) (by kernel_rfl) (by kernel_rfl) (listed' := #[true, true, false, false, false, false]) rfl (fun _ _ _ h => h) (fun _ hm => ⟨hm.blkI 0 rfl, hm.blkI 1 rfl, hm.blkI 3 rfl, hm.fact 0 rfl, hm.fact 1 rfl, hm.fact 2 rfl, trivial⟩) (ov_move rfl) rfl ?_
        refine wa_take 2 rfl (by kernel_rfl) (by kernel_rfl) (by kernel_rfl) (listed' := #[true, true, true, false, false, false]) rfl (fun _ _ _ h => h) (fun _ hm => ⟨hm.blkI 0 rfl, hm.blkI 1 rfl, hm.blkI 3 rfl, hm.fact 0 rfl, hm.fact 1 rfl, hm.fact 2 rfl, trivial⟩) (ov_un_not rfl) rfl ?_
        refine wa_all [3] (by kernel_rfl) rfl ⟨⟨_, rfl, ?_⟩, trivial⟩
        refine wl_callw rfl cb39 rfl rfl (fun wx hm => (rwhen_any _ _ wx)) ?_
        refine wl_nil ?_
        refine nx_wa0 (listed' := #[true, true, true, true, false, false]) rfl (fun _ hm => ⟨hm.blkI 0 rfl, hm.blkI 1 rfl, hm.blkI 3 rfl, hm.fact 0 rfl, hm.fact 1 rfl, hm.fact 2 rfl, trivial⟩) ?_
        refine wa_all [4] (by kernel_rfl) rfl ⟨⟨_, rfl, ?_⟩, trivial⟩
        refine wl_stores (cs' := [.string r0, .int .i64 r1, .int .i64 r2, .int .i64 r3, .int .i64 r4, .int .i64 r5, .int .i64 r6]) 2 rz61 rfl rfl rfl rfl rfl rfl rfl rfl ?_
        refine wl_nil ?_
        refine nx_wa0 (listed' := #[true, true, true, true, true, false]) rfl (fun _ hm => ⟨hm.blkI 0 rfl, hm.blkI 1 rfl, hm.blkI 3 rfl, hm.fact 0 rfl, hm.fact 1 rfl, hm.fact 2 rfl, trivial⟩) ?_
        refine wa_take 5 rfl (by kernel_rfl) (by kernel_rfl) (by kernel_rfl) (listed' := #[true, true, true, true, true, true]) rfl (fun _ _ _ h => h) (fun _ hm => ⟨hm.blkI 0 rfl, hm.blkI 1 rfl, hm.blkI 3 rfl, hm.fact 0 rfl, hm.fact 1 rfl, hm.fact 2 rfl, trivial⟩) (ov_assign rfl) rfl ?_
        refine wa_done (by kernel_rfl) ?_
        refine nx_then ?_
        refine gw_seq ?_
        refine gw_region ?_
        refine wl_ov (ov_move rfl) rfl ?_
        refine wl_ov (ov_move rfl) rfl ?_
        refine wl_ov (ov_eql rfl rfl) rfl ?_
        refine wl_set 98 (v' := .bool true) rfl (congrArg Value.bool (decide_eq_true hoe)) ?_
        refine wl_ov (ov_move rfl) rfl ?_
        refine wl_guard_on rfl rfl rfl ?_
        refine wl_ov (ov_loads rz61 rfl (fun _ hm => hm.blkI 3 rfl) rfl rfl) rfl ?_
        refine wl_guard_on rfl rfl rfl ?_
        refine wl_ov (ov_loads rz61 rfl (fun _ hm => hm.blkI 2 rfl) rfl rfl) rfl ?_
        refine wl_guard_on rfl rfl rfl ?_
        refine wl_ov (ov_bin rfl rfl (cmp_agg guard_rate (fun wx => same_rate_eql r0 r1 r2 r3 r4 r5 r6 wx))) rfl ?_
        refine wl_ov (ov_pick_t rfl rfl) rfl ?_
        refine wl_ov (ov_move rfl) rfl ?_
        refine wl_guard_on rfl rfl rfl ?_
        refine wl_callv rfl cb41 rfl rfl (fun wx hm => (priced_any wx)) ?_
        refine wl_ov (ov_pick_t rfl rfl) rfl ?_
        refine wl_ov (ov_assign rfl) rfl ?_
        refine wl_nil ?_
        refine nx_then ?_
        refine gw_ret ?_
        refine nx_ret1 rfl rfl fun wx hm => ?_
        exact ⟨rfl, law_end hg1 hsb (grow_trans hm_w2.g (grow_weak hm.g))⟩
      · have hz : ¬ (firstE [RE, whenE (!keyB c) 5, whenE true 1] = 0) := by simpa using hh
        clear hh
        refine gw_skip ?_
        refine nx_then ?_
        refine gw_seq ?_
        refine gw_region ?_
        have hz2 : ¬ firstE [ratesE l, whenE (!keyB c) 5, whenE (!inB v4 0 4000) 1] = 0 := by rw [hw, ← hRE]; exact hz
        have hva : (⟨r0, r1, r2, r3, r4, r5, r6⟩ : Rt) = rateZ := by rw [hOV]; unfold rateOnV; rw [if_neg hz2]
        obtain ⟨rfl, rfl, rfl, rfl, rfl, rfl, rfl⟩ : r0 = ⟨#[]⟩ ∧ r1 = 0 ∧ r2 = 0 ∧ r3 = 0 ∧ r4 = 0 ∧ r5 = 0 ∧ r6 = 0 := by unfold rateZ at hva; injection hva with e1 e2 e3 e4 e5 e6 e7; exact ⟨e1, e2, e3, e4, e5, e6, e7⟩
        have hoe : OE = firstE [RE, whenE (!keyB c) 5, whenE true 1] := by rw [hOE]; unfold rateOnE; rw [if_neg hz2, hw, ← hRE]
        refine wl_ov (ov_move rfl) rfl ?_
        refine wl_ov (ov_move rfl) rfl ?_
        refine wl_ov (ov_eql rfl rfl) rfl ?_
        refine wl_set 98 (v' := .bool true) rfl (congrArg Value.bool (decide_eq_true hoe)) ?_
        refine wl_ov (ov_move rfl) rfl ?_
        refine wl_guard_on rfl rfl rfl ?_
        refine wl_ov (ov_loads rz61 rfl (fun _ hm => hm.blkI 2 rfl) rfl rfl) rfl ?_
        refine wl_guard_on rfl rfl rfl ?_
        refine wl_ov (ov_loads rz61 rfl (fun _ hm => hm.blkI 1 rfl) rfl rfl) rfl ?_
        refine wl_guard_on rfl rfl rfl ?_
        refine wl_ov (ov_bin rfl rfl (cmp_agg guard_rate (fun wx => same_rate_eql ⟨#[]⟩ 0 0 0 0 0 0 wx))) rfl ?_
        refine wl_ov (ov_pick_t rfl rfl) rfl ?_
        refine wl_ov (ov_move rfl) rfl ?_
        refine wl_guard_on rfl rfl rfl ?_
        refine wl_callv rfl cb41 rfl rfl (fun wx hm => (priced_any wx)) ?_
        refine wl_ov (ov_pick_t rfl rfl) rfl ?_
        refine wl_ov (ov_assign rfl) rfl ?_
        refine wl_nil ?_
        refine nx_then ?_
        refine gw_ret ?_
        refine nx_ret1 rfl rfl fun wx hm => ?_
        exact ⟨rfl, law_end hg1 hsb (grow_trans hm_w2.g (grow_weak hm.g))⟩
    · refine wl_set 76 rfl (congrArg Value.bool hd0) ?_
      have hw : whenE (!inB v4 0 4000) 1 = whenE (decide (4000 < v4)) 1 := out_high hd0
      refine wl_guard_on rfl rfl rfl ?_
      refine wl_ov (ov_move rfl) rfl ?_
      refine wl_guard_on rfl rfl rfl ?_
      refine wl_ov (ov_gtr rfl rfl) rfl ?_
      refine wl_ov (ov_pick_f rfl rfl) rfl ?_
      refine wl_callw rfl cb39 rfl rfl (fun wx hm => (rwhen_any _ _ wx)) ?_
      refine wl_buildSlice (e := 29) (cs := [.int .i64 RE, .int .i64 (whenE (!keyB c) 5), .int .i64 (whenE (decide (4000 < v4)) 1)]) rfl (by kernel_rfl) rfl fun g15 => ?_
      refine wl_callw rfl cb37 rfl rfl (fun wx hm => (errs_any [RE, whenE (!keyB c) 5, whenE (decide (4000 < v4)) 1] _ _ _ wx (hm.blkI 0 rfl) (by simp))) ?_
      refine wl_ov (ov_assign rfl) rfl ?_
      refine wl_nil ?_
      refine nx_then ?_
      refine gw_seq ?_
      refine gw_region ?_
      refine wl_ov (ov_move rfl) rfl ?_
      refine wl_ov (ov_eql rfl rfl) rfl ?_
      refine wl_nil ?_
      refine nx_then ?_
      refine gw_cond rfl (fun hh => ?_) (fun hh => ?_)
      · have hz : firstE [RE, whenE (!keyB c) 5, whenE (decide (4000 < v4)) 1] = 0 := by simpa using hh
        clear hh
        refine gw_seq ?_
        refine gw_region ?_
        have hz2 : firstE [ratesE l, whenE (!keyB c) 5, whenE (!inB v4 0 4000) 1] = 0 := by rw [hw, ← hRE]; exact hz
        have hr0 : ratesE l = 0 := fe_all hz2 _ (by simp)
        have hpos := rt_pos hr0
        obtain ⟨IX, hIX⟩ : ∃ E, E = ixP (rateP c v4) l 0 := ⟨_, rfl⟩
        have hva : rateV l c v4 = ⟨r0, r1, r2, r3, r4, r5, r6⟩ := by rw [hOV]; unfold rateOnV; rw [if_pos hz2]
        have hoe : OE = whenE (!decide (0 ≤ IX)) 8 := by
          rw [hOE]; unfold rateOnE; rw [if_pos hz2, ← hIX]
          by_cases h : IX < 0
          · rw [if_pos h, decide_eq_false (by omega)]; rfl
          · rw [if_neg h, decide_eq_true (by omega)]; rfl
        refine wl_ov (ov_move rfl) rfl ?_
        refine wl_ov (ov_move rfl) rfl ?_
        refine wl_ov (ov_move rfl) rfl ?_
        refine wl_callv (v := .tuple #[.agg #[.string r0, .int .i64 r1, .int .i64 r2, .int .i64 r3, .int .i64 r4, .int .i64 r5, .int .i64 r6], .bool (decide (0 ≤ IX))]) rfl cb40 rfl rfl (fun wx hm => (by have h := rateAt_any l A n c0 c v4 wx (hm.fact 2 rfl).1 (by omega) hpos; rw [← hIX, hva] at h; exact h)) ?_
        refine wl_ov (ov_move rfl) rfl ?_
        refine wl_ov (ov_extract rfl rfl) rfl ?_
        refine wl_ov (ov_extract rfl rfl) rfl ?_
        refine wl_alloc zc61 rfl fun g16 => ?_
        refine wl_stores (cs' := [.string r0, .int .i64 r1, .int .i64 r2, .int .i64 r3, .int .i64 r4, .int .i64 r5, .int .i64 r6]) 0 rz61 rfl rfl rfl rfl rfl rfl rfl rfl ?_
        refine wl_ov (ov_assign rfl) rfl ?_
        refine wl_nil ?_
        refine nx_then ?_
        refine gw_draw (fun wz => Blk wz g16 61 [.string r0, .int .i64 r1, .int .i64 r2, .int .i64 r3, .int .i64 r4, .int .i64 r5, .int .i64 r6] ∧ Blk wz g15 29 [.int .i64 RE, .int .i64 (whenE (!keyB c) 5), .int .i64 (whenE (decide (4000 < v4)) 1)] ∧ Blk wz g6 61 [.string r0, .int .i64 r1, .int .i64 r2, .int .i64 r3, .int .i64 r4, .int .i64 r5, .int .i64 r6] ∧ (BlkOld w2.heap.size none g5 56 [.int .i64 fr, .int .i64 tt]) wz ∧ (BlkOld w2.heap.size none g3 3 [.int .i64 0, .int .i64 1, .int .i64 3, .int .i64 5, .int .i64 20, .int .i64 4000, .int .i64 (-1), .int .i64 4001]) wz ∧ (SlOld rtEnc 7 61 w2.heap.size none A n l) wz ∧ True) mixed ?_
        refine wa_take 0 rfl (by kernel_rfl) (by kernel_rfl) (by kernel_rfl) (listed' := #[true, false, false, false, false, false]) rfl (fun _ _ _ h => h) (fun _ hm => ⟨hm.blkI 0 rfl, hm.blkI 1 rfl, hm.blkI 3 rfl, hm.fact 0 rfl, hm.fact 1 rfl, hm.fact 2 rfl, trivial⟩) (ov_loads rz61 rfl (fun _ hm => hm.1) rfl rfl) rfl ?_
        refine wa_take 1 rfl (by kernel_rfl) (by kernel_rfl) (by kernel_rfl) (listed' := #[true, true, false, false, false, false]) rfl (fun _ _ _ h => h) (fun _ hm => ⟨hm.blkI 0 rfl, hm.blkI 1 rfl, hm.blkI 3 rfl, hm.fact 0 rfl, hm.fact 1 rfl, hm.fact 2 rfl, trivial⟩) (ov_move rfl) rfl ?_
        refine wa_take 2 rfl (by kernel_rfl) (by kernel_rfl) (by kernel_rfl) (listed' := #[true, true, true, false, false, false]) rfl (fun _ _ _ h => h) (fun _ hm => ⟨hm.blkI 0 rfl, hm.blkI 1 rfl, hm.blkI 3 rfl, hm.fact 0 rfl, hm.fact 1 rfl, hm.fact 2 rfl, trivial⟩) (ov_un_not rfl) rfl ?_
        refine wa_all [3] (by kernel_rfl) rfl ⟨⟨_, rfl, ?_⟩, trivial⟩
        refine wl_callw rfl cb39 rfl rfl (fun wx hm => (rwhen_any _ _ wx)) ?_
        refine wl_nil ?_
        refine nx_wa0 (listed' := #[true, true, true, true, false, false]) rfl (fun _ hm => ⟨hm.blkI 0 rfl, hm.blkI 1 rfl, hm.blkI 3 rfl, hm.fact 0 rfl, hm.fact 1 rfl, hm.fact 2 rfl, trivial⟩) ?_
        refine wa_all [4] (by kernel_rfl) rfl ⟨⟨_, rfl, ?_⟩, trivial⟩
        refine wl_stores (cs' := [.string r0, .int .i64 r1, .int .i64 r2, .int .i64 r3, .int .i64 r4, .int .i64 r5, .int .i64 r6]) 2 rz61 rfl rfl rfl rfl rfl rfl rfl rfl ?_
        refine wl_nil ?_
        refine nx_wa0 (listed' := #[true, true, true, true, true, false]) rfl (fun _ hm => ⟨hm.blkI 0 rfl, hm.blkI 1 rfl, hm.blkI 3 rfl, hm.fact 0 rfl, hm.fact 1 rfl, hm.fact 2 rfl, trivial⟩) ?_
        refine wa_take 5 rfl (by kernel_rfl) (by kernel_rfl) (by kernel_rfl) (listed' := #[true, true, true, true, true, true]) rfl (fun _ _ _ h => h) (fun _ hm => ⟨hm.blkI 0 rfl, hm.blkI 1 rfl, hm.blkI 3 rfl, hm.fact 0 rfl, hm.fact 1 rfl, hm.fact 2 rfl, trivial⟩) (ov_assign rfl) rfl ?_
        refine wa_done (by kernel_rfl) ?_
        refine nx_then ?_
        refine gw_seq ?_
        refine gw_region ?_
        refine wl_ov (ov_move rfl) rfl ?_
        refine wl_ov (ov_move rfl) rfl ?_
        refine wl_ov (ov_eql rfl rfl) rfl ?_
        refine wl_set 98 (v' := .bool true) rfl (congrArg Value.bool (decide_eq_true hoe)) ?_
        refine wl_ov (ov_move rfl) rfl ?_
        refine wl_guard_on rfl rfl rfl ?_
        refine wl_ov (ov_loads rz61 rfl (fun _ hm => hm.blkI 3 rfl) rfl rfl) rfl ?_
        refine wl_guard_on rfl rfl rfl ?_
        refine wl_ov (ov_loads rz61 rfl (fun _ hm => hm.blkI 2 rfl) rfl rfl) rfl ?_
        refine wl_guard_on rfl rfl rfl ?_
        refine wl_ov (ov_bin rfl rfl (cmp_agg guard_rate (fun wx => same_rate_eql r0 r1 r2 r3 r4 r5 r6 wx))) rfl ?_
        refine wl_ov (ov_pick_t rfl rfl) rfl ?_
        refine wl_ov (ov_move rfl) rfl ?_
        refine wl_guard_on rfl rfl rfl ?_
        refine wl_callv rfl cb41 rfl rfl (fun wx hm => (priced_any wx)) ?_
        refine wl_ov (ov_pick_t rfl rfl) rfl ?_
        refine wl_ov (ov_assign rfl) rfl ?_
        refine wl_nil ?_
        refine nx_then ?_
        refine gw_ret ?_
        refine nx_ret1 rfl rfl fun wx hm => ?_
        exact ⟨rfl, law_end hg1 hsb (grow_trans hm_w2.g (grow_weak hm.g))⟩
      · have hz : ¬ (firstE [RE, whenE (!keyB c) 5, whenE (decide (4000 < v4)) 1] = 0) := by simpa using hh
        clear hh
        refine gw_skip ?_
        refine nx_then ?_
        refine gw_seq ?_
        refine gw_region ?_
        have hz2 : ¬ firstE [ratesE l, whenE (!keyB c) 5, whenE (!inB v4 0 4000) 1] = 0 := by rw [hw, ← hRE]; exact hz
        have hva : (⟨r0, r1, r2, r3, r4, r5, r6⟩ : Rt) = rateZ := by rw [hOV]; unfold rateOnV; rw [if_neg hz2]
        obtain ⟨rfl, rfl, rfl, rfl, rfl, rfl, rfl⟩ : r0 = ⟨#[]⟩ ∧ r1 = 0 ∧ r2 = 0 ∧ r3 = 0 ∧ r4 = 0 ∧ r5 = 0 ∧ r6 = 0 := by unfold rateZ at hva; injection hva with e1 e2 e3 e4 e5 e6 e7; exact ⟨e1, e2, e3, e4, e5, e6, e7⟩
        have hoe : OE = firstE [RE, whenE (!keyB c) 5, whenE (decide (4000 < v4)) 1] := by rw [hOE]; unfold rateOnE; rw [if_neg hz2, hw, ← hRE]
        refine wl_ov (ov_move rfl) rfl ?_
        refine wl_ov (ov_move rfl) rfl ?_
        refine wl_ov (ov_eql rfl rfl) rfl ?_
        refine wl_set 98 (v' := .bool true) rfl (congrArg Value.bool (decide_eq_true hoe)) ?_
        refine wl_ov (ov_move rfl) rfl ?_
        refine wl_guard_on rfl rfl rfl ?_
        refine wl_ov (ov_loads rz61 rfl (fun _ hm => hm.blkI 2 rfl) rfl rfl) rfl ?_
        refine wl_guard_on rfl rfl rfl ?_
        refine wl_ov (ov_loads rz61 rfl (fun _ hm => hm.blkI 1 rfl) rfl rfl) rfl ?_
        refine wl_guard_on rfl rfl rfl ?_
        refine wl_ov (ov_bin rfl rfl (cmp_agg guard_rate (fun wx => same_rate_eql ⟨#[]⟩ 0 0 0 0 0 0 wx))) rfl ?_
        refine wl_ov (ov_pick_t rfl rfl) rfl ?_
        refine wl_ov (ov_move rfl) rfl ?_
        refine wl_guard_on rfl rfl rfl ?_
        refine wl_callv rfl cb41 rfl rfl (fun wx hm => (priced_any wx)) ?_
        refine wl_ov (ov_pick_t rfl rfl) rfl ?_
        refine wl_ov (ov_assign rfl) rfl ?_
        refine wl_nil ?_
        refine nx_then ?_
        refine gw_ret ?_
        refine nx_ret1 rfl rfl fun wx hm => ?_
        exact ⟨rfl, law_end hg1 hsb (grow_trans hm_w2.g (grow_weak hm.g))⟩

end Go.Proofs.YtmpomocahgcebaaDoor
